/- A region that draws its -/
import Derived.OrdersHeld
import Derived.StillTail
import Derived.Test.YtpncilciembjdaaGreatDoorBBI
import Derived.Test.YtpncilciembjdaaGreatDoorBBJ
import Derived.Test.YtpncilciembjdaaGreatDoorBBC
import Derived.Deep.RegionWith
set_option linter.all false
open Bool renaming and_eq_true->Ape
open List renaming getElem?_cons_succ->Apu,getElem?_cons_zero->ApK,getElem?_eq_getElem->Ψ,getElem?_map->Ap2,getElem?_toArray->ApX,length_append->η,length_cons->π,length_map->Api,setIfInBounds_toArray->Aqo,set_cons_succ->AqN,set_cons_zero->Aqx
open Nat renaming le_of_ble_eq_true->Are,le_of_lt->AqS,le_refl->φ,le_trans->Apx,not_lt_zero->AsL,zero_le->ApM
namespace Go.Proofs.YtpncilciembjdaaGreatDoor
noncomputable section
open Lib renaming IsBuilder->Aqn,byteCells->Aqa,hid->Apb
open Tryz renaming prog->ψ
open Go.RowKit
def Iv(w w':World)(k:Nat):Prop:=w.heap.size<=k/\k<w'.heap.size
structure Jmp (F:Nat->Prop) (w w':World):Prop where
 os:w'.os=w.os
 tape:w'.tape=w.tape
 output:w'.output=w.output
 size:w.heap.size<=w'.heap.size
 keep:∀ k,F k->w'.heap[k]? = w.heap[k]?
section
variable {F G:Nat->Prop} {w w1 w2:World}
theorem Jmp.refl(F:Nat->Prop)(w:World):Jmp F w w:=⟨rfl,rfl,rfl,φ _,λ_ _=>rfl⟩
theorem Jmp.trans(h:Jmp F w w1)(k:Jmp F w1 w2):Jmp F w w2:=⟨k.os.trans h.os,k.tape.trans h.tape,k.output.trans h.output,Apx h.size k.size,λi hi=>(k.keep i hi).trans (h.keep i hi)⟩
theorem Jmp.less(h:Jmp F w w1)(hs:∀ k,G k->F k):Jmp G w w1:=⟨h.os,h.tape,h.output,h.size,λi hi=>h.keep i (hs i hi)⟩
theorem Jmp.below(h:Jmp (Lt w.heap.size) w w1):Below w.heap.size w w1:=⟨h.os,h.tape,h.output,h.size,λi hi=>h.keep i hi⟩
theorem Jmp.of_below{B:Nat}(h:Below B w w1)(hF:∀ k,F k->k<B):Jmp F w w1:=⟨h.os,h.tape,h.output,h.size,λi hi=>h.block i (hF i hi)⟩
end
section
variable {P:Program} {md:Region.Mode} {ops:Array Oper} {QX:Exit->Act->World->Prop} {Q:Array Bool->(Nat->Prop)->Act->World->Prop}
def wpJ(P:Program)(md:Region.Mode)(ops:Array Oper)(QX:Exit->Act->World->Prop)(Q:Array Bool->(Nat->Prop)->Act->World->Prop):Nat->Array Bool->(Nat->Prop)->Act->World->Prop
 |0,listed,F,a,w=>Region.ready md ops listed=[]/\∀ w',Jmp F w w'->Q listed F a w'
 |n+1,listed,F,a,w=>(Region.ready md ops listed=[]->∀ w',Jmp F w w'->Q listed F a w') ∧
  ∀ i∈Region.ready md ops listed,∀ w',Jmp F w w'->wpOp P ops QX i (λa2 w2=>Below w'.heap.size w' w2/\wpJ P md ops QX Q n (listed.setIfInBounds i true) (λk=>F k\/Iv w' w2 k) a2 w2) a w'
theorem wpJ.jump{n:Nat}{listed:Array Bool}{F:Nat->Prop}{a:Act}{w w':World}(h:wpJ P md ops QX Q n listed F a w)(hj:Jmp F w w'):wpJ P md ops QX Q n listed F a w':=by
 cases n with
 |zero=>exact⟨h.1,λw2 h2=>h.2 w2 (hj.trans h2)⟩
 |succ n=>exact⟨λh0 w2 h2=>h.1 h0 w2 (hj.trans h2),λi hi w2 h2=>h.2 i hi w2 (hj.trans h2)⟩
theorem Jmp.grow{F:Nat->Prop}{w w':World}(hF:∀ k,F k->k<w.heap.size)(h:Jmp F w w'):∀ k,F k->k<w'.heap.size:=λk hk=>Nat.lt_of_lt_of_le (hF k hk) h.size
theorem Jmp.cell{F:Nat->Prop}{w w':World}(h:Jmp F w w'){b:Nat}(o:Nat)(hb:F b):w'.cell? ⟨b,o,none⟩=w.cell? ⟨b,o,none⟩:=World.cell?_of_block (a:=⟨b,o,none⟩) (h.keep b hb)
theorem Jmp.from{F:Nat->Prop}{w w1 w2:World}(h:Jmp F w w1)(hb:Below w1.heap.size w1 w2)(hF:∀ k,F k->k<w1.heap.size):Jmp F w w2:=h.trans (Jmp.of_below hb hF)
theorem Jmp.laid{F:Nat->Prop}{v w1 w2:World}(k:Jmp (λk=>F k\/Iv v w1 k) w1 w2){b:Nat}(h1:v.heap.size<=b)(h2:b<w1.heap.size):w2.heap[b]? = w1.heap[b]?:=k.keep b (.inr ⟨h1,h2⟩)
end
structure PartH (dq:Nat->DF) (names:AV) (one:Zi) (p:Pt) (it:Bool × List UInt8) where
 nm:List UInt8
 many:Zi
 c:Int
 s:Int
 name:dq 188 [iv p.v,names] []=some (sv (CV nm),[])
 abs:dq 189 [.agg (eZ p.z)] []=some (.agg (eZ many),[])
 cmp:dq 155 [.agg (eZ many),.agg (eZ one)] []=some (iv c,[])
 sign:dq 64 [.agg (eZ p.z)] []=some (iv s,[])
 neg:it.1=decide (s<0)
 text:c=0/\it.2=nm\/c≠0/\∃ tx,dq 190 [.agg (eZ many)] []=some (sv (CV tx),[])/\it.2=tx++42::nm
def FA(l:List UInt8)(items:List (Bool × List UInt8)):List UInt8:=items.foldl (λl it=>FX l it.1 it.2) l
theorem VJ{μ:Mu}{F:AQ}{B:Nat}{w:World}{A:Option Addr}{n c:Nat}{ps:List Pt}(h:Rep μ F w (.ls (ps.map eP)) (.slice A n c))(hF:∀ g o,F g o->g<B)(h0:0<ps.length) :
  ∃ b o,A=some ⟨b,o,none⟩/\b<B/\∀ i (hi:i<ps.length),w.cell? ⟨b,o+i*3,none⟩=some (.int .i64 ps[i].v)/\w.cell? ⟨b,o+i*3+1,none⟩=some (.bool ps[i].z.neg)/\∃ A' c',w.cell? ⟨b,o+i*3+2,none⟩=some (.slice A' ps[i].z.abs.length c')/\Rep μ F w (eN ps[i].z.abs) (.slice A' ps[i].z.abs.length c'):=by
 simp only[Rep]at h;obtain⟨_,A2,c2,h1,h2,h3,h4⟩:=h;injection h1 with e1 e2 e3
 subst e1;obtain⟨g,o,e,hA,hr⟩:=h4 (by
  intro hh;rw[List.map_eq_nil_iff]at hh;rw[hh]at h0;exact Nat.lt_irrefl _ h0)
 have he:e=3:=by
  have:=hr.get (i:=0) (x:=eP ps[0]) (by rw[Ap2,Ψ h0];rfl);have:=this.1;unfold eP at this;simpa using this.symm
 subst he;have cell:∀ i (hi:i<ps.length),w.cell? ⟨g,o+i*3,none⟩=some (.int .i64 ps[i].v)/\w.cell? ⟨g,o+i*3+1,none⟩=some (.bool ps[i].z.neg)/\∃ A' c',w.cell? ⟨g,o+i*3+2,none⟩=some (.slice A' ps[i].z.abs.length c')/\Rep μ F w (eN ps[i].z.abs) (.slice A' ps[i].z.abs.length c'):=λi hi=>by
  have ha:=(hr.get (i:=i) (x:=eP ps[i]) (by rw[Ap2,Ψ hi];rfl)).2;unfold eP at ha;obtain⟨_,u0,c0,r0⟩:=ha.get (i:=0) (x:=iv ps[i].v) rfl;obtain⟨_,u1,c1,r1⟩:=ha.get (i:=1) (x:=bv ps[i].z.neg) rfl;obtain⟨_,u2,c2,r2⟩:=ha.get (i:=2) (x:=eN ps[i].z.abs) rfl;obtain rfl:=Rp.int_inv (Rep.plain _ _ rfl r0);obtain rfl:=Rp.bool_inv (Rep.plain _ _ rfl r1);obtain⟨A',c',rfl⟩:=Rp.ls_inv (Rep.plain _ _ rfl r2);rw[Api]at c2 r2;exact⟨c0,c1,A',c',c2,r2⟩
 have ha:=(hr.get (i:=0) (x:=eP ps[0]) (by rw[Ap2,Ψ h0];rfl)).2;unfold eP at ha;obtain⟨hf,_⟩:=ha.get (i:=0) (x:=iv ps[0].v) rfl;exact⟨g,o,hA,hF _ _ hf,cell⟩
structure KiH (dq:Nat->DF) (ps:List Pt) (kz:Zi) (l fin:List UInt8) where
 s:Int
 sign:dq 64 [.agg (eZ kz)] []=some (iv s,[])
 text:s=0/\ps≠[]/\fin=l\/(s≠0\/ps=[])/\∃ many tx,dq 189 [.agg (eZ kz)] []=some (.agg (eZ many),[])/\dq 190 [.agg (eZ many)] []=some (sv (CV tx),[])/\fin=FX l (decide (s<0)) tx/\l.length+3+tx.length<=140737488355328
theorem Wi(items:List (Bool × List UInt8))(k:Nat)(h:k<items.length):FA [] (items.take (k+1))=FX (FA [] (items.take k)) items[k].1 items[k].2:=by
 unfold FA;rw[List.take_succ_eq_append_getElem h,List.foldl_append];rfl
theorem NP(a:List UInt8):(CV a).size=a.length:=by simp[CV,ByteArray.size]
theorem Qd(a b:List UInt8):CV a++CV b=CV (a++b):=by
 unfold CV;apply ByteArray.ext;simp[ByteArray.data_append]
theorem Dw{w w':World}{T e:TypeId}{B b:Nat}{bs:List Value}(h:Aqn T e B b bs w)(hb:Below w.heap.size w w'):Aqn T e B b bs w':=by
 rcases h with h|h
 .obtain⟨hB,v,h1,h2,h3⟩:=h
  have hl:=Lib.BuilderAt.lt ⟨hB,v,h1,h2,h3⟩;exact .inl ⟨hB,v,(hb.block b hl).trans h1,Rg h2 hb,h3⟩
 .obtain⟨hB,v,h1,h2,h3⟩:=h
  have hl:=Lib.BuilderAt.lt ⟨hB,v,h1,h2,h3⟩;exact .inr ⟨hB,v,(hb.block b hl).trans h1,Rg h2 hb,h3⟩
set_option maxHeartbeats 4000000 in
set_option maxRecDepth 100000 in
theorem PX(dq:Nat->DF)(G:∀ f,AW (Ba ψ f) (dq f))(t0 t1 t2:AV)(names:AV)(ps:List Pt)(kz one:Zi)(items:List (Bool × List UInt8))(l0':items.length=ps.length)
  (hP:dq 62 [.agg [t0,t1,t2]] []=some (.agg (eT ⟨ps,kz⟩),[])) (hO:dq 126 [iv 1] []=some (.agg (eZ one),[]))
  (hI:∀ i (h:i<ps.length),PartH dq names one ps[i] items[i]) (hL:∀ i (h:i<ps.length),(FA [] (items.take i)).length+3+items[i].2.length<=140737488355328) (fin:List UInt8) (hK:KiH dq ps kz (FA [] items) fin) (w:World) (v0 v1 v2 nv:Value) (r0:Rp w t0 v0) (r1:Rp w t1 v1) (r2:Rp w t2 v2) (rn:Rp w names nv) :
  Calls ψ 130 #[.agg #[v0,v1,v2],nv] w λe w'=>e=.returned (.string ⟨fin.toArray⟩)/\Below w.heap.size w w':=by
 have HR:=Apb (RpL.cons r0 (RpL.cons r1 (RpL.cons r2 (RpL.nil w))));have HN:=Apb rn;clear r0 r1 r2 rn
 go_enter Tryz.func130,Tryz.ntmps130
 go_wp2_with (go_at_call 62;refine(Mj (G _) hP w 28 #[v0,v1,v2] [.agg #[v0,v1,v2]] (RpL.cons (Rp.agg HR.out) (RpL.nil _))).mono ?_)
 rintro e w1 ⟨u,μ',F',c',rfl,hb1,hbk,hsz,hu,hF1,hF2⟩;have hu0:Rp w1 (.agg (eT ⟨ps,kz⟩)) u:=Rep.plain _ _ rfl hu;obtain⟨us,rfl,hus⟩:=Rp.agg_inv hu0;obtain⟨vp,us,rfl,rp,hus⟩:=RpL.cons_inv hus;obtain⟨vk,us,rfl,rk,hus⟩:=RpL.cons_inv hus;obtain⟨va,us,rfl,ra,hus⟩:=RpL.cons_inv hus;obtain rfl:=RpL.nil_inv hus;obtain rfl:=Rp.bool_inv rk;obtain⟨A,ca,rfl⟩:=Rp.ls_inv rp;obtain⟨A2,ca2,rfl⟩:=Rp.ls_inv ra;clear rp ra rk hu0 hus;obtain⟨d0,d1,d2,rfl⟩:∃ d0 d1 d2,c'=#[d0,d1,d2]:=by
  obtain⟨l⟩:=c'
  match l,hsz with
  |[a,b,c],_=>exact⟨a,b,c,rfl⟩
 have HBX:=Apb (show Blk w1 w.heap.size 28 #[d0,d1,d2] from hbk);have HU:=Apb hu;have HF2:=Apb hF2;have HB1:=Apb hb1;have HF1:=Apb hF1;clear hu hF1 hF2 hsz hbk hb1;have c0:w1.cell? ⟨w.heap.size,0,none⟩=some d0:=HBX.out.cell 0;have c1:w1.cell? ⟨w.heap.size,1,none⟩=some d1:=HBX.out.cell 1;have c2:w1.cell? ⟨w.heap.size,2,none⟩=some d2:=HBX.out.cell 2;have f0:w1.frozen? ⟨w.heap.size,0,none⟩=false:=HBX.out.frozen 0;have f1:w1.frozen? ⟨w.heap.size,1,none⟩=false:=HBX.out.frozen 1;have f2:w1.frozen? ⟨w.heap.size,2,none⟩=false:=HBX.out.frozen 2;have hb2:=(((HBX.out.set_ 0 (.slice A ps.length ca)).set_ 1 (.bool kz.neg)).set_ 2 (.slice A2 kz.abs.length ca2)).alloc (.cells #[.pointer none,.slice none 0 0] 180);have y0:=hb2.cell 0;have HB2:=Apb hb2;clear hb2;simp only[Aqo,Aqx,AqN,ApX,ApK]at y0;have hu2:=Zb HU.out HBX.out HF1.out HF2.out (.slice A ps.length ca) (.bool kz.neg) (.slice A2 kz.abs.length ca2) (.cells #[.pointer none,.slice none 0 0] 180);obtain⟨rp,_,ra⟩:=Za hu2;clear hu2;simp only[Api]at rp ra;have hml:ps.length<=9223372036854775807:=by
  have h:=rp;simp only[Rep]at h;obtain⟨_,A3,c3,h1,h2,h3,_⟩:=h;rw[Api]at h2;unfold maxLen at h3;omega
 have RP:=Apb rp;have RA:=Apb ra;clear rp ra;have hsz2:(((w1.setCell ⟨w.heap.size,0,none⟩ (.slice A ps.length ca)).setCell ⟨w.heap.size,1,none⟩ (.bool kz.neg)).setCell ⟨w.heap.size,2,none⟩ (.slice A2 kz.abs.length ca2)).heap.size=w1.heap.size:=by simp
 have hbld:Aqn 180 5 w1.heap.size w1.heap.size (Aqa (FA [] (items.take 0))) ((((w1.setCell ⟨w.heap.size,0,none⟩ (.slice A ps.length ca)).setCell ⟨w.heap.size,1,none⟩ (.bool kz.neg)).setCell ⟨w.heap.size,2,none⟩ (.slice A2 kz.abs.length ca2)).alloc (.cells #[.pointer none,.slice none 0 0] 180)):=by
  refine .inl ⟨φ _,.slice none 0 0,?_,World.ownsRow_nil _ _ _ _,by simp[Value.ownBlock]⟩;have:=heap_alloc_new (((w1.setCell ⟨w.heap.size,0,none⟩ (.slice A ps.length ca)).setCell ⟨w.heap.size,1,none⟩ (.bool kz.neg)).setCell ⟨w.heap.size,2,none⟩ (.slice A2 kz.abs.length ca2)) (.cells #[.pointer none,.slice none 0 0] 180);rw[hsz2]at this;exact this
 have hbw:Below w.heap.size w ((((w1.setCell ⟨w.heap.size,0,none⟩ (.slice A ps.length ca)).setCell ⟨w.heap.size,1,none⟩ (.bool kz.neg)).setCell ⟨w.heap.size,2,none⟩ (.slice A2 kz.abs.length ca2)).alloc (.cells #[.pointer none,.slice none 0 0] 180)):=
  ((((HB1.out.setCell (p:=⟨w.heap.size,0,none⟩) (φ _) _).setCell (p:=⟨w.heap.size,1,none⟩) (φ _) _).setCell (p:=⟨w.heap.size,2,none⟩) (φ _) _).alloc (by rw[hsz2];exact HB1.out.size) _)
 have HBL:=Apb hbld;have HBW:=Apb hbw;clear hsz2 hbld hbw
 go_wp2_with fail
 revert y0;have RP:=RP.out;have RA:=RA.out;have HB2:=HB2.out;have HBL:=HBL.out;have HBW:=HBW.out;generalize hW2:((((w1.setCell ⟨w.heap.size,0,none⟩ (.slice A ps.length ca)).setCell ⟨w.heap.size,1,none⟩ (.bool kz.neg)).setCell ⟨w.heap.size,2,none⟩ (.slice A2 kz.abs.length ca2)).alloc (.cells #[.pointer none,.slice none 0 0] 180))=W2 at *;intro y0
 go_loopw [15] (λq wr=>∃ k:Nat,k<=ps.length/\q=.int .i64 k/\Aqn 180 5 w1.heap.size w1.heap.size (Aqa (FA [] (items.take k))) wr/\Below w1.heap.size W2 wr) (λq _=>ps.length-(intOf q).toNat)
 case atStart=>exact⟨0,ApM _,rfl,HBL,Below.refl _ _⟩
 case round=>
  obtain⟨k,hk,rfl,hbld,hb⟩:=hrel;have HBLD:=Apb hbld;have HB:=Apb hb;have RP:=Apb RP;have RA:=Apb RA;have HB2:=Apb HB2;have HBL:=Apb HBL;have HBW:=Apb HBW;have HW2:=Apb hW2;clear hbld hb c0 c1 c2 f0 f1 f2 y0 hW2
  by_cases hlt:k<ps.length
  .obtain⟨b,o,rfl,hbl,hc⟩:=VJ RP.out HF1.out (Nat.lt_of_le_of_lt (ApM _) hlt)
   obtain⟨d0',d1',A',cc',d2',rz⟩:=hc k hlt;have e0:=(HB.out.cell (p:=⟨b,o+k*3,none⟩) hbl).trans d0';have e1:=(HB.out.cell (p:=⟨b,o+k*3+1,none⟩) hbl).trans d1';have e2:=(HB.out.cell (p:=⟨b,o+k*3+2,none⟩) hbl).trans d2';have l0:b<wr.heap.size:=Aca e0;have z0:(0:Int)<=(k:Int):=by omega
   have z1:(k:Int)<(ps.length:Int):=by omega
   have hih:=hI k hlt;have hlen:=hL k hlt;have htk:=Wi items k (l0'▸hlt);have hrn:Rp wr names nv:=HN.out.below (HBW.out.trans (HB.out.mono HB1.out.size));have hrz:Rp wr (eN ps[k].z.abs) (.slice A' ps[k].z.abs.length cc'):=Rep.plain _ _ rfl (Rep.later (μ':=μ') ⟨λ_ _ h=>h,λg o hg=>⟨hg,HB.out.cell (p:=⟨g,o,none⟩) (HF1.out g o hg)⟩⟩ _ _ rz);have HRN:=Apb hrn;clear hc d0' d1' d2' rz hrn;revert hih hlen htk e0 e1 e2 hrz;generalize ps[k]=p;generalize items[k]'(l0'▸hlt)=it;obtain⟨pv_,pn_,pa_⟩:=p;obtain⟨itn,itx⟩:=it;intro e0 e1 e2 hih hlen htk hrz;have HRZ:=Apb hrz;have HLEN:=Apb hlen;have HTK:=Apb htk;clear hrz hlen htk;simp only at e0 e1 e2;obtain⟨nm,many,cm,sg,gname,gabs,gcmp,gsign,hneg,htext⟩:=hih;have HNEG:=Apb hneg;have HTEXT:=Apb htext;clear hneg htext
   go_wp2_with (go_at_call 188;refine(BH (G _) gname rfl _ [.int .i64 pv_,nv] (RpL.cons (Rp.int _ _) (RpL.cons (HRN.out.below (BV _ _)) (RpL.nil _)))).mono ?_)
   first|rintro e w3 u3 rfl hb3 hu3|rintro e w3 ⟨u3,rfl,hb3,hu3⟩
   obtain rfl:=Rp.str_inv hu3
   replace hb3:Below (wr.alloc (.cells #[.int .i64 pv_,.bool pn_,.slice A' pa_.length cc'] 84)).heap.size (wr.alloc (.cells #[.int .i64 pv_,.bool pn_,.slice A' pa_.length cc'] 84)) w3:=by rw[World.size_alloc];exact hb3
   have HBX3:=Apb ((Blk.new wr 84 #[.int .i64 pv_,.bool pn_,.slice A' pa_.length cc']).call hb3);have HB3:=Apb (B4 (BV wr _) hb3);clear hb3 hu3 e0 e1 e2;have x1:=HBX3.out.cell 1;have x2:=HBX3.out.cell 2
   go_wp2_with (go_at_call 189;refine(BH (G _) gabs rfl _ [.agg #[.bool pn_,.slice A' pa_.length cc']] (RpL.cons (Rp.agg (RpL.cons (Rp.bool _ _) (RpL.cons (HRZ.out.below HB3.out) (RpL.nil _)))) (RpL.nil _))).mono ?_)
   first|rintro e w4 u4 rfl hb4 hu4|rintro e w4 ⟨u4,rfl,hb4,hu4⟩
   obtain⟨us,rfl,hus⟩:=Rp.agg_inv hu4;obtain⟨vm0,us,rfl,rm0,hus⟩:=RpL.cons_inv hus;obtain⟨vm1,us,rfl,rm1,hus⟩:=RpL.cons_inv hus;obtain rfl:=RpL.nil_inv hus;obtain rfl:=Rp.bool_inv rm0;obtain⟨Am,cm',rfl⟩:=Rp.ls_inv rm1;simp only[Api]at rm1;have HBX5:=Apb ((HBX3.out.call hb4).alloc (.cells #[.bool many.neg,.slice Am many.abs.length cm'] 26));have HM5:=Apb (Blk.new w4 26 #[.bool many.neg,.slice Am many.abs.length cm']);have HB5:=Apb (B4 (B4 HB3.out hb4) (BV w4 (.cells #[.bool many.neg,.slice Am many.abs.length cm'] 26)));have HRM:=Apb (Rp.agg (RpL.cons (rm0.below (BV w4 (.cells #[.bool many.neg,.slice Am many.abs.length cm'] 26))) (RpL.cons (rm1.below (BV w4 (.cells #[.bool many.neg,.slice Am many.abs.length cm'] 26))) (RpL.nil _))));clear hb4 hu4 x1 x2 rm0 rm1 hus
   go_wp2_with fail
   generalize w4.alloc (.cells #[.bool many.neg,.slice Am many.abs.length cm'] 26)=w5 at *;have x1:=HM5.out.cell 0;have x2:=HM5.out.cell 1;have x3:=HM5.out.lt;simp only[ApX,ApK,Apu]at x1 x2
   go_region_with (first
    | (go_at_call 126
       refine(BH (G _) hO rfl _ [.int .i64 1] (RpL.cons (Rp.int _ _) (RpL.nil _))).mono ?_;rintro e w6 ⟨u6,rfl,hb6,hu6⟩
       replace hb6:=FH hb6
       obtain⟨us,rfl,hus⟩:=Rp.agg_inv hu6;have x1:=(HM5.out.call hb6).cell 0;have x2:=(HM5.out.call hb6).cell 1;have x3:=(HM5.out.call hb6).lt;simp only[ApX,ApK,Apu]at x1 x2)
    | (go_at_call 155
       refine(BH (G _) gcmp rfl _ [.agg #[.bool many.neg,.slice Am many.abs.length cm'],.agg us.toArray] (RpL.cons (HRM.out.below hb6) (RpL.cons (Rp.agg hus) (RpL.nil _)))).mono ?_;rintro e w7 ⟨u7,rfl,hb7,hu7⟩;obtain rfl:=Rp.int_inv hu7))
   all_goals
    have HB7:=Apb (B4 (B4 HB5.out hb6) hb7);have HM7:=Apb ((HM5.out.call hb6).call hb7);have HBX7:=Apb ((HBX5.out.call hb6).call hb7);have HRM7:=Apb ((HRM.out.below hb6).below hb7);have HRZ7:=Apb (HRZ.out.below HB7.out);have HBD7:=Apb (Dw HBLD.out HB7.out);have HLW:=Apb (HBLD.out.elim Lib.BuilderAt.lt Lib.BuilderAt.lt);clear hb6 hb7 hu6 hu7 hus x1 x2 x3;have x1:=HM7.out.cell 0;have x2:=HM7.out.cell 1;have x3:=HBX7.out.cell 1;have x4:=HBX7.out.cell 2;simp only[ApX,ApK,Apu]at x1 x2 x3 x4;rcases HTEXT.out with⟨hc,hit⟩|⟨hc,tx,gtext,hit⟩
    .have hcb:(cm != 0)=false:=by simp[hc]
     subst hit
     go_wp2_with (go_at_call 64;refine(BH (G _) gsign rfl _ [.agg #[.bool pn_,.slice A' pa_.length cc']] (RpL.cons (Rp.agg (RpL.cons (Rp.bool _ _) (RpL.cons HRZ7.out (RpL.nil _)))) (RpL.nil _))).mono ?_)
     first|rintro e w8 u8 rfl hb8 hu8|rintro e w8 ⟨u8,rfl,hb8,hu8⟩
     obtain rfl:=Rp.int_inv hu8;have HB8:=Apb (B4 HB7.out hb8);have HBD8:=Apb (Dw HBD7.out hb8);clear hb8 hu8 x3 x4
     go_wp2_with (go_at_call 191;refine(E6 w1.heap.size w1.heap.size (FA [] (items.take k)) (itx) (decide (sg<0)) _ HBD8.out HLEN.out (Apx (AqS HLW.out) HB8.out.size)).mono ?_)
     first|rintro e w9 rfl hd9 hb9 hk9|rintro e w9 ⟨rfl,hd9,hb9,hk9⟩
     have HD9:=Apb hd9;have HB9:=Apb (HB.out.trans ((HB8.out.mono (AqS HLW.out)).trans hb9));clear hd9 hb9 hk9
     go_wp2_with fail
     go_roundw
     case rel=>exact⟨k+1,hlt,by go_num,.inr (by have h:=HTK.out;(try simp only at h);rw[h,HNEG.out];exact HD9.out),HB9.out⟩
     case measure=>simp[intOf];omega
    .have hcb:(cm != 0)=true:=by simp[hc]
     subst hit;have hs:=HLEN.out;simp only[η,π]at hs;have s1:(CV tx).size<=140737488355328:=by rw[NP];omega
     have s2:(CV nm).size<=140737488355328:=by rw[NP];omega
     have hcat:CV tx++⟨#[42]⟩++CV nm=CV (tx++42::nm):=by show CV tx++CV [42]++CV nm=_;rw[Qd,Qd,List.append_assoc];rfl
     have HCAT:=Apb hcat;clear hs hcat
     go_wp2_with (go_at_call 190;refine(BH (G _) gtext rfl _ [.agg #[.bool many.neg,.slice Am many.abs.length cm']] (RpL.cons HRM7.out (RpL.nil _))).mono ?_)
     first|rintro e wt ut rfl hbt hut|rintro e wt ⟨ut,rfl,hbt,hut⟩
     obtain rfl:=Rp.str_inv hut
     replace HB7:=Apb (B4 HB7.out hbt)
     replace HBX7:=Apb (HBX7.out.call hbt)
     replace HRZ7:=Apb (HRZ7.out.below hbt)
     replace HBD7:=Apb (Dw HBD7.out hbt)
     clear hbt hut x1 x2 x3 x4;have x3:=HBX7.out.cell 1;have x4:=HBX7.out.cell 2;simp only[ApX,ApK,Apu]at x3 x4
     go_wp2_with fail
     simp only[HCAT.out]
     go_wp2_with (go_at_call 64;refine(BH (G _) gsign rfl _ [.agg #[.bool pn_,.slice A' pa_.length cc']] (RpL.cons (Rp.agg (RpL.cons (Rp.bool _ _) (RpL.cons HRZ7.out (RpL.nil _)))) (RpL.nil _))).mono ?_)
     first|rintro e w8 u8 rfl hb8 hu8|rintro e w8 ⟨u8,rfl,hb8,hu8⟩
     obtain rfl:=Rp.int_inv hu8;have HB8:=Apb (B4 HB7.out hb8);have HBD8:=Apb (Dw HBD7.out hb8);clear hb8 hu8 x3 x4
     go_wp2_with (go_at_call 191;refine(E6 w1.heap.size w1.heap.size (FA [] (items.take k)) (tx++42::nm) (decide (sg<0)) _ HBD8.out HLEN.out (Apx (AqS HLW.out) HB8.out.size)).mono ?_)
     first|rintro e w9 rfl hd9 hb9 hk9|rintro e w9 ⟨rfl,hd9,hb9,hk9⟩
     have HD9:=Apb hd9;have HB9:=Apb (HB.out.trans ((HB8.out.mono (AqS HLW.out)).trans hb9));clear hd9 hb9 hk9
     go_wp2_with fail
     go_roundw
     case rel=>exact⟨k+1,hlt,by go_num,.inr (by have h:=HTK.out;(try simp only at h);rw[h,HNEG.out];exact HD9.out),HB9.out⟩
     case measure=>simp[intOf];omega
  .obtain rfl:k=ps.length:=by omega
   have z1:¬ (ps.length:Int)<(ps.length:Int):=by omega
   have HBX:=Apb (HB2.out.below HB.out (HBX.out.lt));have hra:Rp wr (eN kz.abs) (.slice A2 kz.abs.length ca2):=Rep.plain _ _ rfl (Rep.later (μ':=μ') ⟨λ_ _ h=>h,λg o hg=>⟨hg,HB.out.cell (p:=⟨g,o,none⟩) (HF1.out g o hg)⟩⟩ _ _ RA.out);have HRK:=Apb (Rp.agg (RpL.cons (Rp.bool wr kz.neg) (RpL.cons hra (RpL.nil _))));have HBD:=HBLD.out;rw[←l0',List.take_length]at HBD;have HBD:=Apb HBD;have HLW:=Apb (HBLD.out.elim Lib.BuilderAt.lt Lib.BuilderAt.lt);have HBW:=Apb (HBW.out.trans (HB.out.mono HB1.out.size));clear hra HBLD RP RA HB2 HB;have x0:=HBX.out.cell 0;have x1:=HBX.out.cell 1;have x2:=HBX.out.cell 2;simp only[Aqo,Aqx,AqN,ApX,ApK,Apu]at x0 x1 x2;obtain⟨s,gsign,htext⟩:=hK;rcases htext with⟨hs0,hp0,hfin⟩|⟨hp,many,tx,gabs,gtext,hfin,hlen⟩
   .subst hs0
    have z2:((ps.length:Int) == 0)=false:=by
     have:=List.length_pos_iff.2 hp0;simp;omega
    go_wp2_with (go_at_call 64;refine(BH (G _) gsign rfl _ [.agg #[.bool kz.neg,.slice A2 kz.abs.length ca2]] (RpL.cons HRK.out (RpL.nil _))).mono ?_)
    first|rintro e w8 u8 rfl hb8 hu8|rintro e w8 ⟨u8,rfl,hb8,hu8⟩
    obtain rfl:=Rp.int_inv hu8;have HBD8:=Apb (Dw HBD.out hb8);have HB8:=Apb (HBW.out.trans (hb8.mono (Apx HB1.out.size (AqS HLW.out))));have HZ8:=Apb (Apx (AqS HLW.out) hb8.size)
    replace HBX:=Apb (HBX.out.call hb8)
    clear hb8 hu8 x0 x1 x2;have x0:=HBX.out.cell 0;simp only[Aqo,Aqx,AqN,ApX,ApK,Apu]at x0
    go_wp2_with (go_at_call 192;refine(Tryz.Builder_String_any w1.heap.size _ _ _ HBD8.out HZ8.out).mono ?_)
    first|rintro e w9 rfl hb9|rintro e w9 ⟨rfl,hb9⟩
    have HB9:=Apb (HB8.out.trans (hb9.mono HB1.out.size));clear hb9
    go_wp2
    go_ret
    subst hfin;exact⟨rfl,HB9.out⟩
   .subst hfin
    have HLEN:=Apb hlen;clear hlen
    by_cases hs:s=0
    .obtain rfl:ps=[]:=by rcases hp with h|h;exact absurd hs h;exact h
     subst hs;have z2:((([]:List Pt).length:Int) == 0)=true:=rfl
     go_wp2_with (go_at_call 64;refine(BH (G _) gsign rfl _ [.agg #[.bool kz.neg,.slice A2 kz.abs.length ca2]] (RpL.cons HRK.out (RpL.nil _))).mono ?_)
     first|rintro e w8 u8 rfl hb8 hu8|rintro e w8 ⟨u8,rfl,hb8,hu8⟩
     obtain rfl:=Rp.int_inv hu8;have HBD8:=Apb (Dw HBD.out hb8);have HB8:=Apb (HBW.out.trans (hb8.mono (Apx HB1.out.size (AqS HLW.out))));have HZ8:=Apb (Apx (AqS HLW.out) hb8.size)
     replace HBX:=Apb (HBX.out.call hb8)
     replace HRK:=Apb (HRK.out.below hb8)
     clear hb8 hu8 x0 x1 x2;have x0:=HBX.out.cell 0;have x1:=HBX.out.cell 1;have x2:=HBX.out.cell 2;simp only[Aqo,Aqx,AqN,ApX,ApK,Apu]at x0 x1 x2
     go_wp2_with fail
     go_region_with (first
      | (go_at_call 64
         refine(BH (G _) gsign rfl _ [.agg #[.bool kz.neg,.slice A2 kz.abs.length ca2]] (RpL.cons (HRK.out.below (Below.refl _ _).drew) (RpL.nil _))).mono ?_;rintro e w9 ⟨u9,rfl,hb9,hu9⟩
         replace hb9:=FH hb9
         obtain rfl:=Rp.int_inv hu9;have x1:=(HBX.out.call hb9).cell 1;have x2:=(HBX.out.call hb9).cell 2;have x3:=(HBX.out.call hb9).lt;simp only[Aqo,Aqx,AqN,ApX,ApK,Apu]at x1 x2)
      | (go_at_call 189
         refine(BH (G _) gabs rfl _ [.agg #[.bool kz.neg,.slice A2 kz.abs.length ca2]] (RpL.cons (HRK.out.below hb9) (RpL.nil _))).mono ?_;rintro e wa ⟨ua,rfl,hba,hua⟩;obtain⟨usa,rfl,hul⟩:=Rp.agg_inv hua)
      | (go_at_call 190
         refine(BH (G _) gtext rfl _ [.agg usa.toArray] (RpL.cons (Rp.agg hul) (RpL.nil _))).mono ?_;rintro e wt ⟨ut,rfl,hbt,hut⟩;obtain rfl:=Rp.str_inv hut;have hx:Below w8.heap.size w8 wt:=B4 (B4 hb9 hba) hbt;have hz:Aqn 180 5 w1.heap.size w1.heap.size (Aqa (FA [] items)) wt:=Dw HBD8.out hx;have hs:w1.heap.size<=wt.heap.size:=Apx HZ8.out hx.size;have HX:=Apb hx;have HZ:=Apb hz;have HS:=Apb hs;clear hx hz hs hb9 hba hbt x1 x2)
      | (go_at_call 191
         refine(E6 w1.heap.size w1.heap.size (FA [] items) tx false wt HZ.out HLEN.out HS.out).mono ?_;rintro e wz ⟨rfl,hdz,hbz,hkz⟩))
     all_goals
      have HDZ:=Apb hdz;have hx2:Below w.heap.size w8 wt:=HX.out.mono (Apx HB1.out.size HZ8.out);have hx3:Below w.heap.size wt wz:=hbz.mono HB1.out.size;have hx4:Below w.heap.size w wz:=HB8.out.trans (hx2.trans hx3);have HBZ:=Apb hx4;have HZZ:=Apb (Apx HS.out hbz.size);clear hdz hbz hkz hx2 hx3 hx4
      go_wp2_with (go_at_call 192;refine(Tryz.Builder_String_any w1.heap.size _ (FX (FA [] items) false tx) _ (.inr HDZ.out) HZZ.out).mono ?_)
      first|rintro e wq rfl hbq|rintro e wq ⟨rfl,hbq⟩
      have HBQ:=Apb (HBZ.out.trans (hbq.mono HB1.out.size));clear hbq
      go_wp2
      go_ret
      exact⟨rfl,HBQ.out⟩
    .have z2:(s != 0)=true:=by simp[hs]
     go_wp2_with (go_at_call 64;refine(BH (G _) gsign rfl _ [.agg #[.bool kz.neg,.slice A2 kz.abs.length ca2]] (RpL.cons HRK.out (RpL.nil _))).mono ?_)
     first|rintro e w8 u8 rfl hb8 hu8|rintro e w8 ⟨u8,rfl,hb8,hu8⟩
     obtain rfl:=Rp.int_inv hu8;have HBD8:=Apb (Dw HBD.out hb8);have HB8:=Apb (HBW.out.trans (hb8.mono (Apx HB1.out.size (AqS HLW.out))));have HZ8:=Apb (Apx (AqS HLW.out) hb8.size)
     replace HBX:=Apb (HBX.out.call hb8)
     replace HRK:=Apb (HRK.out.below hb8)
     clear hb8 hu8 x0 x1 x2;have x0:=HBX.out.cell 0;have x1:=HBX.out.cell 1;have x2:=HBX.out.cell 2;simp only[Aqo,Aqx,AqN,ApX,ApK,Apu]at x0 x1 x2
     go_wp2_with fail
     go_region_with (first
      | (go_at_call 64
         refine(BH (G _) gsign rfl _ [.agg #[.bool kz.neg,.slice A2 kz.abs.length ca2]] (RpL.cons (HRK.out.below (Below.refl _ _).drew) (RpL.nil _))).mono ?_;rintro e w9 ⟨u9,rfl,hb9,hu9⟩
         replace hb9:=FH hb9
         obtain rfl:=Rp.int_inv hu9;have x1:=(HBX.out.call hb9).cell 1;have x2:=(HBX.out.call hb9).cell 2;have x3:=(HBX.out.call hb9).lt;simp only[Aqo,Aqx,AqN,ApX,ApK,Apu]at x1 x2)
      | (go_at_call 189
         refine(BH (G _) gabs rfl _ [.agg #[.bool kz.neg,.slice A2 kz.abs.length ca2]] (RpL.cons (HRK.out.below hb9) (RpL.nil _))).mono ?_;rintro e wa ⟨ua,rfl,hba,hua⟩;obtain⟨usa,rfl,hul⟩:=Rp.agg_inv hua)
      | (go_at_call 190
         refine(BH (G _) gtext rfl _ [.agg usa.toArray] (RpL.cons (Rp.agg hul) (RpL.nil _))).mono ?_;rintro e wt ⟨ut,rfl,hbt,hut⟩;obtain rfl:=Rp.str_inv hut;have hx:Below w8.heap.size w8 wt:=B4 (B4 hb9 hba) hbt;have hz:Aqn 180 5 w1.heap.size w1.heap.size (Aqa (FA [] items)) wt:=Dw HBD8.out hx;have hs:w1.heap.size<=wt.heap.size:=Apx HZ8.out hx.size;have HX:=Apb hx;have HZ:=Apb hz;have HS:=Apb hs;clear hx hz hs hb9 hba hbt x1 x2)
      | (go_at_call 191
         refine(E6 w1.heap.size w1.heap.size (FA [] items) tx (decide (s<0)) wt HZ.out HLEN.out HS.out).mono ?_;rintro e wz ⟨rfl,hdz,hbz,hkz⟩))
     all_goals
      have HDZ:=Apb hdz;have hx2:Below w.heap.size w8 wt:=HX.out.mono (Apx HB1.out.size HZ8.out);have hx3:Below w.heap.size wt wz:=hbz.mono HB1.out.size;have hx4:Below w.heap.size w wz:=HB8.out.trans (hx2.trans hx3);have HBZ:=Apb hx4;have HZZ:=Apb (Apx HS.out hbz.size);clear hdz hbz hkz hx2 hx3 hx4
      go_wp2_with (go_at_call 192;refine(Tryz.Builder_String_any w1.heap.size _ (FX (FA [] items) (decide (s<0)) tx) _ (.inr HDZ.out) HZZ.out).mono ?_)
      first|rintro e wq rfl hbq|rintro e wq ⟨rfl,hbq⟩
      have HBQ:=Apb (HBZ.out.trans (hbq.mono HB1.out.size));clear hbq
      go_wp2
      go_ret
      exact⟨rfl,HBQ.out⟩
def FQ:List (List AV)->Option (List Nat)
 |[]=>some []
 |[.v (.int .u32 (.ofNat n))]::r=>(match FQ r with
  |some l=>some (n::l)
  |none=>none)
 |_::_=>none
theorem EY:∀{xs:List (List AV)} {l:List Nat},FQ xs=some l->xs=l.map eL
 |[],l,h=>by injection h with h;subst h;rfl
 |x::r,l,h=>by
  unfold FQ at h;split at h
  .rename_i e;cases e
  .rename_i n r' e
   cases hr:FQ r' with
   |none=>rw[hr]at h;cases h
   |some l'=>
    rw[hr]at h;injection h with h
    injection e with e1 e2
    subst h e1 e2;rw[EY hr];rfl
  .cases h
def ziO:List AV->Option Zi
 |[.v (.bool n),.ls xs]=>(match FQ xs with
  |some l=>some ⟨n,l⟩
  |none=>none)
 |_=>none
theorem Z2{xs:List AV}{z:Zi}(h:ziO xs=some z):xs=eZ z:=by
 unfold ziO at h;split at h
 .rename_i n ys
  cases hr:FQ ys with
  |none=>rw[hr]at h;cases h
  |some l=>
   rw[hr]at h;injection h with h
   subst h;rw[EY hr];rfl
 .cases h
def ptO:List AV->Option Pt
 |[.v (.int .i64 v),.v (.bool n),.ls xs]=>(match FQ xs with
  |some l=>some ⟨v,⟨n,l⟩⟩
  |none=>none)
 |_=>none
theorem YS{xs:List AV}{p:Pt}(h:ptO xs=some p):xs=eP p:=by
 unfold ptO at h;split at h
 .rename_i v n ys
  cases hr:FQ ys with
  |none=>rw[hr]at h;cases h
  |some l=>
   rw[hr]at h;injection h with h
   subst h;rw[EY hr];rfl
 .cases h
def Aej:List (List AV)->Option (List Pt)
 |[]=>some []
 |x::r=>(match ptO x,Aej r with
  |some p,some l=>some (p::l)
  |_,_=>none)
theorem Oj:∀{xs:List (List AV)} {l:List Pt},Aej xs=some l->xs=l.map eP
 |[],l,h=>by injection h with h;subst h;rfl
 |x::r,l,h=>by
  unfold Aej at h;split at h
  .rename_i p l' h1 h2
   injection h with h
   subst h;rw[List.map_cons,←YS h1,←Oj h2]
  .cases h
def tmO:List AV->Option Tm
 |[.ls ps,.v (.bool n),.ls xs]=>(match Aej ps,FQ xs with
  |some ps,some l=>some ⟨ps,⟨n,l⟩⟩
  |_,_=>none)
 |_=>none
theorem ZN{xs:List AV}{t:Tm}(h:tmO xs=some t):xs=eT t:=by
 unfold tmO at h;split at h
 .split at h
  .rename_i ps l h1 h2
   injection h with h
   subst h;rw[Oj h1,EY h2];rfl
  .cases h
 .cases h
def WL:Option (AV × List BO)->Option Zi
 |some (.agg cs,[])=>ziO cs
 |_=>none
theorem G3{o:Option (AV × List BO)}{z:Zi}(h:WL o=some z):o=some (.agg (eZ z),[]):=by
 unfold WL at h;split at h
 .rw[Z2 h]
 .cases h
def WJ:Option (AV × List BO)->Option Int
 |some (.v (.int .i64 n),[])=>some n
 |_=>none
theorem Es{o:Option (AV × List BO)}{n:Int}(h:WJ o=some n):o=some (iv n,[]):=by
 unfold WJ at h;split at h
 .injection h with h;rw[h];rfl
 .cases h
def WK:Option (AV × List BO)->Option (List UInt8)
 |some (.v (.string s),[])=>some s.data.toList
 |_=>none
theorem G2{o:Option (AV × List BO)}{l:List UInt8}(h:WK o=some l):o=some (sv (CV l),[]):=by
 unfold WK at h;split at h
 .injection h with h;subst h;rfl
 .cases h
section
variable (dq:Nat->DF)
def YP(names:AV)(one:Zi)(p:Pt):Option (Bool × List UInt8):=match WK (dq 188 [iv p.v,names] []),WL (dq 189 [.agg (eZ p.z)] []),WJ (dq 64 [.agg (eZ p.z)] []) with
 |some nm,some many,some s=>(match WJ (dq 155 [.agg (eZ many),.agg (eZ one)] []) with
  |some c=>(match decide (c=0) with
   |true=>some (decide (s<0),nm)
   |false=>(match WK (dq 190 [.agg (eZ many)] []) with
    |some tx=>some (decide (s<0),tx++42::nm)
    |none=>none))
  |none=>none)
 |_,_,_=>none
theorem S8{names:AV}{one:Zi}{p:Pt}{it:Bool × List UInt8}(h:YP dq names one p=some it):Nonempty (PartH dq names one p it):=by
 unfold YP at h;split at h
 .rename_i nm many s h1 h2 h3
  split at h
  .rename_i c h4
   split at h
   .rename_i hc
    injection h with h
    subst h;exact⟨⟨nm,many,c,s,G2 h1,G3 h2,Es h4,Es h3,rfl,.inl ⟨of_decide_eq_true hc,rfl⟩⟩⟩
   .rename_i hc
    split at h
    .rename_i tx h5
     injection h with h
     subst h;exact⟨⟨nm,many,c,s,G2 h1,G3 h2,Es h4,Es h3,rfl,.inr ⟨of_decide_eq_false hc,tx,G2 h5,rfl⟩⟩⟩
    .cases h
  .cases h
 .cases h
def Pk(names:AV)(one:Zi):List Pt->Option (List (Bool × List UInt8))
 |[]=>some []
 |p::r=>(match YP dq names one p,Pk names one r with
  |some i,some l=>some (i::l)
  |_,_=>none)
theorem Kk{names:AV}{one:Zi}:∀{ps:List Pt} {items:List (Bool × List UInt8)},Pk dq names one ps=some items->items.length=ps.length/\∀ i (h:i<ps.length) (h':i<items.length),Nonempty (PartH dq names one ps[i] items[i])
 |[],items,h=>by
  injection h with h
  subst h;exact⟨rfl,λi h=>absurd h (AsL _)⟩
 |p::r,items,h=>by
  unfold Pk at h;split at h
  .rename_i it l h1 h2
   injection h with h
   subst h;obtain⟨hl,hp⟩:=Kk h2;refine⟨by rw[π,π,hl],λi hi hi'=>?_⟩
   cases i with
   |zero=>exact S8 dq h1
   |succ i=>exact hp i (by simpa using hi) (by simpa using hi')
  .cases h
def kiO(ps:List Pt)(kz:Zi)(l:List UInt8):Option (List UInt8):=match WJ (dq 64 [.agg (eZ kz)] []) with
 |some s=>(match decide (s=0)&&!ps.isEmpty with
  |true=>some l
  |false=>(match WL (dq 189 [.agg (eZ kz)] []) with
   |some many=>(match WK (dq 190 [.agg (eZ many)] []) with
    |some tx=>(match Nat.ble (l.length+3+tx.length) 140737488355328 with
     |true=>some (FX l (decide (s<0)) tx)
     |false=>none)
    |none=>none)
   |none=>none))
 |none=>none
theorem Yk{ps:List Pt}{kz:Zi}{l fin:List UInt8}(h:kiO dq ps kz l=some fin):Nonempty (KiH dq ps kz l fin):=by
 unfold kiO at h;split at h
 .rename_i s h1
  split at h
  .rename_i hc
   injection h with h
   subst h;simp only[Ape,decide_eq_true_eq,Bool.not_eq_true',List.isEmpty_eq_false_iff]at hc;exact⟨⟨s,Es h1,.inl ⟨hc.1,hc.2,rfl⟩⟩⟩
  .rename_i hc
   split at h
   .rename_i many h2
    split at h
    .rename_i tx h3
     split at h
     .rename_i hl
      injection h with h
      subst h;refine⟨⟨s,Es h1,.inr ⟨?_,many,tx,G3 h2,G2 h3,rfl,Are hl⟩⟩⟩;rcases Bool.and_eq_false_iff.1 hc with hc|hc
      .exact .inl (of_decide_eq_false hc)
      .exact .inr (by simpa using hc)
     .cases h
    .cases h
   .cases h
 .cases h
def PY:List (Bool × List UInt8)->Nat
 |[]=>0
 |it::r=>it.2.length+3+PY r
theorem Zz(l:List UInt8)(neg:Bool)(tx:List UInt8):(FX l neg tx).length<=l.length+3+tx.length:=by
 unfold FX V7;rw[η,η];have:(if l=[] then(if neg then [45] else []) else if neg then [32,45,32] else [32,43,32]:List UInt8).length<=3:=by
  repeat' split
  all_goals decide
 omega
theorem RQ:∀(items:List (Bool × List UInt8)) (l:List UInt8),(FA l items).length<=l.length+PY items
 |[],l=>by unfold FA PY;exact φ _
 |it::r,l=>by
  have h1:=RQ r (FX l it.1 it.2);have h2:=Zz l it.1 it.2;have h3:FA l (it::r)=FA (FX l it.1 it.2) r:=rfl;rw[h3];unfold PY;omega
theorem OA:∀(items:List (Bool × List UInt8)) (i:Nat) (h:i<items.length),PY (items.take i)+3+items[i].2.length<=PY items
 |[],i,h=>absurd h (AsL _)
 |it::r,0,h=>by simp only[List.take_zero,PY,List.getElem_cons_zero];omega
 |it::r,i+1,h=>by
  have:=OA r i (by simpa using h);simp only[List.take_succ_cons,PY,List.getElem_cons_succ];omega
def I4:List AV->Option AV
 |[.agg [t0,t1,t2],names]=>(match AZ [t0,t1,t2,names]with
  |true=>(match dq 62 [.agg [t0,t1,t2]] []with
   |some (.agg cs,[])=>(match tmO cs,WL (dq 126 [iv 1] []) with
    |some t,some one=>(match Pk dq names one t.ps with
     |some items=>(match Nat.ble (PY items) 140737488355328 with
      |true=>(match kiO dq t.ps t.k (FA [] items) with
       |some fin=>some (sv (CV fin))
       |none=>none)
      |false=>none)
     |none=>none)
    |_,_=>none)
   |_=>none)
  |false=>none)
 |_=>none
theorem Wg(G:∀ f,AW (Ba ψ f) (dq f)):AW (Ba ψ 130) (Aa5 (I4 dq)):=by
 refine XT (Dj _ _) _ λargs r hr μ F w us hus=>?_
 unfold I4 at hr;split at hr
 .rename_i t0 t1 t2 names
  split at hr
  .rename_i hn
   split at hr
   .rename_i cs hP
    split at hr
    .rename_i t one h1 h2
     split at hr
     .rename_i items h3
      split at hr
      .rename_i h4
       split at hr
       .rename_i fin h5
        injection hr with hr
        subst hr;simp only[AZ,Ape]at hn;obtain⟨n0,n1,n2,n3,_⟩:=hn;obtain⟨hl,hi⟩:=Kk dq h3;simp only[RepList]at hus;obtain⟨u,ul,rfl,hu,u2,ul2,rfl,hu2,rfl⟩:=hus;simp only[Rep]at hu;obtain⟨us3,rfl,hu⟩:=hu;obtain⟨us3⟩:=us3;simp only[RepList]at hu;obtain⟨v0,l0,e0,r0,v1,l1,e1,r1,v2,l2,e2,r2,e3⟩:=hu;subst e3 e2 e1;have e0:us3=[v0,v1,v2]:=e0;subst e0;rw[ZN h1]at hP;refine Calls.mono (PX dq G t0 t1 t2 names t.ps t.k one items hl hP (G3 h2) (λi h=>Classical.choice (hi i h (by omega))) (λi h=>?_) fin (Classical.choice (Yk dq h5)) w v0 v1 v2 u2 (Rep.plain _ _ n0 r0) (Rep.plain _ _ n1 r1) (Rep.plain _ _ n2 r2) (Rep.plain _ _ n3 hu2)) ?_
        .have q1:=OA items i (by omega)
         have q2:=RQ (items.take i) [];have q3:=Are h4;simp only[List.length_nil,Nat.zero_add]at q2;omega
        .rintro e w' ⟨rfl,hb⟩
         refine⟨_,rfl,hb,?_⟩;unfold sv CV;simp only[Rep];exact⟨trivial,rfl⟩
       .cases hr
      .cases hr
     .cases hr
    .cases hr
   .cases hr
  .cases hr
 .cases hr
end
def AlL:List (Nat × Nat):=[(136,0),(196,0),(234,0),(235,0),(265,0),(275,0),(140,0),(199,0),(262,0),(264,0)]
def Ah5:AB:=[⟨74,[false,false,true,false,true,false,false,false,false,false,false,false,false,false,false,false,false,true,true,true],[],[],[(1,([false,false,true,false,true],([],[])))]⟩]
def AiK:MFn:=AS Ah5 62
def Adu:MFn:=AS [] 136
def AbJ:AB:=[⟨63,[true,true,true,false,false,false,true,true,true],[],[],[(1,([true,true,true,false,false,false,true,true],([],[1000000])))]⟩,⟨63,[true,true,true,false,false,false,true],[],[],[(3,([],([],[1000000])))]⟩,⟨63,[true,true,true,false,false,false,true,true,true],[],[],[(5,([true,true,true,false,false,false,true,true],([],[1000000])))]⟩]
def AdI:MFn:=AS AbJ 196
def AbR:AB:=[⟨53,[true,true,true,true,false,false,false,false,true],[],[],[(1,([],([],[1000000])))]⟩,⟨53,[true,true,true,true,false,false,false,false,true,true],[],[],[(3,([true,true,true,true,false,false,false,false,true],([],[1000000])))]⟩]
def AdT:MFn:=AS AbR 234
def AbS:AB:=[⟨220,[true,true,false,false,true,false,false,false,false,false,true,true],[],[],[(1,([true,true,false,false,false,false,false,false,false,false,true],([],[1000000])))]⟩,⟨220,[true,false,false,false,false,false,false,false,false,false,true,false,false,true],[],[],[(3,([],([],[1000000])))]⟩,⟨220,[true,false,true,false,true,false,false,false,false,false,false,false,false,false,true,true],[],[],[(5,([true,false,true,false,false,false,false,false,false,false,false,false,false,false,true],([],[1000000])))]⟩,⟨220,[true,false,false,false,false,false,false,false,false,false,false,false,false,false,true,false,false,true],[],[],[(7,([],([],[1000000])))]⟩,⟨220,[true,true,true,true,true,false,false,false,false,false,false,false,false,false,false,false,false,false,true,true,true,true,true],[],[],[(9,([true,true,true,true,true,false,false,false,false,false,false,false,false,false,false,false,false,false,true,true,true],([],[1000000])))]⟩]
def AdU:MFn:=AS AbS 235
def AbU:AB:=[⟨58,[true,false,true,false,true,false,false,false,false,false,true,true],[],[],[(1,([true,false,true,false,true,false,false,false,false,false,true],([],[1000000])))]⟩]
def AdX:MFn:=AS AbU 265
def AbV:AB:=[⟨38,[true,true,true,true,false,false,false,false,false,false,true],[],[],[(1,([],([],[1000000])))]⟩]
def AdZ:MFn:=AS AbV 275
def Adv:MFn:=AS [] 137
def AiM:MFn:=AS [] 84
def AdD:MFn:=AS [] 157
def Adw:MFn:=AS [] 138
def AdB:MFn:=AS [] 145
def AdO:MFn:=AS [] 202
def AbN:AB:=[⟨21,[true,false,false,true],[],[],[(1,([true,false,false,true],([],[])))]⟩]
def AdM:MFn:=AS AbN 200
def Adx:MFn:=AS [] 139
def AbK:AB:=[⟨61,[false,true,false,false,false,true,true,false,false,false,false,false,false,false,false,false,false,false,false,false,false,false,false,false,false,true,true,true],[],[],[(1,([false,false,false,false,false,true,true],([],[])))]⟩]
def AdJ:MFn:=AS AbK 197
def AbL:AB:=[⟨59,[false,true,false,false,false,false,true,true,false,false,false,false,false,false,false,false,false,false,false,false,false,false,false,true,true,true],[],[],[(1,([false,false,false,false,false,false,true],([],[])))]⟩]
def AdK:MFn:=AS AbL 198
def AbO:AB:=[⟨49,[true,true,false,false,false,true],[],[],[(0,([false,false,false,false,true],([],[]))),(2,([],([],[])))]⟩]
def AdN:MFn:=AS AbO 201
def AbI:AB:=[⟨42,[true,true,false,false,false,true,true],[],[],[(1,([true,false,false,false,false,true],([],[1000000])))]⟩]
def Ady:MFn:=P6 ψ Bb AbI true false 140
def AbM:AB:=[⟨19,[true,true,false,false,false,false,false,true,true],[],[],[(0,([false,false,false,false,true],([],[1000000]))),(1,([],([],[1000000])))]⟩]
def AdL:MFn:=AS AbM 199
def Adz:MFn:=AS [] 141
def AiL:MFn:=AS [] 64
def AdA:MFn:=AS [] 142
def AdF:MFn:=AS [] 188
def AdR:MFn:=AS [] 231
def AdV:MFn:=AS [] 263
def AdY:MFn:=AS [] 274
def Ad0:MFn:=AS [] 277
def Ad1:MFn:=AS [] 278
def AdQ:MFn:=AS [] 223
def Ad4:MFn:=AS [] 281
def Ad5:MFn:=AS [] 282
def AbW:AB:=[⟨167,[true,true,false,false,true],[],[],[(1,([true,true,false,false,true],([],[])))]⟩]
def Ad2:MFn:=AS AbW 279
def AbX:AB:=[⟨102,[true,true,false,true,true,false,false,false,false,false,true,true,true,true,true,true,true],[],[],[(1,([true,true,false,true,true,false,false,false,false,false,true,true,true,true],([],[])))]⟩,⟨102,[true,true,false,true,true,false,false,false,false,false,true,true,true,true,false,false,false,true],[],[],[(3,([true,true,false,true,true,false,false,false,false,false,true,true,true,true],([],[])))]⟩]
def Ad3:MFn:=AS AbX 280
def Ad6:MFn:=AS [] 283
def Ad7:MFn:=AS [] 284
def Ad8:MFn:=AS [] 285
def Ad9:MFn:=AS [] 286
def AdG:MFn:=AS [] 189
def Adt:MFn:=AS [] 126
def AdE:MFn:=AS [] 184
def AdC:MFn:=AS [] 155
def AdH:MFn:=AS [] 190
def AbQ:AB:=[⟨40,[true,false,false,true],[],[],[(1,([false,false,false,true],([],[])))]⟩,⟨40,[true,false,false,true,true,false,false,false,false,false,false,false,false,false,false,false,false,false,true],[],[],[(3,([true,false,false,true],([],[])))]⟩,⟨40,[false,false,false,true],[],[],[(5,([false,false,false,true],([],[])))]⟩]
def AdS:MFn:=AS AbQ 232
def AbP:AB:=[⟨44,[true,true,false,false,false,false,true,true,true],[],[],[(1,([false,false,false,false,false,false,true,true],([],[])))]⟩]
def AdP:MFn:=AS AbP 203
def AbT:AB:=[⟨28,[true,false,true,true],[],[],[(1,([],([],[1000000])))]⟩]
def AdW:MFn:=AS AbT 264
def Ag2:List (Nat × MFn):=[(62,AiK),(136,Adu),(196,AdI),(234,AdT),(235,AdU),(265,AdX),(275,AdZ),(137,Adv),(84,AiM),(157,AdD),(138,Adw),(145,AdB),(202,AdO),(200,AdM),(139,Adx),(197,AdJ),(198,AdK),(201,AdN),(140,Ady),(199,AdL),(141,Adz),(64,AiL),(142,AdA),(188,AdF),(231,AdR),(263,AdV),(274,AdY),(277,Ad0),(278,Ad1),(223,AdQ),(281,Ad4),(282,Ad5),(279,Ad2),(280,Ad3),(283,Ad6),(284,Ad7),(285,Ad8),(286,Ad9),(189,AdG),(126,Adt),(184,AdE),(155,AdC),(190,AdH),(232,AdS),(203,AdP),(264,AdW)]
end
end Go.Proofs.YtpncilciembjdaaGreatDoor
