/-
  A region that draws its order, in which boxes are laid beside calls: the boxes are struck from the walk; ahead of each operation the world may have gone on. No program in sight.
  term.Text: its walk.
  term.Text's contract, as an answer of D, out of what its callees answer.
-/
import Derived.Test.YtpncilciembjdaaGreatDoorTAT
import Derived.Test.YtpncilciembjdaaGreatDoorTAQ
import Derived.OrdersHeld
import Derived.StillTail
import Derived.Test.YtpncilciembjdaaGreatDoorTAR
import Derived.Test.YtpncilciembjdaaGreatDoorTAS
import Derived.Deep.RegionWith
import Derived.Test.YtpncilciembjdaaGreatDoorTAO
set_option linter.unusedSectionVars false
set_option linter.unusedSimpArgs false
set_option linter.unusedVariables false
namespace Go.Proofs.YtpncilciembjdaaGreatDoor
open Go.RowKit

def Iv(w w':World)(k:Nat):Prop:=w.heap.size<=k/\k<w'.heap.size
structure Jmp (F:Nat->Prop) (w w':World):Prop where
 os:w'.os=w.os
 tape:w'.tape=w.tape
 output:w'.output=w.output
 size:w.heap.size<=w'.heap.size
 keep:∀ k,F k->w'.heap[k]? = w.heap[k]?
section
variable {F G:Nat->Prop} {w w1 w2:World}
theorem Jmp.refl(F:Nat->Prop)(w:World):Jmp F w w:=⟨rfl,rfl,rfl,Nat.le_refl _,fun _ _=>rfl⟩
theorem Jmp.trans(h:Jmp F w w1)(k:Jmp F w1 w2):Jmp F w w2:=⟨k.os.trans h.os,k.tape.trans h.tape,k.output.trans h.output,Nat.le_trans h.size k.size,fun i hi=>(k.keep i hi).trans (h.keep i hi)⟩
theorem Jmp.less(h:Jmp F w w1)(hs:∀ k,G k->F k):Jmp G w w1:=⟨h.os,h.tape,h.output,h.size,fun i hi=>h.keep i (hs i hi)⟩
theorem Jmp.below(h:Jmp (Lt w.heap.size) w w1):Below w.heap.size w w1:=⟨h.os,h.tape,h.output,h.size,fun i hi=>h.keep i hi⟩
theorem Jmp.of_below{B:Nat}(h:Below B w w1)(hF:∀ k,F k->k<B):Jmp F w w1:=⟨h.os,h.tape,h.output,h.size,fun i hi=>h.block i (hF i hi)⟩
end

section
variable {P:Program} {md:Region.Mode} {ops:Array Oper} {QX:Exit->Act->World->Prop} {Q:Array Bool->(Nat->Prop)->Act->World->Prop}

def wpJ(P:Program)(md:Region.Mode)(ops:Array Oper)(QX:Exit->Act->World->Prop)(Q:Array Bool->(Nat->Prop)->Act->World->Prop):Nat->Array Bool->(Nat->Prop)->Act->World->Prop
 |0,listed,F,a,w=>Region.ready md ops listed=[]/\∀ w',Jmp F w w'->Q listed F a w'
 |n+1,listed,F,a,w=>(Region.ready md ops listed=[]->∀ w',Jmp F w w'->Q listed F a w') ∧
  ∀ i∈Region.ready md ops listed,∀ w',Jmp F w w'->wpOp P ops QX i (fun a2 w2=>Below w'.heap.size w' w2/\wpJ P md ops QX Q n (listed.setIfInBounds i true) (fun k=>F k\/Iv w' w2 k) a2 w2) a w'

theorem wpJ.jump{n:Nat}{listed:Array Bool}{F:Nat->Prop}{a:Act}{w w':World}(h:wpJ P md ops QX Q n listed F a w)(hj:Jmp F w w'):wpJ P md ops QX Q n listed F a w':=by
 cases n with
 |zero=>exact⟨h.1,fun w2 h2=>h.2 w2 (hj.trans h2)⟩
 |succ n=>exact⟨fun h0 w2 h2=>h.1 h0 w2 (hj.trans h2),fun i hi w2 h2=>h.2 i hi w2 (hj.trans h2)⟩

theorem Jmp.grow{F:Nat->Prop}{w w':World}(hF:∀ k,F k->k<w.heap.size)(h:Jmp F w w'):∀ k,F k->k<w'.heap.size:=fun k hk=>Nat.lt_of_lt_of_le (hF k hk) h.size



theorem Jmp.cell{F:Nat->Prop}{w w':World}(h:Jmp F w w'){b:Nat}(o:Nat)(hb:F b):w'.cell? ⟨b,o,none⟩=w.cell? ⟨b,o,none⟩:=World.cell?_of_block (a:=⟨b,o,none⟩) (h.keep b hb)
theorem Jmp.from{F:Nat->Prop}{w w1 w2:World}(h:Jmp F w w1)(hb:Below w1.heap.size w1 w2)(hF:∀ k,F k->k<w1.heap.size):Jmp F w w2:=h.trans (Jmp.of_below hb hF)
theorem Jmp.laid{F:Nat->Prop}{v w1 w2:World}(k:Jmp (fun k=>F k\/Iv v w1 k) w1 w2){b:Nat}(h1:v.heap.size<=b)(h2:b<w1.heap.size):w2.heap[b]? = w1.heap[b]?:=k.keep b (.inr ⟨h1,h2⟩)
end
end Go.Proofs.YtpncilciembjdaaGreatDoor
namespace Go.Proofs.YtpncilciembjdaaGreatDoor
open Go.RowKit

structure PartH (dq:Nat->DF) (names:AV) (one:Zi) (p:Pt) (it:Bool × List UInt8) where
 nm:List UInt8
 many:Zi
 c:Int
 s:Int
 name:dq 188 [iv p.v,names] []=some (sv (bstr nm),[])
 abs:dq 189 [.agg (eZ p.z)] []=some (.agg (eZ many),[])
 cmp:dq 155 [.agg (eZ many),.agg (eZ one)] []=some (iv c,[])
 sign:dq 64 [.agg (eZ p.z)] []=some (iv s,[])
 neg:it.1=decide (s<0)
 text:c=0/\it.2=nm\/c≠0/\∃ tx,dq 190 [.agg (eZ many)] []=some (sv (bstr tx),[])/\it.2=tx++42::nm
def txtI(l:List UInt8)(items:List (Bool × List UInt8)):List UInt8:=items.foldl (fun l it=>sumB l it.1 it.2) l
theorem pts_cells{μ:Mu}{F:Prot}{B:Nat}{w:World}{A:Option Addr}{n c:Nat}{ps:List Pt}(h:Rep μ F w (.ls (ps.map eP)) (.slice A n c))(hF:∀ g o,F g o->g<B)(h0:0<ps.length) :
  ∃ b o,A=some ⟨b,o,none⟩/\b<B/\∀ i (hi:i<ps.length),w.cell? ⟨b,o+i*3,none⟩=some (.int .i64 ps[i].v)/\w.cell? ⟨b,o+i*3+1,none⟩=some (.bool ps[i].z.neg)/\∃ A' c',w.cell? ⟨b,o+i*3+2,none⟩=some (.slice A' ps[i].z.abs.length c')/\Rep μ F w (eN ps[i].z.abs) (.slice A' ps[i].z.abs.length c'):=by
 simp only[Rep]at h
 obtain⟨_,A2,c2,h1,h2,h3,h4⟩:=h
 injection h1 with e1 e2 e3
 subst e1
 obtain⟨g,o,e,hA,hr⟩:=h4 (by
  intro hh
  rw[List.map_eq_nil_iff]at hh
  rw[hh]at h0
  exact Nat.lt_irrefl _ h0)
 have he:e=3:=by
  have:=hr.get (i:=0) (x:=eP ps[0]) (by rw[List.getElem?_map,List.getElem?_eq_getElem h0];rfl)
  have:=this.1
  unfold eP at this
  simpa using this.symm
 subst he
 have cell:∀ i (hi:i<ps.length),w.cell? ⟨g,o+i*3,none⟩=some (.int .i64 ps[i].v)/\w.cell? ⟨g,o+i*3+1,none⟩=some (.bool ps[i].z.neg)/\∃ A' c',w.cell? ⟨g,o+i*3+2,none⟩=some (.slice A' ps[i].z.abs.length c')/\Rep μ F w (eN ps[i].z.abs) (.slice A' ps[i].z.abs.length c'):=fun i hi=>by
  have ha:=(hr.get (i:=i) (x:=eP ps[i]) (by rw[List.getElem?_map,List.getElem?_eq_getElem hi];rfl)).2
  unfold eP at ha
  obtain⟨_,u0,c0,r0⟩:=ha.get (i:=0) (x:=iv ps[i].v) rfl
  obtain⟨_,u1,c1,r1⟩:=ha.get (i:=1) (x:=bv ps[i].z.neg) rfl
  obtain⟨_,u2,c2,r2⟩:=ha.get (i:=2) (x:=eN ps[i].z.abs) rfl
  obtain rfl:=Rp.int_inv (Rep.plain _ _ rfl r0)
  obtain rfl:=Rp.bool_inv (Rep.plain _ _ rfl r1)
  obtain⟨A',c',rfl⟩:=Rp.ls_inv (Rep.plain _ _ rfl r2)
  rw[List.length_map]at c2 r2
  exact⟨c0,c1,A',c',c2,r2⟩
 have ha:=(hr.get (i:=0) (x:=eP ps[0]) (by rw[List.getElem?_map,List.getElem?_eq_getElem h0];rfl)).2
 unfold eP at ha
 obtain⟨hf,_⟩:=ha.get (i:=0) (x:=iv ps[0].v) rfl
 exact⟨g,o,hA,hF _ _ hf,cell⟩
structure KiH (dq:Nat->DF) (ps:List Pt) (kz:Zi) (l fin:List UInt8) where
 s:Int
 sign:dq 64 [.agg (eZ kz)] []=some (iv s,[])
 text:s=0/\ps≠[]/\fin=l\/(s≠0\/ps=[])/\∃ many tx,dq 189 [.agg (eZ kz)] []=some (.agg (eZ many),[])/\dq 190 [.agg (eZ many)] []=some (sv (bstr tx),[])/\fin=sumB l (decide (s<0)) tx/\l.length+3+tx.length<=140737488355328
theorem txtI_take(items:List (Bool × List UInt8))(k:Nat)(h:k<items.length):txtI [] (items.take (k+1))=sumB (txtI [] (items.take k)) items[k].1 items[k].2:=by
 unfold txtI
 rw[List.take_succ_eq_append_getElem h,List.foldl_append]
 rfl
theorem bstr_size(a:List UInt8):(bstr a).size=a.length:=by simp[bstr,ByteArray.size]
theorem bstr_cat(a b:List UInt8):bstr a++bstr b=bstr (a++b):=by
 unfold bstr
 apply ByteArray.ext
 simp[ByteArray.data_append]
theorem bld_keep{w w':World}{T e:TypeId}{B b:Nat}{bs:List Value}(h:Lib.IsBuilder T e B b bs w)(hb:Below w.heap.size w w'):Lib.IsBuilder T e B b bs w':=by
 rcases h with h|h
 .obtain⟨hB,v,h1,h2,h3⟩:=h
  have hl:=Lib.BuilderAt.lt ⟨hB,v,h1,h2,h3⟩
  exact .inl ⟨hB,v,(hb.block b hl).trans h1,own_call h2 hb,h3⟩
 .obtain⟨hB,v,h1,h2,h3⟩:=h
  have hl:=Lib.BuilderAt.lt ⟨hB,v,h1,h2,h3⟩
  exact .inr ⟨hB,v,(hb.block b hl).trans h1,own_call h2 hb,h3⟩
set_option maxHeartbeats 4000000 in
set_option maxRecDepth 100000 in
theorem termText_any(dq:Nat->DF)(G:∀ f,GoodD (SemFn Tryz.prog f) (dq f))(t0 t1 t2:AV)(names:AV)(ps:List Pt)(kz one:Zi)(items:List (Bool × List UInt8))(l0':items.length=ps.length)
  (hP:dq 62 [.agg [t0,t1,t2]] []=some (.agg (eT ⟨ps,kz⟩),[])) (hO:dq 126 [iv 1] []=some (.agg (eZ one),[]))
  (hI:∀ i (h:i<ps.length),PartH dq names one ps[i] items[i]) (hL:∀ i (h:i<ps.length),(txtI [] (items.take i)).length+3+items[i].2.length<=140737488355328) (fin:List UInt8) (hK:KiH dq ps kz (txtI [] items) fin) (w:World) (v0 v1 v2 nv:Value) (r0:Rp w t0 v0) (r1:Rp w t1 v1) (r2:Rp w t2 v2) (rn:Rp w names nv) :
  Calls Tryz.prog 130 #[.agg #[v0,v1,v2],nv] w fun e w'=>e=.returned (.string ⟨fin.toArray⟩)/\Below w.heap.size w w':=by
 have HR:=Lib.hid (RpL.cons r0 (RpL.cons r1 (RpL.cons r2 (RpL.nil w))))
 have HN:=Lib.hid rn
 clear r0 r1 r2 rn
 go_enter Tryz.func130,Tryz.ntmps130
 go_wp2_with (go_at_call 62;refine(good_calls_box (G _) hP w 28 #[v0,v1,v2] [.agg #[v0,v1,v2]] (RpL.cons (Rp.agg HR.out) (RpL.nil _))).mono ?_)
 rintro e w1 ⟨u,μ',F',c',rfl,hb1,hbk,hsz,hu,hF1,hF2⟩
 have hu0:Rp w1 (.agg (eT ⟨ps,kz⟩)) u:=Rep.plain _ _ rfl hu
 obtain⟨us,rfl,hus⟩:=Rp.agg_inv hu0
 obtain⟨vp,us,rfl,rp,hus⟩:=RpL.cons_inv hus
 obtain⟨vk,us,rfl,rk,hus⟩:=RpL.cons_inv hus
 obtain⟨va,us,rfl,ra,hus⟩:=RpL.cons_inv hus
 obtain rfl:=RpL.nil_inv hus
 obtain rfl:=Rp.bool_inv rk
 obtain⟨A,ca,rfl⟩:=Rp.ls_inv rp
 obtain⟨A2,ca2,rfl⟩:=Rp.ls_inv ra
 clear rp ra rk hu0 hus
 obtain⟨d0,d1,d2,rfl⟩:∃ d0 d1 d2,c'=#[d0,d1,d2]:=by
  obtain⟨l⟩:=c'
  match l,hsz with
  |[a,b,c],_=>exact⟨a,b,c,rfl⟩
 have HBX:=Lib.hid (show Blk w1 w.heap.size 28 #[d0,d1,d2] from hbk)
 have HU:=Lib.hid hu
 have HF2:=Lib.hid hF2
 have HB1:=Lib.hid hb1
 have HF1:=Lib.hid hF1
 clear hu hF1 hF2 hsz hbk hb1
 have c0:w1.cell? ⟨w.heap.size,0,none⟩=some d0:=HBX.out.cell 0
 have c1:w1.cell? ⟨w.heap.size,1,none⟩=some d1:=HBX.out.cell 1
 have c2:w1.cell? ⟨w.heap.size,2,none⟩=some d2:=HBX.out.cell 2
 have f0:w1.frozen? ⟨w.heap.size,0,none⟩=false:=HBX.out.frozen 0
 have f1:w1.frozen? ⟨w.heap.size,1,none⟩=false:=HBX.out.frozen 1
 have f2:w1.frozen? ⟨w.heap.size,2,none⟩=false:=HBX.out.frozen 2
 have hb2:=(((HBX.out.set_ 0 (.slice A ps.length ca)).set_ 1 (.bool kz.neg)).set_ 2 (.slice A2 kz.abs.length ca2)).alloc (.cells #[.pointer none,.slice none 0 0] 180)
 have y0:=hb2.cell 0
 have HB2:=Lib.hid hb2
 clear hb2
 simp only[List.setIfInBounds_toArray,List.set_cons_zero,List.set_cons_succ,List.getElem?_toArray,List.getElem?_cons_zero]at y0
 have hu2:=rep_set3 HU.out HBX.out HF1.out HF2.out (.slice A ps.length ca) (.bool kz.neg) (.slice A2 kz.abs.length ca2) (.cells #[.pointer none,.slice none 0 0] 180)
 obtain⟨rp,_,ra⟩:=rep_agg3 hu2
 clear hu2
 simp only[List.length_map]at rp ra
 have hml:ps.length<=9223372036854775807:=by
  have h:=rp
  simp only[Rep]at h
  obtain⟨_,A3,c3,h1,h2,h3,_⟩:=h
  rw[List.length_map]at h2
  unfold maxLen at h3
  omega
 have RP:=Lib.hid rp
 have RA:=Lib.hid ra
 clear rp ra
 have hsz2:(((w1.setCell ⟨w.heap.size,0,none⟩ (.slice A ps.length ca)).setCell ⟨w.heap.size,1,none⟩ (.bool kz.neg)).setCell ⟨w.heap.size,2,none⟩ (.slice A2 kz.abs.length ca2)).heap.size=w1.heap.size:=by simp
 have hbld:Lib.IsBuilder 180 5 w1.heap.size w1.heap.size (Lib.byteCells (txtI [] (items.take 0))) ((((w1.setCell ⟨w.heap.size,0,none⟩ (.slice A ps.length ca)).setCell ⟨w.heap.size,1,none⟩ (.bool kz.neg)).setCell ⟨w.heap.size,2,none⟩ (.slice A2 kz.abs.length ca2)).alloc (.cells #[.pointer none,.slice none 0 0] 180)):=by
  refine .inl ⟨Nat.le_refl _,.slice none 0 0,?_,World.ownsRow_nil _ _ _ _,by simp[Value.ownBlock]⟩
  have:=heap_alloc_new (((w1.setCell ⟨w.heap.size,0,none⟩ (.slice A ps.length ca)).setCell ⟨w.heap.size,1,none⟩ (.bool kz.neg)).setCell ⟨w.heap.size,2,none⟩ (.slice A2 kz.abs.length ca2)) (.cells #[.pointer none,.slice none 0 0] 180)
  rw[hsz2]at this
  exact this
 have hbw:Below w.heap.size w ((((w1.setCell ⟨w.heap.size,0,none⟩ (.slice A ps.length ca)).setCell ⟨w.heap.size,1,none⟩ (.bool kz.neg)).setCell ⟨w.heap.size,2,none⟩ (.slice A2 kz.abs.length ca2)).alloc (.cells #[.pointer none,.slice none 0 0] 180)):=
  ((((HB1.out.setCell (p:=⟨w.heap.size,0,none⟩) (Nat.le_refl _) _).setCell (p:=⟨w.heap.size,1,none⟩) (Nat.le_refl _) _).setCell (p:=⟨w.heap.size,2,none⟩) (Nat.le_refl _) _).alloc (by rw[hsz2];exact HB1.out.size) _)
 have HBL:=Lib.hid hbld
 have HBW:=Lib.hid hbw
 clear hsz2 hbld hbw
 go_wp2_with fail
 revert y0
 have RP:=RP.out;have RA:=RA.out;have HB2:=HB2.out;have HBL:=HBL.out;have HBW:=HBW.out
 generalize hW2:((((w1.setCell ⟨w.heap.size,0,none⟩ (.slice A ps.length ca)).setCell ⟨w.heap.size,1,none⟩ (.bool kz.neg)).setCell ⟨w.heap.size,2,none⟩ (.slice A2 kz.abs.length ca2)).alloc (.cells #[.pointer none,.slice none 0 0] 180))=W2 at *
 intro y0
 go_loopw [15] (fun q wr=>∃ k:Nat,k<=ps.length/\q=.int .i64 k/\Lib.IsBuilder 180 5 w1.heap.size w1.heap.size (Lib.byteCells (txtI [] (items.take k))) wr/\Below w1.heap.size W2 wr) (fun q _=>ps.length-(intOf q).toNat)
 case atStart=>exact⟨0,Nat.zero_le _,rfl,HBL,Below.refl _ _⟩
 case round=>
  obtain⟨k,hk,rfl,hbld,hb⟩:=hrel
  have HBLD:=Lib.hid hbld
  have HB:=Lib.hid hb
  have RP:=Lib.hid RP
  have RA:=Lib.hid RA
  have HB2:=Lib.hid HB2
  have HBL:=Lib.hid HBL
  have HBW:=Lib.hid HBW
  have HW2:=Lib.hid hW2
  clear hbld hb c0 c1 c2 f0 f1 f2 y0 hW2
  by_cases hlt:k<ps.length
  .obtain⟨b,o,rfl,hbl,hc⟩:=pts_cells RP.out HF1.out (Nat.lt_of_le_of_lt (Nat.zero_le _) hlt)
   obtain⟨d0',d1',A',cc',d2',rz⟩:=hc k hlt
   have e0:=(HB.out.cell (p:=⟨b,o+k*3,none⟩) hbl).trans d0'
   have e1:=(HB.out.cell (p:=⟨b,o+k*3+1,none⟩) hbl).trans d1'
   have e2:=(HB.out.cell (p:=⟨b,o+k*3+2,none⟩) hbl).trans d2'
   have l0:b<wr.heap.size:=lt_size e0
   have z0:(0:Int)<=(k:Int):=by omega
   have z1:(k:Int)<(ps.length:Int):=by omega
   have hih:=hI k hlt
   have hlen:=hL k hlt
   have htk:=txtI_take items k (l0'▸hlt)
   have hrn:Rp wr names nv:=HN.out.below (HBW.out.trans (HB.out.mono HB1.out.size))
   have hrz:Rp wr (eN ps[k].z.abs) (.slice A' ps[k].z.abs.length cc'):=Rep.plain _ _ rfl (Rep.later (μ':=μ') ⟨fun _ _ h=>h,fun g o hg=>⟨hg,HB.out.cell (p:=⟨g,o,none⟩) (HF1.out g o hg)⟩⟩ _ _ rz)
   have HRN:=Lib.hid hrn
   clear hc d0' d1' d2' rz hrn
   revert hih hlen htk e0 e1 e2 hrz
   generalize ps[k]=p
   generalize items[k]'(l0'▸hlt)=it
   obtain⟨pv_,pn_,pa_⟩:=p
   obtain⟨itn,itx⟩:=it
   intro e0 e1 e2 hih hlen htk hrz
   have HRZ:=Lib.hid hrz
   have HLEN:=Lib.hid hlen
   have HTK:=Lib.hid htk
   clear hrz hlen htk
   simp only at e0 e1 e2
   obtain⟨nm,many,cm,sg,gname,gabs,gcmp,gsign,hneg,htext⟩:=hih
   have HNEG:=Lib.hid hneg
   have HTEXT:=Lib.hid htext
   clear hneg htext
   go_wp2_with (go_at_call 188;refine(good_calls (G _) gname rfl _ [.int .i64 pv_,nv] (RpL.cons (Rp.int _ _) (RpL.cons (HRN.out.below (below_one _ _)) (RpL.nil _)))).mono ?_)
   first|rintro e w3 u3 rfl hb3 hu3|rintro e w3 ⟨u3,rfl,hb3,hu3⟩
   obtain rfl:=Rp.str_inv hu3
   replace hb3:Below (wr.alloc (.cells #[.int .i64 pv_,.bool pn_,.slice A' pa_.length cc'] 84)).heap.size (wr.alloc (.cells #[.int .i64 pv_,.bool pn_,.slice A' pa_.length cc'] 84)) w3:=by rw[World.size_alloc];exact hb3
   have HBX3:=Lib.hid ((Blk.new wr 84 #[.int .i64 pv_,.bool pn_,.slice A' pa_.length cc']).call hb3)
   have HB3:=Lib.hid (below_call (below_one wr _) hb3)
   clear hb3 hu3 e0 e1 e2
   have x1:=HBX3.out.cell 1
   have x2:=HBX3.out.cell 2
   go_wp2_with (go_at_call 189;refine(good_calls (G _) gabs rfl _ [.agg #[.bool pn_,.slice A' pa_.length cc']] (RpL.cons (Rp.agg (RpL.cons (Rp.bool _ _) (RpL.cons (HRZ.out.below HB3.out) (RpL.nil _)))) (RpL.nil _))).mono ?_)
   first|rintro e w4 u4 rfl hb4 hu4|rintro e w4 ⟨u4,rfl,hb4,hu4⟩
   obtain⟨us,rfl,hus⟩:=Rp.agg_inv hu4
   obtain⟨vm0,us,rfl,rm0,hus⟩:=RpL.cons_inv hus
   obtain⟨vm1,us,rfl,rm1,hus⟩:=RpL.cons_inv hus
   obtain rfl:=RpL.nil_inv hus
   obtain rfl:=Rp.bool_inv rm0
   obtain⟨Am,cm',rfl⟩:=Rp.ls_inv rm1
   simp only[List.length_map]at rm1
   have HBX5:=Lib.hid ((HBX3.out.call hb4).alloc (.cells #[.bool many.neg,.slice Am many.abs.length cm'] 26))
   have HM5:=Lib.hid (Blk.new w4 26 #[.bool many.neg,.slice Am many.abs.length cm'])
   have HB5:=Lib.hid (below_call (below_call HB3.out hb4) (below_one w4 (.cells #[.bool many.neg,.slice Am many.abs.length cm'] 26)))
   have HRM:=Lib.hid (Rp.agg (RpL.cons (rm0.below (below_one w4 (.cells #[.bool many.neg,.slice Am many.abs.length cm'] 26))) (RpL.cons (rm1.below (below_one w4 (.cells #[.bool many.neg,.slice Am many.abs.length cm'] 26))) (RpL.nil _))))
   clear hb4 hu4 x1 x2 rm0 rm1 hus
   go_wp2_with fail
   generalize w4.alloc (.cells #[.bool many.neg,.slice Am many.abs.length cm'] 26)=w5 at *
   have x1:=HM5.out.cell 0
   have x2:=HM5.out.cell 1
   have x3:=HM5.out.lt
   simp only[List.getElem?_toArray,List.getElem?_cons_zero,List.getElem?_cons_succ]at x1 x2
   go_region_with (first
    | (go_at_call 126
       refine(good_calls (G _) hO rfl _ [.int .i64 1] (RpL.cons (Rp.int _ _) (RpL.nil _))).mono ?_
       rintro e w6 ⟨u6,rfl,hb6,hu6⟩
       replace hb6:=below_undrew hb6
       obtain⟨us,rfl,hus⟩:=Rp.agg_inv hu6
       have x1:=(HM5.out.call hb6).cell 0
       have x2:=(HM5.out.call hb6).cell 1
       have x3:=(HM5.out.call hb6).lt
       simp only[List.getElem?_toArray,List.getElem?_cons_zero,List.getElem?_cons_succ]at x1 x2)
    | (go_at_call 155
       refine(good_calls (G _) gcmp rfl _ [.agg #[.bool many.neg,.slice Am many.abs.length cm'],.agg us.toArray] (RpL.cons (HRM.out.below hb6) (RpL.cons (Rp.agg hus) (RpL.nil _)))).mono ?_
       rintro e w7 ⟨u7,rfl,hb7,hu7⟩
       obtain rfl:=Rp.int_inv hu7))
   all_goals
    have HB7:=Lib.hid (below_call (below_call HB5.out hb6) hb7)
    have HM7:=Lib.hid ((HM5.out.call hb6).call hb7)
    have HBX7:=Lib.hid ((HBX5.out.call hb6).call hb7)
    have HRM7:=Lib.hid ((HRM.out.below hb6).below hb7)
    have HRZ7:=Lib.hid (HRZ.out.below HB7.out)
    have HBD7:=Lib.hid (bld_keep HBLD.out HB7.out)
    have HLW:=Lib.hid (HBLD.out.elim Lib.BuilderAt.lt Lib.BuilderAt.lt)
    clear hb6 hb7 hu6 hu7 hus x1 x2 x3
    have x1:=HM7.out.cell 0
    have x2:=HM7.out.cell 1
    have x3:=HBX7.out.cell 1
    have x4:=HBX7.out.cell 2
    simp only[List.getElem?_toArray,List.getElem?_cons_zero,List.getElem?_cons_succ]at x1 x2 x3 x4
    rcases HTEXT.out with⟨hc,hit⟩|⟨hc,tx,gtext,hit⟩
    .have hcb:(cm != 0)=false:=by simp[hc]
     subst hit
     go_wp2_with (go_at_call 64;refine(good_calls (G _) gsign rfl _ [.agg #[.bool pn_,.slice A' pa_.length cc']] (RpL.cons (Rp.agg (RpL.cons (Rp.bool _ _) (RpL.cons HRZ7.out (RpL.nil _)))) (RpL.nil _))).mono ?_)
     first|rintro e w8 u8 rfl hb8 hu8|rintro e w8 ⟨u8,rfl,hb8,hu8⟩
     obtain rfl:=Rp.int_inv hu8
     have HB8:=Lib.hid (below_call HB7.out hb8)
     have HBD8:=Lib.hid (bld_keep HBD7.out hb8)
     clear hb8 hu8 x3 x4
     go_wp2_with (go_at_call 191;refine(summand_any w1.heap.size w1.heap.size (txtI [] (items.take k)) (itx) (decide (sg<0)) _ HBD8.out HLEN.out (Nat.le_trans (Nat.le_of_lt HLW.out) HB8.out.size)).mono ?_)
     first|rintro e w9 rfl hd9 hb9 hk9|rintro e w9 ⟨rfl,hd9,hb9,hk9⟩
     have HD9:=Lib.hid hd9
     have HB9:=Lib.hid (HB.out.trans ((HB8.out.mono (Nat.le_of_lt HLW.out)).trans hb9))
     clear hd9 hb9 hk9
     go_wp2_with fail
     go_roundw
     case rel=>exact⟨k+1,hlt,by go_num,.inr (by have h:=HTK.out;(try simp only at h);rw[h,HNEG.out];exact HD9.out),HB9.out⟩
     case measure=>simp[intOf];omega
    .have hcb:(cm != 0)=true:=by simp[hc]
     subst hit
     have hs:=HLEN.out
     simp only[List.length_append,List.length_cons]at hs
     have s1:(bstr tx).size<=140737488355328:=by rw[bstr_size];omega
     have s2:(bstr nm).size<=140737488355328:=by rw[bstr_size];omega
     have hcat:bstr tx++⟨#[42]⟩++bstr nm=bstr (tx++42::nm):=by show bstr tx++bstr [42]++bstr nm=_;rw[bstr_cat,bstr_cat,List.append_assoc];rfl
     have HCAT:=Lib.hid hcat
     clear hs hcat
     go_wp2_with (go_at_call 190;refine(good_calls (G _) gtext rfl _ [.agg #[.bool many.neg,.slice Am many.abs.length cm']] (RpL.cons HRM7.out (RpL.nil _))).mono ?_)
     first|rintro e wt ut rfl hbt hut|rintro e wt ⟨ut,rfl,hbt,hut⟩
     obtain rfl:=Rp.str_inv hut
     replace HB7:=Lib.hid (below_call HB7.out hbt)
     replace HBX7:=Lib.hid (HBX7.out.call hbt)
     replace HRZ7:=Lib.hid (HRZ7.out.below hbt)
     replace HBD7:=Lib.hid (bld_keep HBD7.out hbt)
     clear hbt hut x1 x2 x3 x4
     have x3:=HBX7.out.cell 1
     have x4:=HBX7.out.cell 2
     simp only[List.getElem?_toArray,List.getElem?_cons_zero,List.getElem?_cons_succ]at x3 x4
     go_wp2_with fail
     simp only[HCAT.out]
     go_wp2_with (go_at_call 64;refine(good_calls (G _) gsign rfl _ [.agg #[.bool pn_,.slice A' pa_.length cc']] (RpL.cons (Rp.agg (RpL.cons (Rp.bool _ _) (RpL.cons HRZ7.out (RpL.nil _)))) (RpL.nil _))).mono ?_)
     first|rintro e w8 u8 rfl hb8 hu8|rintro e w8 ⟨u8,rfl,hb8,hu8⟩
     obtain rfl:=Rp.int_inv hu8
     have HB8:=Lib.hid (below_call HB7.out hb8)
     have HBD8:=Lib.hid (bld_keep HBD7.out hb8)
     clear hb8 hu8 x3 x4
     go_wp2_with (go_at_call 191;refine(summand_any w1.heap.size w1.heap.size (txtI [] (items.take k)) (tx++42::nm) (decide (sg<0)) _ HBD8.out HLEN.out (Nat.le_trans (Nat.le_of_lt HLW.out) HB8.out.size)).mono ?_)
     first|rintro e w9 rfl hd9 hb9 hk9|rintro e w9 ⟨rfl,hd9,hb9,hk9⟩
     have HD9:=Lib.hid hd9
     have HB9:=Lib.hid (HB.out.trans ((HB8.out.mono (Nat.le_of_lt HLW.out)).trans hb9))
     clear hd9 hb9 hk9
     go_wp2_with fail
     go_roundw
     case rel=>exact⟨k+1,hlt,by go_num,.inr (by have h:=HTK.out;(try simp only at h);rw[h,HNEG.out];exact HD9.out),HB9.out⟩
     case measure=>simp[intOf];omega
  .obtain rfl:k=ps.length:=by omega
   have z1:¬ (ps.length:Int)<(ps.length:Int):=by omega
   have HBX:=Lib.hid (HB2.out.below HB.out (HBX.out.lt))
   have hra:Rp wr (eN kz.abs) (.slice A2 kz.abs.length ca2):=Rep.plain _ _ rfl (Rep.later (μ':=μ') ⟨fun _ _ h=>h,fun g o hg=>⟨hg,HB.out.cell (p:=⟨g,o,none⟩) (HF1.out g o hg)⟩⟩ _ _ RA.out)
   have HRK:=Lib.hid (Rp.agg (RpL.cons (Rp.bool wr kz.neg) (RpL.cons hra (RpL.nil _))))
   have HBD:=HBLD.out
   rw[←l0',List.take_length]at HBD
   have HBD:=Lib.hid HBD
   have HLW:=Lib.hid (HBLD.out.elim Lib.BuilderAt.lt Lib.BuilderAt.lt)
   have HBW:=Lib.hid (HBW.out.trans (HB.out.mono HB1.out.size))
   clear hra HBLD RP RA HB2 HB
   have x0:=HBX.out.cell 0
   have x1:=HBX.out.cell 1
   have x2:=HBX.out.cell 2
   simp only[List.setIfInBounds_toArray,List.set_cons_zero,List.set_cons_succ,List.getElem?_toArray,List.getElem?_cons_zero,List.getElem?_cons_succ]at x0 x1 x2
   obtain⟨s,gsign,htext⟩:=hK
   rcases htext with⟨hs0,hp0,hfin⟩|⟨hp,many,tx,gabs,gtext,hfin,hlen⟩
   .subst hs0
    have z2:((ps.length:Int) == 0)=false:=by
     have:=List.length_pos_iff.2 hp0
     simp;omega
    go_wp2_with (go_at_call 64;refine(good_calls (G _) gsign rfl _ [.agg #[.bool kz.neg,.slice A2 kz.abs.length ca2]] (RpL.cons HRK.out (RpL.nil _))).mono ?_)
    first|rintro e w8 u8 rfl hb8 hu8|rintro e w8 ⟨u8,rfl,hb8,hu8⟩
    obtain rfl:=Rp.int_inv hu8
    have HBD8:=Lib.hid (bld_keep HBD.out hb8)
    have HB8:=Lib.hid (HBW.out.trans (hb8.mono (Nat.le_trans HB1.out.size (Nat.le_of_lt HLW.out))))
    have HZ8:=Lib.hid (Nat.le_trans (Nat.le_of_lt HLW.out) hb8.size)
    replace HBX:=Lib.hid (HBX.out.call hb8)
    clear hb8 hu8 x0 x1 x2
    have x0:=HBX.out.cell 0
    simp only[List.setIfInBounds_toArray,List.set_cons_zero,List.set_cons_succ,List.getElem?_toArray,List.getElem?_cons_zero,List.getElem?_cons_succ]at x0
    go_wp2_with (go_at_call 192;refine(Tryz.Builder_String_any w1.heap.size _ _ _ HBD8.out HZ8.out).mono ?_)
    first|rintro e w9 rfl hb9|rintro e w9 ⟨rfl,hb9⟩
    have HB9:=Lib.hid (HB8.out.trans (hb9.mono HB1.out.size))
    clear hb9
    go_wp2
    go_ret
    subst hfin
    exact⟨rfl,HB9.out⟩
   .subst hfin
    have HLEN:=Lib.hid hlen
    clear hlen
    by_cases hs:s=0
    .obtain rfl:ps=[]:=by rcases hp with h|h;exact absurd hs h;exact h
     subst hs
     have z2:((([]:List Pt).length:Int) == 0)=true:=rfl
     go_wp2_with (go_at_call 64;refine(good_calls (G _) gsign rfl _ [.agg #[.bool kz.neg,.slice A2 kz.abs.length ca2]] (RpL.cons HRK.out (RpL.nil _))).mono ?_)
     first|rintro e w8 u8 rfl hb8 hu8|rintro e w8 ⟨u8,rfl,hb8,hu8⟩
     obtain rfl:=Rp.int_inv hu8
     have HBD8:=Lib.hid (bld_keep HBD.out hb8)
     have HB8:=Lib.hid (HBW.out.trans (hb8.mono (Nat.le_trans HB1.out.size (Nat.le_of_lt HLW.out))))
     have HZ8:=Lib.hid (Nat.le_trans (Nat.le_of_lt HLW.out) hb8.size)
     replace HBX:=Lib.hid (HBX.out.call hb8)
     replace HRK:=Lib.hid (HRK.out.below hb8)
     clear hb8 hu8 x0 x1 x2
     have x0:=HBX.out.cell 0
     have x1:=HBX.out.cell 1
     have x2:=HBX.out.cell 2
     simp only[List.setIfInBounds_toArray,List.set_cons_zero,List.set_cons_succ,List.getElem?_toArray,List.getElem?_cons_zero,List.getElem?_cons_succ]at x0 x1 x2
     go_wp2_with fail
     go_region_with (first
      | (go_at_call 64
         refine(good_calls (G _) gsign rfl _ [.agg #[.bool kz.neg,.slice A2 kz.abs.length ca2]] (RpL.cons (HRK.out.below (Below.refl _ _).drew) (RpL.nil _))).mono ?_
         rintro e w9 ⟨u9,rfl,hb9,hu9⟩
         replace hb9:=below_undrew hb9
         obtain rfl:=Rp.int_inv hu9
         have x1:=(HBX.out.call hb9).cell 1
         have x2:=(HBX.out.call hb9).cell 2
         have x3:=(HBX.out.call hb9).lt
         simp only[List.setIfInBounds_toArray,List.set_cons_zero,List.set_cons_succ,List.getElem?_toArray,List.getElem?_cons_zero,List.getElem?_cons_succ]at x1 x2)
      | (go_at_call 189
         refine(good_calls (G _) gabs rfl _ [.agg #[.bool kz.neg,.slice A2 kz.abs.length ca2]] (RpL.cons (HRK.out.below hb9) (RpL.nil _))).mono ?_
         rintro e wa ⟨ua,rfl,hba,hua⟩
         obtain⟨usa,rfl,hul⟩:=Rp.agg_inv hua)
      | (go_at_call 190
         refine(good_calls (G _) gtext rfl _ [.agg usa.toArray] (RpL.cons (Rp.agg hul) (RpL.nil _))).mono ?_
         rintro e wt ⟨ut,rfl,hbt,hut⟩
         obtain rfl:=Rp.str_inv hut
         have hx:Below w8.heap.size w8 wt:=below_call (below_call hb9 hba) hbt
         have hz:Lib.IsBuilder 180 5 w1.heap.size w1.heap.size (Lib.byteCells (txtI [] items)) wt:=bld_keep HBD8.out hx
         have hs:w1.heap.size<=wt.heap.size:=Nat.le_trans HZ8.out hx.size
         have HX:=Lib.hid hx
         have HZ:=Lib.hid hz
         have HS:=Lib.hid hs
         clear hx hz hs hb9 hba hbt x1 x2)
      | (go_at_call 191
         refine(summand_any w1.heap.size w1.heap.size (txtI [] items) tx false wt HZ.out HLEN.out HS.out).mono ?_
         rintro e wz ⟨rfl,hdz,hbz,hkz⟩))
     all_goals
      have HDZ:=Lib.hid hdz
      have hx2:Below w.heap.size w8 wt:=HX.out.mono (Nat.le_trans HB1.out.size HZ8.out)
      have hx3:Below w.heap.size wt wz:=hbz.mono HB1.out.size
      have hx4:Below w.heap.size w wz:=HB8.out.trans (hx2.trans hx3)
      have HBZ:=Lib.hid hx4
      have HZZ:=Lib.hid (Nat.le_trans HS.out hbz.size)
      clear hdz hbz hkz hx2 hx3 hx4
      go_wp2_with (go_at_call 192;refine(Tryz.Builder_String_any w1.heap.size _ (sumB (txtI [] items) false tx) _ (.inr HDZ.out) HZZ.out).mono ?_)
      first|rintro e wq rfl hbq|rintro e wq ⟨rfl,hbq⟩
      have HBQ:=Lib.hid (HBZ.out.trans (hbq.mono HB1.out.size))
      clear hbq
      go_wp2
      go_ret
      exact⟨rfl,HBQ.out⟩
    .have z2:(s != 0)=true:=by simp[hs]
     go_wp2_with (go_at_call 64;refine(good_calls (G _) gsign rfl _ [.agg #[.bool kz.neg,.slice A2 kz.abs.length ca2]] (RpL.cons HRK.out (RpL.nil _))).mono ?_)
     first|rintro e w8 u8 rfl hb8 hu8|rintro e w8 ⟨u8,rfl,hb8,hu8⟩
     obtain rfl:=Rp.int_inv hu8
     have HBD8:=Lib.hid (bld_keep HBD.out hb8)
     have HB8:=Lib.hid (HBW.out.trans (hb8.mono (Nat.le_trans HB1.out.size (Nat.le_of_lt HLW.out))))
     have HZ8:=Lib.hid (Nat.le_trans (Nat.le_of_lt HLW.out) hb8.size)
     replace HBX:=Lib.hid (HBX.out.call hb8)
     replace HRK:=Lib.hid (HRK.out.below hb8)
     clear hb8 hu8 x0 x1 x2
     have x0:=HBX.out.cell 0
     have x1:=HBX.out.cell 1
     have x2:=HBX.out.cell 2
     simp only[List.setIfInBounds_toArray,List.set_cons_zero,List.set_cons_succ,List.getElem?_toArray,List.getElem?_cons_zero,List.getElem?_cons_succ]at x0 x1 x2
     go_wp2_with fail
     go_region_with (first
      | (go_at_call 64
         refine(good_calls (G _) gsign rfl _ [.agg #[.bool kz.neg,.slice A2 kz.abs.length ca2]] (RpL.cons (HRK.out.below (Below.refl _ _).drew) (RpL.nil _))).mono ?_
         rintro e w9 ⟨u9,rfl,hb9,hu9⟩
         replace hb9:=below_undrew hb9
         obtain rfl:=Rp.int_inv hu9
         have x1:=(HBX.out.call hb9).cell 1
         have x2:=(HBX.out.call hb9).cell 2
         have x3:=(HBX.out.call hb9).lt
         simp only[List.setIfInBounds_toArray,List.set_cons_zero,List.set_cons_succ,List.getElem?_toArray,List.getElem?_cons_zero,List.getElem?_cons_succ]at x1 x2)
      | (go_at_call 189
         refine(good_calls (G _) gabs rfl _ [.agg #[.bool kz.neg,.slice A2 kz.abs.length ca2]] (RpL.cons (HRK.out.below hb9) (RpL.nil _))).mono ?_
         rintro e wa ⟨ua,rfl,hba,hua⟩
         obtain⟨usa,rfl,hul⟩:=Rp.agg_inv hua)
      | (go_at_call 190
         refine(good_calls (G _) gtext rfl _ [.agg usa.toArray] (RpL.cons (Rp.agg hul) (RpL.nil _))).mono ?_
         rintro e wt ⟨ut,rfl,hbt,hut⟩
         obtain rfl:=Rp.str_inv hut
         have hx:Below w8.heap.size w8 wt:=below_call (below_call hb9 hba) hbt
         have hz:Lib.IsBuilder 180 5 w1.heap.size w1.heap.size (Lib.byteCells (txtI [] items)) wt:=bld_keep HBD8.out hx
         have hs:w1.heap.size<=wt.heap.size:=Nat.le_trans HZ8.out hx.size
         have HX:=Lib.hid hx
         have HZ:=Lib.hid hz
         have HS:=Lib.hid hs
         clear hx hz hs hb9 hba hbt x1 x2)
      | (go_at_call 191
         refine(summand_any w1.heap.size w1.heap.size (txtI [] items) tx (decide (s<0)) wt HZ.out HLEN.out HS.out).mono ?_
         rintro e wz ⟨rfl,hdz,hbz,hkz⟩))
     all_goals
      have HDZ:=Lib.hid hdz
      have hx2:Below w.heap.size w8 wt:=HX.out.mono (Nat.le_trans HB1.out.size HZ8.out)
      have hx3:Below w.heap.size wt wz:=hbz.mono HB1.out.size
      have hx4:Below w.heap.size w wz:=HB8.out.trans (hx2.trans hx3)
      have HBZ:=Lib.hid hx4
      have HZZ:=Lib.hid (Nat.le_trans HS.out hbz.size)
      clear hdz hbz hkz hx2 hx3 hx4
      go_wp2_with (go_at_call 192;refine(Tryz.Builder_String_any w1.heap.size _ (sumB (txtI [] items) (decide (s<0)) tx) _ (.inr HDZ.out) HZZ.out).mono ?_)
      first|rintro e wq rfl hbq|rintro e wq ⟨rfl,hbq⟩
      have HBQ:=Lib.hid (HBZ.out.trans (hbq.mono HB1.out.size))
      clear hbq
      go_wp2
      go_ret
      exact⟨rfl,HBQ.out⟩
end Go.Proofs.YtpncilciembjdaaGreatDoor
namespace Go.Proofs.YtpncilciembjdaaGreatDoor
open Go.RowKit

def limbsO:List (List AV)->Option (List Nat)
 |[]=>some []
 |[.v (.int .u32 (.ofNat n))]::r=>(match limbsO r with
  |some l=>some (n::l)
  |none=>none)
 |_::_=>none
theorem limbsO_some:∀{xs:List (List AV)} {l:List Nat},limbsO xs=some l->xs=l.map eL
 |[],l,h=>by injection h with h;subst h;rfl
 |x::r,l,h=>by
  unfold limbsO at h
  split at h
  .rename_i e;cases e
  .rename_i n r' e
   cases hr:limbsO r' with
   |none=>rw[hr]at h;cases h
   |some l'=>
    rw[hr]at h
    injection h with h
    injection e with e1 e2
    subst h e1 e2
    rw[limbsO_some hr]
    rfl
  .cases h
def ziO:List AV->Option Zi
 |[.v (.bool n),.ls xs]=>(match limbsO xs with
  |some l=>some ⟨n,l⟩
  |none=>none)
 |_=>none
theorem ziO_some{xs:List AV}{z:Zi}(h:ziO xs=some z):xs=eZ z:=by
 unfold ziO at h
 split at h
 .rename_i n ys
  cases hr:limbsO ys with
  |none=>rw[hr]at h;cases h
  |some l=>
   rw[hr]at h
   injection h with h
   subst h
   rw[limbsO_some hr]
   rfl
 .cases h
def ptO:List AV->Option Pt
 |[.v (.int .i64 v),.v (.bool n),.ls xs]=>(match limbsO xs with
  |some l=>some ⟨v,⟨n,l⟩⟩
  |none=>none)
 |_=>none
theorem ptO_some{xs:List AV}{p:Pt}(h:ptO xs=some p):xs=eP p:=by
 unfold ptO at h
 split at h
 .rename_i v n ys
  cases hr:limbsO ys with
  |none=>rw[hr]at h;cases h
  |some l=>
   rw[hr]at h
   injection h with h
   subst h
   rw[limbsO_some hr]
   rfl
 .cases h
def ptsO:List (List AV)->Option (List Pt)
 |[]=>some []
 |x::r=>(match ptO x,ptsO r with
  |some p,some l=>some (p::l)
  |_,_=>none)
theorem ptsO_some:∀{xs:List (List AV)} {l:List Pt},ptsO xs=some l->xs=l.map eP
 |[],l,h=>by injection h with h;subst h;rfl
 |x::r,l,h=>by
  unfold ptsO at h
  split at h
  .rename_i p l' h1 h2
   injection h with h
   subst h
   rw[List.map_cons,←ptO_some h1,←ptsO_some h2]
  .cases h
def tmO:List AV->Option Tm
 |[.ls ps,.v (.bool n),.ls xs]=>(match ptsO ps,limbsO xs with
  |some ps,some l=>some ⟨ps,⟨n,l⟩⟩
  |_,_=>none)
 |_=>none
theorem tmO_some{xs:List AV}{t:Tm}(h:tmO xs=some t):xs=eT t:=by
 unfold tmO at h
 split at h
 .split at h
  .rename_i ps l h1 h2
   injection h with h
   subst h
   rw[ptsO_some h1,limbsO_some h2]
   rfl
  .cases h
 .cases h
def ansZ:Option (AV × List BO)->Option Zi
 |some (.agg cs,[])=>ziO cs
 |_=>none
theorem ansZ_some{o:Option (AV × List BO)}{z:Zi}(h:ansZ o=some z):o=some (.agg (eZ z),[]):=by
 unfold ansZ at h
 split at h
 .rw[ziO_some h]
 .cases h
def ansI:Option (AV × List BO)->Option Int
 |some (.v (.int .i64 n),[])=>some n
 |_=>none
theorem ansI_some{o:Option (AV × List BO)}{n:Int}(h:ansI o=some n):o=some (iv n,[]):=by
 unfold ansI at h
 split at h
 .injection h with h;rw[h];rfl
 .cases h
def ansS:Option (AV × List BO)->Option (List UInt8)
 |some (.v (.string s),[])=>some s.data.toList
 |_=>none
theorem ansS_some{o:Option (AV × List BO)}{l:List UInt8}(h:ansS o=some l):o=some (sv (bstr l),[]):=by
 unfold ansS at h
 split at h
 .injection h with h;subst h;rfl
 .cases h
section
variable (dq:Nat->DF)
def partO(names:AV)(one:Zi)(p:Pt):Option (Bool × List UInt8):=match ansS (dq 188 [iv p.v,names] []),ansZ (dq 189 [.agg (eZ p.z)] []),ansI (dq 64 [.agg (eZ p.z)] []) with
 |some nm,some many,some s=>(match ansI (dq 155 [.agg (eZ many),.agg (eZ one)] []) with
  |some c=>(match decide (c=0) with
   |true=>some (decide (s<0),nm)
   |false=>(match ansS (dq 190 [.agg (eZ many)] []) with
    |some tx=>some (decide (s<0),tx++42::nm)
    |none=>none))
  |none=>none)
 |_,_,_=>none
theorem partO_some{names:AV}{one:Zi}{p:Pt}{it:Bool × List UInt8}(h:partO dq names one p=some it):Nonempty (PartH dq names one p it):=by
 unfold partO at h
 split at h
 .rename_i nm many s h1 h2 h3
  split at h
  .rename_i c h4
   split at h
   .rename_i hc
    injection h with h
    subst h
    exact⟨⟨nm,many,c,s,ansS_some h1,ansZ_some h2,ansI_some h4,ansI_some h3,rfl,.inl ⟨of_decide_eq_true hc,rfl⟩⟩⟩
   .rename_i hc
    split at h
    .rename_i tx h5
     injection h with h
     subst h
     exact⟨⟨nm,many,c,s,ansS_some h1,ansZ_some h2,ansI_some h4,ansI_some h3,rfl,.inr ⟨of_decide_eq_false hc,tx,ansS_some h5,rfl⟩⟩⟩
    .cases h
  .cases h
 .cases h
def itemsO(names:AV)(one:Zi):List Pt->Option (List (Bool × List UInt8))
 |[]=>some []
 |p::r=>(match partO dq names one p,itemsO names one r with
  |some i,some l=>some (i::l)
  |_,_=>none)
theorem itemsO_some{names:AV}{one:Zi}:∀{ps:List Pt} {items:List (Bool × List UInt8)},itemsO dq names one ps=some items->items.length=ps.length/\∀ i (h:i<ps.length) (h':i<items.length),Nonempty (PartH dq names one ps[i] items[i])
 |[],items,h=>by
  injection h with h
  subst h
  exact⟨rfl,fun i h=>absurd h (Nat.not_lt_zero _)⟩
 |p::r,items,h=>by
  unfold itemsO at h
  split at h
  .rename_i it l h1 h2
   injection h with h
   subst h
   obtain⟨hl,hp⟩:=itemsO_some h2
   refine⟨by rw[List.length_cons,List.length_cons,hl],fun i hi hi'=>?_⟩
   cases i with
   |zero=>exact partO_some dq h1
   |succ i=>exact hp i (by simpa using hi) (by simpa using hi')
  .cases h
def kiO(ps:List Pt)(kz:Zi)(l:List UInt8):Option (List UInt8):=match ansI (dq 64 [.agg (eZ kz)] []) with
 |some s=>(match decide (s=0)&&!ps.isEmpty with
  |true=>some l
  |false=>(match ansZ (dq 189 [.agg (eZ kz)] []) with
   |some many=>(match ansS (dq 190 [.agg (eZ many)] []) with
    |some tx=>(match Nat.ble (l.length+3+tx.length) 140737488355328 with
     |true=>some (sumB l (decide (s<0)) tx)
     |false=>none)
    |none=>none)
   |none=>none))
 |none=>none
theorem kiO_some{ps:List Pt}{kz:Zi}{l fin:List UInt8}(h:kiO dq ps kz l=some fin):Nonempty (KiH dq ps kz l fin):=by
 unfold kiO at h
 split at h
 .rename_i s h1
  split at h
  .rename_i hc
   injection h with h
   subst h
   simp only[Bool.and_eq_true,decide_eq_true_eq,Bool.not_eq_true',List.isEmpty_eq_false_iff]at hc
   exact⟨⟨s,ansI_some h1,.inl ⟨hc.1,hc.2,rfl⟩⟩⟩
  .rename_i hc
   split at h
   .rename_i many h2
    split at h
    .rename_i tx h3
     split at h
     .rename_i hl
      injection h with h
      subst h
      refine⟨⟨s,ansI_some h1,.inr ⟨?_,many,tx,ansZ_some h2,ansS_some h3,rfl,Nat.le_of_ble_eq_true hl⟩⟩⟩
      rcases Bool.and_eq_false_iff.1 hc with hc|hc
      .exact .inl (of_decide_eq_false hc)
      .exact .inr (by simpa using hc)
     .cases h
    .cases h
   .cases h
 .cases h
def totI:List (Bool × List UInt8)->Nat
 |[]=>0
 |it::r=>it.2.length+3+totI r
theorem sumB_len(l:List UInt8)(neg:Bool)(tx:List UInt8):(sumB l neg tx).length<=l.length+3+tx.length:=by
 unfold sumB sepS
 rw[List.length_append,List.length_append]
 have:(if l=[] then(if neg then [45] else []) else if neg then [32,45,32] else [32,43,32]:List UInt8).length<=3:=by
  repeat' split
  all_goals decide
 omega
theorem txtI_len:∀(items:List (Bool × List UInt8)) (l:List UInt8),(txtI l items).length<=l.length+totI items
 |[],l=>by unfold txtI totI;exact Nat.le_refl _
 |it::r,l=>by
  have h1:=txtI_len r (sumB l it.1 it.2)
  have h2:=sumB_len l it.1 it.2
  have h3:txtI l (it::r)=txtI (sumB l it.1 it.2) r:=rfl
  rw[h3]
  unfold totI
  omega
theorem totI_take:∀(items:List (Bool × List UInt8)) (i:Nat) (h:i<items.length),totI (items.take i)+3+items[i].2.length<=totI items
 |[],i,h=>absurd h (Nat.not_lt_zero _)
 |it::r,0,h=>by simp only[List.take_zero,totI,List.getElem_cons_zero];omega
 |it::r,i+1,h=>by
  have:=totI_take r i (by simpa using h)
  simp only[List.take_succ_cons,totI,List.getElem_cons_succ]
  omega
def resText:List AV->Option AV
 |[.agg [t0,t1,t2],names]=>(match noidL [t0,t1,t2,names]with
  |true=>(match dq 62 [.agg [t0,t1,t2]] []with
   |some (.agg cs,[])=>(match tmO cs,ansZ (dq 126 [iv 1] []) with
    |some t,some one=>(match itemsO dq names one t.ps with
     |some items=>(match Nat.ble (totI items) 140737488355328 with
      |true=>(match kiO dq t.ps t.k (txtI [] items) with
       |some fin=>some (sv (bstr fin))
       |none=>none)
      |false=>none)
     |none=>none)
    |_,_=>none)
   |_=>none)
  |false=>none)
 |_=>none
theorem text_good(G:∀ f,GoodD (SemFn Tryz.prog f) (dq f)):GoodD (SemFn Tryz.prog 130) (extD (resText dq)):=by
 refine goodD_of (semFn_mono _ _) _ fun args r hr μ F w us hus=>?_
 unfold resText at hr
 split at hr
 .rename_i t0 t1 t2 names
  split at hr
  .rename_i hn
   split at hr
   .rename_i cs hP
    split at hr
    .rename_i t one h1 h2
     split at hr
     .rename_i items h3
      split at hr
      .rename_i h4
       split at hr
       .rename_i fin h5
        injection hr with hr
        subst hr
        simp only[noidL,Bool.and_eq_true]at hn
        obtain⟨n0,n1,n2,n3,_⟩:=hn
        obtain⟨hl,hi⟩:=itemsO_some dq h3
        simp only[RepList]at hus
        obtain⟨u,ul,rfl,hu,u2,ul2,rfl,hu2,rfl⟩:=hus
        simp only[Rep]at hu
        obtain⟨us3,rfl,hu⟩:=hu
        obtain⟨us3⟩:=us3
        simp only[RepList]at hu
        obtain⟨v0,l0,e0,r0,v1,l1,e1,r1,v2,l2,e2,r2,e3⟩:=hu
        subst e3 e2 e1
        have e0:us3=[v0,v1,v2]:=e0
        subst e0
        rw[tmO_some h1]at hP
        refine Calls.mono (termText_any dq G t0 t1 t2 names t.ps t.k one items hl hP (ansZ_some h2) (fun i h=>Classical.choice (hi i h (by omega))) (fun i h=>?_) fin (Classical.choice (kiO_some dq h5)) w v0 v1 v2 u2 (Rep.plain _ _ n0 r0) (Rep.plain _ _ n1 r1) (Rep.plain _ _ n2 r2) (Rep.plain _ _ n3 hu2)) ?_
        .have q1:=totI_take items i (by omega)
         have q2:=txtI_len (items.take i) []
         have q3:=Nat.le_of_ble_eq_true h4
         simp only[List.length_nil,Nat.zero_add]at q2
         omega
        .rintro e w' ⟨rfl,hb⟩
         refine⟨_,rfl,hb,?_⟩
         unfold sv bstr
         simp only[Rep]
         exact⟨trivial,rfl⟩
       .cases hr
      .cases hr
     .cases hr
    .cases hr
   .cases hr
  .cases hr
 .cases hr
end
end Go.Proofs.YtpncilciembjdaaGreatDoor
