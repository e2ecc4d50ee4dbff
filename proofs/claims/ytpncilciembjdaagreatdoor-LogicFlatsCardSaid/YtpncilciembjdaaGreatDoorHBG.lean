/- strings.Builder's method -/
import Derived.Test.YtpncilciembjdaaGreatDoorHBF
import Derived.Shelf.Strings.Builder1
import Derived.Test.YtpncilciembjdaaGreatDoorHAW
import Derived.Deep.RegionWith
import Derived.Test.YtpncilciembjdaaGreatDoorHBE
set_option linter.all false
open Array renaming getElem?_eq_none->AxF
open Bool renaming false->Φ,true->Δ,and_eq_true->Awh
open List renaming getElem?_cons_succ->Awu,getElem?_cons_zero->Awx,getElem?_eq_getElem->ξ,getElem?_map->AwL,getElem?_toArray->AwH,length_append->ε,length_cons->γ,length_map->Awm,length_nil->Axa,length_pos_iff->Azf,map_cons->Awq,setIfInBounds_toArray->Axr,set_cons_succ->AxV,set_cons_zero->Axz,size_toArray->AxH
open Nat renaming eq_of_beq_eq_true->AwA,le_of_ble_eq_true->AxL,le_of_lt->Ax1,le_refl->π,le_trans->Awy,lt_or_ge->AwS,not_lt_zero->AzJ,zero_le->Awz
open Option renaming none->Ξ,some->Θ,map_eq_some_iff->Aw7
namespace Go.Proofs.YtpncilciembjdaaGreatDoor
open Lib renaming BuilderAt->Azd,IsBuilder->Axq,byteCells->Axe,byteCells_append->AxM,byteCells_length->AxB,cell_of_heap->AyF,hid->ι,strCells->AzR
open Tryz renaming prog->Av9
open Go.RowKit
theorem Zl:(Tryz.prog.info? 5).map (λi=>(i.zero,i.size,i.bytes))=Θ (Θ (.int .u8 0),1,1):=by kernel_rfl
theorem Tu:(Tryz.prog.info? 180).map (·.size)=Θ 2:=by kernel_rfl
theorem Abk:liesAt Av9 Tryz.prog.depth 180 (2 / Tryz.prog.cellsOf 180) 0 180 1=Δ:=by kernel_rfl
set_option maxHeartbeats 1000000 in
set_option maxRecDepth 100000 in
theorem Oi(b:Nat)(w:World)(h0:w.cell? ⟨b,0,Ξ⟩=Θ (.pointer (Θ ⟨b,0,Ξ⟩))) :
  Calls Av9 250 #[.pointer (Θ ⟨b,0,Ξ⟩)] w λe w'=>e=.returned (.tuple #[])/\w'=w:=by
 obtain⟨j,hj,_⟩:=Aw7.1 Tu
 go_enter Tryz.func250,Tryz.ntmps250
 go_wp2
 rw[Lib.run_neq_ptr_same w _ Tryz.underlying177 hj]
 go_wp2
 go_end0
 exact⟨rfl,rfl⟩
set_option maxHeartbeats 1000000 in
set_option maxRecDepth 100000 in
theorem Nh(b:Nat)(w:World)(h0:w.cell? ⟨b,0,Ξ⟩=Θ (.pointer Ξ))(hsh:w.shape? b=Θ (180,2))(hfz:w.frozen? ⟨b,0,Ξ⟩=Φ) :
  Calls Av9 250 #[.pointer (Θ ⟨b,0,Ξ⟩)] w λe w'=>e=.returned (.tuple #[])/\w'=w.setCell ⟨b,0,Ξ⟩ (.pointer (Θ ⟨b,0,Ξ⟩)):=by
 obtain⟨j,hj,hjs⟩:=Aw7.1 Tu
 go_enter Tryz.func250,Tryz.ntmps250
 go_wp2
 rw[Lib.run_to_unsafe w ⟨b,0,Ξ⟩ Tryz.underlying177 Tryz.underlying248 hj (by rw[hjs];decide) hsh (Nat.zero_lt_succ 1)];simp only[Result.andThen];rw[Oper.upon_value]
 go_wp2
 rw[run_callFunc_extern Tryz.func269 (by kernel_rfl) (by kernel_rfl) (by kernel_rfl) (e:=Extern.AbiNoEscape.same) (by kernel_rfl)];rw[Lib.run_noEscape];simp only[Result.andThen];rw[Oper.upon_value]
 go_wp2
 rw[Lib.run_from_unsafe w ⟨b,0,Ξ⟩ Tryz.underlying248 Tryz.underlying177 hj hsh Abk];simp only[Result.andThen];rw[Oper.upon_value]
 go_wp2
 go_end0
 exact⟨rfl,rfl⟩
theorem P3(B b:Nat)(bs:AO)(w:World)(h:Axq 180 5 B b bs w) :
  Calls Av9 250 #[.pointer (Θ ⟨b,0,Ξ⟩)] w λe w'=>e=.returned (.tuple #[])/\(Azd 180 5 B b (.pointer (Θ ⟨b,0,Ξ⟩)) bs w'/\Below B w w'/\∀ k,k≠b->w'.heap[k]? = w.heap[k]?):=by
 rcases h with h|h
 .refine(Nh b w h.cell0 h.shape h.frozen0).mono ?_
  rintro e w' ⟨rfl,rfl⟩;exact⟨rfl,h.used _,(Below.refl B w).setCell (p:=⟨b,0,Ξ⟩) h.1 _,λk hk=>Below.heap_setCell _ _ _ _ hk⟩
 .refine(Oi b w h.cell0).mono ?_
  rintro e w' ⟨rfl,rfl⟩;exact⟨rfl,h,Below.refl B _,λ_ _=>rfl⟩
set_option maxHeartbeats 2000000 in
set_option maxRecDepth 100000 in
theorem CF(B b:Nat)(bs:AO)(s:ByteArray)(w:World)(h:Axq 180 5 B b bs w)(hlen:bs.length+s.size<=140737488355328)(hBw:B<=w.heap.size) :
  Calls Av9 225 #[.pointer (Θ ⟨b,0,Ξ⟩),.string s] w λe w'=>e=.returned (.tuple #[.int .i64 s.size,.nilIface])/\(Azd 180 5 B b (.pointer (Θ ⟨b,0,Ξ⟩)) (bs++AzR s) w'/\Below B w w'/\∀ k cs T fr,w.heap[k]? = Θ (.cells cs T fr)->k≠b->T≠5->w'.heap[k]? = Θ (.cells cs T fr)):=by
 obtain⟨i0,hi,hz0,hz1,hz2⟩:=info_parts Zl
 go_enter Tryz.func225,Tryz.ntmps225
 go_wp2_with (go_at_call 250;refine(P3 B b bs _ h).mono ?_)
 rintro e w1 ⟨rfl,h1,hb1,hk1⟩;obtain⟨hB,v,hbk,hown,hne⟩:=h1;have c0:w1.cell? ⟨b,0,Ξ⟩=Θ (.pointer (Θ ⟨b,0,Ξ⟩)):=by rw[AyF hbk];rfl
 have c1:w1.cell? ⟨b,1,Ξ⟩=Θ v:=by rw[AyF hbk];rfl
 go_wp2_with (at_builtin;refine Lib.wpList_append_own_string _ rfl _ _ 178 9 rfl B 5 i0 Tryz.underlying178 Tryz.underlying9 hi hz0 hz1 hz2 _ _ _ rfl hown s rfl ?c3 ?c4 ?c5 ?_)
 case c3=>unfold maxLen;omega
 case c4=>omega
 case c5=>have:=hb1.size;omega
 intro v' w2 hown' hgrow _;have hlt:b<w1.heap.size:=by
  rcases AwS b w1.heap.size with h' | h'
  .exact h'
  .simp[AxF h']at hbk
 have hb2:w2.heap[b]? = Θ (.cells #[.pointer (Θ ⟨b,0,Ξ⟩),v] 180 (0,0)):=by
  rw[hgrow.block b hlt (λe=>hne e.symm)];exact hbk
 have d0:w2.cell? ⟨b,0,Ξ⟩=Θ (.pointer (Θ ⟨b,0,Ξ⟩)):=by rw[AyF hb2];rfl
 have d1:w2.cell? ⟨b,1,Ξ⟩=Θ v:=by rw[AyF hb2];rfl
 have f1:w2.frozen? ⟨b,1,Ξ⟩=Φ:=Lib.frozen_of_heap hb2 1;obtain⟨ao,n',cap,rfl⟩:∃ ao n' cap,v'=.slice ao n' cap:=by
  rcases hown'.2 with⟨hv,_⟩|⟨g,cap,cur,hv,_⟩
  .exact⟨_,_,_,hv⟩
  .exact⟨_,_,_,hv⟩
 go_wp2
 go_ret2
 refine⟨rfl,?_,?_,?_⟩
 .exact Lib.BuilderAt.put (T:=180) (e:=5) hB hb2 (bs':=bs++AzR s) (by simpa[Lib.strCells_length]using hown') (by decide)
 .exact(hb1.grown hgrow (by have:=hb1.size;omega) (λk hk=>(hown.lt k hk).1)).setCell (p:=⟨b,1,Ξ⟩) hB _
 .intro k cs T fr hk hkb hT
  have h1:=(hk1 k hkb).trans hk;have hlk:k<w1.heap.size:=by
   rcases AwS k w1.heap.size with h' | h'
   .exact h'
   .simp[AxF h']at h1
  have h2:=(hgrow.block k hlk λe=>Lib.ownBlock_ne hown h1 hT e.symm).trans h1;exact(Below.heap_setCell _ _ _ _ hkb).trans h2
def Aax(l:List UInt8)(neg:Bool):List UInt8:=if l=[] then(if neg then [45] else []) else if neg then [32,45,32] else [32,43,32]
def Hx(l:List UInt8)(neg:Bool)(tx:List UInt8):List UInt8:=l++Aax l neg++tx
set_option maxHeartbeats 2000000 in
set_option maxRecDepth 100000 in
theorem Gc(B b:Nat)(l tx:List UInt8)(neg:Bool)(w:World)(h:Axq 180 5 B b (Axe l) w)(hlen:l.length+3+tx.length<=140737488355328)(hBw:B<=w.heap.size) :
  Calls Av9 191 #[.pointer (Θ ⟨b,0,Ξ⟩),.bool neg,.string ⟨tx.toArray⟩] w λe w'=>e=.returned (.tuple #[])/\(Azd 180 5 B b (.pointer (Θ ⟨b,0,Ξ⟩)) (Axe (Hx l neg tx)) w'/\Below B w w'/\∀ k cs T fr,w.heap[k]? = Θ (.cells cs T fr)->k≠b->T≠5->w'.heap[k]? = Θ (.cells cs T fr)):=by
 have HH:=ι h;have HLEN:=ι hlen;have HBW:=ι hBw;clear h hlen hBw
 go_enter Tryz.func191,Tryz.ntmps191
 have hg:=Tryz.Builder_Len B b _ _ HH.out;obtain⟨c,hc⟩:∃ c,c=(Axe l).length:=⟨_,rfl⟩;rw[←hc]at hg;have HG:=ι hg;clear hg;rw[AxB]at hc
 by_cases hl:l=[]
 .have y0:(c:Int)=0:=by rw[hc,hl];rfl
  cases neg with
  |true=>
   have hs:Hx l Δ tx=l++[45]++tx:=by unfold Hx Aax;rw[Ac hl,Ac rfl]
   go_wp2_with (go_at_call 233;refine HG.out.mono ?_)
   rintro e w1 ⟨rfl,rfl⟩
   go_wp2_with (go_at_call 225;refine(CF B b (Axe l) _ _ HH.out ?h1 HBW.out).mono ?_)
   case h1=>
    rw[AxB];have h5:=HLEN.out;simp only[ByteArray.size,AxH,ε,γ,Axa]at h5 ⊢;omega
   first|rintro e w2 rfl hd2 hb2 hk2|rintro e w2 ⟨rfl,hd2,hb2,hk2⟩
   have HD2:=ι (show Axq 180 5 B b (Axe (l++[45])) w2 from .inr (by rw[AxM];exact hd2));have HB2:=ι hb2;have HK2:=ι hk2;have HY2:=ι (Awy HBW.out hb2.size);clear hd2 hb2 hk2
   go_wp2_with (go_at_call 225;refine(CF B b (Axe (l++[45])) _ _ HD2.out ?h1 HY2.out).mono ?_)
   case h1=>
    rw[AxB];have h5:=HLEN.out;simp only[ByteArray.size,AxH,ε,γ,Axa]at h5 ⊢;omega
   first|rintro e w3 rfl hd3 hb3 hk3|rintro e w3 ⟨rfl,hd3,hb3,hk3⟩
   go_wp2
   go_end0
   refine⟨rfl,?_,HB2.out.trans hb3,λk cs T fr h1 h2 h3=>hk3 k cs T fr (HK2.out k cs T fr h1 h2 h3) h2 h3⟩;rw[hs,AxM];exact hd3
  |false=>
   have hs:Hx l Φ tx=l++tx:=by unfold Hx Aax;rw[Ac hl,Ad (by decide),List.append_nil]
   go_wp2_with (go_at_call 233;refine HG.out.mono ?_)
   rintro e w1 ⟨rfl,rfl⟩
   go_wp2_with (go_at_call 225;refine(CF B b (Axe l) _ _ HH.out ?h1 HBW.out).mono ?_)
   case h1=>
    rw[AxB];have h5:=HLEN.out;simp only[ByteArray.size,AxH,ε,γ,Axa]at h5 ⊢;omega
   first|rintro e w3 rfl hd3 hb3 hk3|rintro e w3 ⟨rfl,hd3,hb3,hk3⟩
   go_wp2
   go_end0
   refine⟨rfl,?_,hb3,hk3⟩;rw[hs,AxM];exact hd3
 .have y0:¬ (c:Int)=0:=by
   have:=Azf.2 hl;omega
  have y1:((c:Int) == 0)=Φ:=by simpa using y0
  clear hc
  cases neg with
  |true=>
   have hs:Hx l Δ tx=l++[32,45,32]++tx:=by unfold Hx Aax;rw[Ad hl,Ac rfl]
   go_wp2_with (go_at_call 233;refine HG.out.mono ?_)
   rintro e w1 ⟨rfl,rfl⟩
   go_wp2_with (go_at_call 225;refine(CF B b (Axe l) _ _ HH.out ?h1 HBW.out).mono ?_)
   case h1=>
    rw[AxB];have h5:=HLEN.out;simp only[ByteArray.size,AxH,ε,γ,Axa]at h5 ⊢;omega
   first|rintro e w2 rfl hd2 hb2 hk2|rintro e w2 ⟨rfl,hd2,hb2,hk2⟩
   have HD2:=ι (show Axq 180 5 B b (Axe (l++[32,45,32])) w2 from .inr (by rw[AxM];exact hd2));have HB2:=ι hb2;have HK2:=ι hk2;have HY2:=ι (Awy HBW.out hb2.size);clear hd2 hb2 hk2
   go_wp2_with (go_at_call 225;refine(CF B b (Axe (l++[32,45,32])) _ _ HD2.out ?h1 HY2.out).mono ?_)
   case h1=>
    rw[AxB];have h5:=HLEN.out;simp only[ByteArray.size,AxH,ε,γ,Axa]at h5 ⊢;omega
   first|rintro e w3 rfl hd3 hb3 hk3|rintro e w3 ⟨rfl,hd3,hb3,hk3⟩
   go_wp2
   go_end0
   refine⟨rfl,?_,HB2.out.trans hb3,λk cs T fr h1 h2 h3=>hk3 k cs T fr (HK2.out k cs T fr h1 h2 h3) h2 h3⟩;rw[hs,AxM];exact hd3
  |false=>
   have hs:Hx l Φ tx=l++[32,43,32]++tx:=by unfold Hx Aax;rw[Ad hl,Ad (by decide)]
   go_wp2_with (go_at_call 233;refine HG.out.mono ?_)
   rintro e w1 ⟨rfl,rfl⟩
   go_wp2_with (go_at_call 225;refine(CF B b (Axe l) _ _ HH.out ?h1 HBW.out).mono ?_)
   case h1=>
    rw[AxB];have h5:=HLEN.out;simp only[ByteArray.size,AxH,ε,γ,Axa]at h5 ⊢;omega
   first|rintro e w2 rfl hd2 hb2 hk2|rintro e w2 ⟨rfl,hd2,hb2,hk2⟩
   have HD2:=ι (show Axq 180 5 B b (Axe (l++[32,43,32])) w2 from .inr (by rw[AxM];exact hd2));have HB2:=ι hb2;have HK2:=ι hk2;have HY2:=ι (Awy HBW.out hb2.size);clear hd2 hb2 hk2
   go_wp2_with (go_at_call 225;refine(CF B b (Axe (l++[32,43,32])) _ _ HD2.out ?h1 HY2.out).mono ?_)
   case h1=>
    rw[AxB];have h5:=HLEN.out;simp only[ByteArray.size,AxH,ε,γ,Axa]at h5 ⊢;omega
   first|rintro e w3 rfl hd3 hb3 hk3|rintro e w3 ⟨rfl,hd3,hb3,hk3⟩
   go_wp2
   go_end0
   refine⟨rfl,?_,HB2.out.trans hb3,λk cs T fr h1 h2 h3=>hk3 k cs T fr (HK2.out k cs T fr h1 h2 h3) h2 h3⟩;rw[hs,AxM];exact hd3
structure PartH (dq:Nat->DF) (names:AV) (one:Zi) (p:Pt) (it:Bool × List UInt8) where
 nm:List UInt8
 many:Zi
 c:Int
 s:Int
 name:dq 188 [iv p.v,names] []=Θ (sv (CH nm),[])
 abs:dq 189 [.agg (eZ p.z)] []=Θ (.agg (eZ many),[])
 cmp:dq 155 [.agg (eZ many),.agg (eZ one)] []=Θ (iv c,[])
 sign:dq 64 [.agg (eZ p.z)] []=Θ (iv s,[])
 neg:it.1=decide (s<0)
 text:c=0/\it.2=nm\/c≠0/\∃ tx,dq 190 [.agg (eZ many)] []=Θ (sv (CH tx),[])/\it.2=tx++42::nm
def G2(l:List UInt8)(items:List (Bool × List UInt8)):List UInt8:=items.foldl (λl it=>Hx l it.1 it.2) l
theorem Z7{μ:Mu}{F:Bf}{B:Nat}{w:World}{A:Option Addr}{n c:Nat}{ps:List Pt}(h:Rep μ F w (.ls (ps.map eP)) (.slice A n c))(hF:∀ g o,F g o->g<B)(h0:0<ps.length) :
  ∃ b o,A=Θ ⟨b,o,Ξ⟩/\b<B/\∀ i (hi:i<ps.length),w.cell? ⟨b,o+i*3,Ξ⟩=Θ (.int .i64 ps[i].v)/\w.cell? ⟨b,o+i*3+1,Ξ⟩=Θ (.bool ps[i].z.neg)/\∃ A' c',w.cell? ⟨b,o+i*3+2,Ξ⟩=Θ (.slice A' ps[i].z.abs.length c')/\Rep μ F w (eN ps[i].z.abs) (.slice A' ps[i].z.abs.length c'):=by
 simp only[Rep]at h;obtain⟨_,A2,c2,h1,h2,h3,h4⟩:=h;injection h1 with e1 e2 e3
 subst e1;obtain⟨g,o,e,hA,hr⟩:=h4 (by
  intro hh;rw[List.map_eq_nil_iff]at hh;rw[hh]at h0;exact Nat.lt_irrefl _ h0)
 have he:e=3:=by
  have:=hr.get (i:=0) (x:=eP ps[0]) (by rw[AwL,ξ h0];rfl);have:=this.1;unfold eP at this;simpa using this.symm
 subst he;have cell:∀ i (hi:i<ps.length),w.cell? ⟨g,o+i*3,Ξ⟩=Θ (.int .i64 ps[i].v)/\w.cell? ⟨g,o+i*3+1,Ξ⟩=Θ (.bool ps[i].z.neg)/\∃ A' c',w.cell? ⟨g,o+i*3+2,Ξ⟩=Θ (.slice A' ps[i].z.abs.length c')/\Rep μ F w (eN ps[i].z.abs) (.slice A' ps[i].z.abs.length c'):=λi hi=>by
  have ha:=(hr.get (i:=i) (x:=eP ps[i]) (by rw[AwL,ξ hi];rfl)).2;unfold eP at ha;obtain⟨_,u0,c0,r0⟩:=ha.get (i:=0) (x:=iv ps[i].v) rfl;obtain⟨_,u1,c1,r1⟩:=ha.get (i:=1) (x:=bv ps[i].z.neg) rfl;obtain⟨_,u2,c2,r2⟩:=ha.get (i:=2) (x:=eN ps[i].z.abs) rfl;obtain rfl:=Rp.int_inv (Rep.plain _ _ rfl r0);obtain rfl:=Rp.bool_inv (Rep.plain _ _ rfl r1);obtain⟨A',c',rfl⟩:=Rp.ls_inv (Rep.plain _ _ rfl r2);rw[Awm]at c2 r2;exact⟨c0,c1,A',c',c2,r2⟩
 have ha:=(hr.get (i:=0) (x:=eP ps[0]) (by rw[AwL,ξ h0];rfl)).2;unfold eP at ha;obtain⟨hf,_⟩:=ha.get (i:=0) (x:=iv ps[0].v) rfl;exact⟨g,o,hA,hF _ _ hf,cell⟩
structure KiH (dq:Nat->DF) (ps:List Pt) (kz:Zi) (l fin:List UInt8) where
 s:Int
 sign:dq 64 [.agg (eZ kz)] []=Θ (iv s,[])
 text:s=0/\ps≠[]/\fin=l\/(s≠0\/ps=[])/\∃ many tx,dq 189 [.agg (eZ kz)] []=Θ (.agg (eZ many),[])/\dq 190 [.agg (eZ many)] []=Θ (sv (CH tx),[])/\fin=Hx l (decide (s<0)) tx/\l.length+3+tx.length<=140737488355328
theorem AaJ(items:List (Bool × List UInt8))(k:Nat)(h:k<items.length):G2 [] (items.take (k+1))=Hx (G2 [] (items.take k)) items[k].1 items[k].2:=by
 unfold G2;rw[List.take_succ_eq_append_getElem h,List.foldl_append];rfl
theorem Qm(a:List UInt8):(CH a).size=a.length:=by simp[CH,ByteArray.size]
theorem Tx(a b:List UInt8):CH a++CH b=CH (a++b):=by
 unfold CH;apply ByteArray.ext;simp[ByteArray.data_append]
theorem En{w w':World}{T e:TypeId}{B b:Nat}{bs:AO}(h:Axq T e B b bs w)(hb:Below w.heap.size w w'):Axq T e B b bs w':=by
 rcases h with h|h
 .obtain⟨hB,v,h1,h2,h3⟩:=h
  have hl:=Lib.BuilderAt.lt ⟨hB,v,h1,h2,h3⟩;exact .inl ⟨hB,v,(hb.block b hl).trans h1,UT h2 hb,h3⟩
 .obtain⟨hB,v,h1,h2,h3⟩:=h
  have hl:=Lib.BuilderAt.lt ⟨hB,v,h1,h2,h3⟩;exact .inr ⟨hB,v,(hb.block b hl).trans h1,UT h2 hb,h3⟩
set_option maxHeartbeats 4000000 in
set_option maxRecDepth 100000 in
theorem Te(dq:Nat->DF)(G:∀ f,BD (BL Av9 f) (dq f))(t0 t1 t2:AV)(names:AV)(ps:List Pt)(kz one:Zi)(items:List (Bool × List UInt8))(l0':items.length=ps.length)
  (hP:dq 62 [.agg [t0,t1,t2]] []=Θ (.agg (eT ⟨ps,kz⟩),[])) (hO:dq 126 [iv 1] []=Θ (.agg (eZ one),[]))
  (hI:∀ i (h:i<ps.length),PartH dq names one ps[i] items[i]) (hL:∀ i (h:i<ps.length),(G2 [] (items.take i)).length+3+items[i].2.length<=140737488355328) (fin:List UInt8) (hK:KiH dq ps kz (G2 [] items) fin) (w:World) (v0 v1 v2 nv:Value) (r0:Rp w t0 v0) (r1:Rp w t1 v1) (r2:Rp w t2 v2) (rn:Rp w names nv) :
  Calls Av9 130 #[.agg #[v0,v1,v2],nv] w λe w'=>e=.returned (.string ⟨fin.toArray⟩)/\Below w.heap.size w w':=by
 have HR:=ι (RpL.cons r0 (RpL.cons r1 (RpL.cons r2 (RpL.nil w))));have HN:=ι rn;clear r0 r1 r2 rn
 go_enter Tryz.func130,Tryz.ntmps130
 go_wp2_with (go_at_call 62;refine(Oz (G _) hP w 28 #[v0,v1,v2] [.agg #[v0,v1,v2]] (RpL.cons (Rp.agg HR.out) (RpL.nil _))).mono ?_)
 rintro e w1 ⟨u,μ',F',c',rfl,hb1,hbk,hsz,hu,hF1,hF2⟩;have hu0:Rp w1 (.agg (eT ⟨ps,kz⟩)) u:=Rep.plain _ _ rfl hu;obtain⟨us,rfl,hus⟩:=Rp.agg_inv hu0;obtain⟨vp,us,rfl,rp,hus⟩:=RpL.cons_inv hus;obtain⟨vk,us,rfl,rk,hus⟩:=RpL.cons_inv hus;obtain⟨va,us,rfl,ra,hus⟩:=RpL.cons_inv hus;obtain rfl:=RpL.nil_inv hus;obtain rfl:=Rp.bool_inv rk;obtain⟨A,ca,rfl⟩:=Rp.ls_inv rp;obtain⟨A2,ca2,rfl⟩:=Rp.ls_inv ra;clear rp ra rk hu0 hus;obtain⟨d0,d1,d2,rfl⟩:∃ d0 d1 d2,c'=#[d0,d1,d2]:=by
  obtain⟨l⟩:=c'
  match l,hsz with
  |[a,b,c],_=>exact⟨a,b,c,rfl⟩
 have HBX:=ι (show Blk w1 w.heap.size 28 #[d0,d1,d2] from hbk);have HU:=ι hu;have HF2:=ι hF2;have HB1:=ι hb1;have HF1:=ι hF1;clear hu hF1 hF2 hsz hbk hb1;have c0:w1.cell? ⟨w.heap.size,0,Ξ⟩=Θ d0:=HBX.out.cell 0;have c1:w1.cell? ⟨w.heap.size,1,Ξ⟩=Θ d1:=HBX.out.cell 1;have c2:w1.cell? ⟨w.heap.size,2,Ξ⟩=Θ d2:=HBX.out.cell 2;have f0:w1.frozen? ⟨w.heap.size,0,Ξ⟩=Φ:=HBX.out.frozen 0;have f1:w1.frozen? ⟨w.heap.size,1,Ξ⟩=Φ:=HBX.out.frozen 1;have f2:w1.frozen? ⟨w.heap.size,2,Ξ⟩=Φ:=HBX.out.frozen 2;have hb2:=(((HBX.out.set_ 0 (.slice A ps.length ca)).set_ 1 (.bool kz.neg)).set_ 2 (.slice A2 kz.abs.length ca2)).alloc (.cells #[.pointer Ξ,.slice Ξ 0 0] 180);have y0:=hb2.cell 0;have HB2:=ι hb2;clear hb2;simp only[Axr,Axz,AxV,AwH,Awx]at y0;have hu2:=Ad1 HU.out HBX.out HF1.out HF2.out (.slice A ps.length ca) (.bool kz.neg) (.slice A2 kz.abs.length ca2) (.cells #[.pointer Ξ,.slice Ξ 0 0] 180);obtain⟨rp,_,ra⟩:=Ad0 hu2;clear hu2;simp only[Awm]at rp ra;have hml:ps.length<=9223372036854775807:=by
  have h:=rp;simp only[Rep]at h;obtain⟨_,A3,c3,h1,h2,h3,_⟩:=h;rw[Awm]at h2;unfold maxLen at h3;omega
 have RP:=ι rp;have RA:=ι ra;clear rp ra;have hsz2:(((w1.setCell ⟨w.heap.size,0,Ξ⟩ (.slice A ps.length ca)).setCell ⟨w.heap.size,1,Ξ⟩ (.bool kz.neg)).setCell ⟨w.heap.size,2,Ξ⟩ (.slice A2 kz.abs.length ca2)).heap.size=w1.heap.size:=by simp
 have hbld:Axq 180 5 w1.heap.size w1.heap.size (Axe (G2 [] (items.take 0))) ((((w1.setCell ⟨w.heap.size,0,Ξ⟩ (.slice A ps.length ca)).setCell ⟨w.heap.size,1,Ξ⟩ (.bool kz.neg)).setCell ⟨w.heap.size,2,Ξ⟩ (.slice A2 kz.abs.length ca2)).alloc (.cells #[.pointer Ξ,.slice Ξ 0 0] 180)):=by
  refine .inl ⟨π _,.slice Ξ 0 0,?_,World.ownsRow_nil _ _ _ _,by simp[Value.ownBlock]⟩;have:=heap_alloc_new (((w1.setCell ⟨w.heap.size,0,Ξ⟩ (.slice A ps.length ca)).setCell ⟨w.heap.size,1,Ξ⟩ (.bool kz.neg)).setCell ⟨w.heap.size,2,Ξ⟩ (.slice A2 kz.abs.length ca2)) (.cells #[.pointer Ξ,.slice Ξ 0 0] 180);rw[hsz2]at this;exact this
 have hbw:Below w.heap.size w ((((w1.setCell ⟨w.heap.size,0,Ξ⟩ (.slice A ps.length ca)).setCell ⟨w.heap.size,1,Ξ⟩ (.bool kz.neg)).setCell ⟨w.heap.size,2,Ξ⟩ (.slice A2 kz.abs.length ca2)).alloc (.cells #[.pointer Ξ,.slice Ξ 0 0] 180)):=
  ((((HB1.out.setCell (p:=⟨w.heap.size,0,Ξ⟩) (π _) _).setCell (p:=⟨w.heap.size,1,Ξ⟩) (π _) _).setCell (p:=⟨w.heap.size,2,Ξ⟩) (π _) _).alloc (by rw[hsz2];exact HB1.out.size) _)
 have HBL:=ι hbld;have HBW:=ι hbw;clear hsz2 hbld hbw
 go_wp2_with fail
 revert y0;have RP:=RP.out;have RA:=RA.out;have HB2:=HB2.out;have HBL:=HBL.out;have HBW:=HBW.out;generalize hW2:((((w1.setCell ⟨w.heap.size,0,Ξ⟩ (.slice A ps.length ca)).setCell ⟨w.heap.size,1,Ξ⟩ (.bool kz.neg)).setCell ⟨w.heap.size,2,Ξ⟩ (.slice A2 kz.abs.length ca2)).alloc (.cells #[.pointer Ξ,.slice Ξ 0 0] 180))=W2 at *;intro y0
 go_loopw [15] (λq wr=>∃ k:Nat,k<=ps.length/\q=.int .i64 k/\Axq 180 5 w1.heap.size w1.heap.size (Axe (G2 [] (items.take k))) wr/\Below w1.heap.size W2 wr) (λq _=>ps.length-(intOf q).toNat)
 case atStart=>exact⟨0,Awz _,rfl,HBL,Below.refl _ _⟩
 case round=>
  obtain⟨k,hk,rfl,hbld,hb⟩:=hrel;have HBLD:=ι hbld;have HB:=ι hb;have RP:=ι RP;have RA:=ι RA;have HB2:=ι HB2;have HBL:=ι HBL;have HBW:=ι HBW;have HW2:=ι hW2;clear hbld hb c0 c1 c2 f0 f1 f2 y0 hW2
  by_cases hlt:k<ps.length
  .obtain⟨b,o,rfl,hbl,hc⟩:=Z7 RP.out HF1.out (Nat.lt_of_le_of_lt (Awz _) hlt)
   obtain⟨d0',d1',A',cc',d2',rz⟩:=hc k hlt;have e0:=(HB.out.cell (p:=⟨b,o+k*3,Ξ⟩) hbl).trans d0';have e1:=(HB.out.cell (p:=⟨b,o+k*3+1,Ξ⟩) hbl).trans d1';have e2:=(HB.out.cell (p:=⟨b,o+k*3+2,Ξ⟩) hbl).trans d2';have l0:b<wr.heap.size:=Agl e0;have z0:(0:Int)<=(k:Int):=by omega
   have z1:(k:Int)<(ps.length:Int):=by omega
   have hih:=hI k hlt;have hlen:=hL k hlt;have htk:=AaJ items k (l0'▸hlt);have hrn:Rp wr names nv:=HN.out.below (HBW.out.trans (HB.out.mono HB1.out.size));have hrz:Rp wr (eN ps[k].z.abs) (.slice A' ps[k].z.abs.length cc'):=Rep.plain _ _ rfl (Rep.later (μ':=μ') ⟨λ_ _ h=>h,λg o hg=>⟨hg,HB.out.cell (p:=⟨g,o,Ξ⟩) (HF1.out g o hg)⟩⟩ _ _ rz);have HRN:=ι hrn;clear hc d0' d1' d2' rz hrn;revert hih hlen htk e0 e1 e2 hrz;generalize ps[k]=p;generalize items[k]'(l0'▸hlt)=it;obtain⟨pv_,pn_,pa_⟩:=p;obtain⟨itn,itx⟩:=it;intro e0 e1 e2 hih hlen htk hrz;have HRZ:=ι hrz;have HLEN:=ι hlen;have HTK:=ι htk;clear hrz hlen htk;simp only at e0 e1 e2;obtain⟨nm,many,cm,sg,gname,gabs,gcmp,gsign,hneg,htext⟩:=hih;have HNEG:=ι hneg;have HTEXT:=ι htext;clear hneg htext
   go_wp2_with (go_at_call 188;refine(Ca (G _) gname rfl _ [.int .i64 pv_,nv] (RpL.cons (Rp.int _ _) (RpL.cons (HRN.out.below (Bx _ _)) (RpL.nil _)))).mono ?_)
   first|rintro e w3 u3 rfl hb3 hu3|rintro e w3 ⟨u3,rfl,hb3,hu3⟩
   obtain rfl:=Rp.str_inv hu3
   replace hb3:Below (wr.alloc (.cells #[.int .i64 pv_,.bool pn_,.slice A' pa_.length cc'] 84)).heap.size (wr.alloc (.cells #[.int .i64 pv_,.bool pn_,.slice A' pa_.length cc'] 84)) w3:=by rw[World.size_alloc];exact hb3
   have HBX3:=ι ((Blk.new wr 84 #[.int .i64 pv_,.bool pn_,.slice A' pa_.length cc']).call hb3);have HB3:=ι (CD (Bx wr _) hb3);clear hb3 hu3 e0 e1 e2;have x1:=HBX3.out.cell 1;have x2:=HBX3.out.cell 2
   go_wp2_with (go_at_call 189;refine(Ca (G _) gabs rfl _ [.agg #[.bool pn_,.slice A' pa_.length cc']] (RpL.cons (Rp.agg (RpL.cons (Rp.bool _ _) (RpL.cons (HRZ.out.below HB3.out) (RpL.nil _)))) (RpL.nil _))).mono ?_)
   first|rintro e w4 u4 rfl hb4 hu4|rintro e w4 ⟨u4,rfl,hb4,hu4⟩
   obtain⟨us,rfl,hus⟩:=Rp.agg_inv hu4;obtain⟨vm0,us,rfl,rm0,hus⟩:=RpL.cons_inv hus;obtain⟨vm1,us,rfl,rm1,hus⟩:=RpL.cons_inv hus;obtain rfl:=RpL.nil_inv hus;obtain rfl:=Rp.bool_inv rm0;obtain⟨Am,cm',rfl⟩:=Rp.ls_inv rm1;simp only[Awm]at rm1;have HBX5:=ι ((HBX3.out.call hb4).alloc (.cells #[.bool many.neg,.slice Am many.abs.length cm'] 26));have HM5:=ι (Blk.new w4 26 #[.bool many.neg,.slice Am many.abs.length cm']);have HB5:=ι (CD (CD HB3.out hb4) (Bx w4 (.cells #[.bool many.neg,.slice Am many.abs.length cm'] 26)));have HRM:=ι (Rp.agg (RpL.cons (rm0.below (Bx w4 (.cells #[.bool many.neg,.slice Am many.abs.length cm'] 26))) (RpL.cons (rm1.below (Bx w4 (.cells #[.bool many.neg,.slice Am many.abs.length cm'] 26))) (RpL.nil _))));clear hb4 hu4 x1 x2 rm0 rm1 hus
   go_wp2_with fail
   generalize w4.alloc (.cells #[.bool many.neg,.slice Am many.abs.length cm'] 26)=w5 at *;have x1:=HM5.out.cell 0;have x2:=HM5.out.cell 1;have x3:=HM5.out.lt;simp only[AwH,Awx,Awu]at x1 x2
   go_region_with (first
    | (go_at_call 126
       refine(Ca (G _) hO rfl _ [.int .i64 1] (RpL.cons (Rp.int _ _) (RpL.nil _))).mono ?_;rintro e w6 ⟨u6,rfl,hb6,hu6⟩
       replace hb6:=G9 hb6
       obtain⟨us,rfl,hus⟩:=Rp.agg_inv hu6;have x1:=(HM5.out.call hb6).cell 0;have x2:=(HM5.out.call hb6).cell 1;have x3:=(HM5.out.call hb6).lt;simp only[AwH,Awx,Awu]at x1 x2)
    | (go_at_call 155
       refine(Ca (G _) gcmp rfl _ [.agg #[.bool many.neg,.slice Am many.abs.length cm'],.agg us.toArray] (RpL.cons (HRM.out.below hb6) (RpL.cons (Rp.agg hus) (RpL.nil _)))).mono ?_;rintro e w7 ⟨u7,rfl,hb7,hu7⟩;obtain rfl:=Rp.int_inv hu7))
   all_goals
    have HB7:=ι (CD (CD HB5.out hb6) hb7);have HM7:=ι ((HM5.out.call hb6).call hb7);have HBX7:=ι ((HBX5.out.call hb6).call hb7);have HRM7:=ι ((HRM.out.below hb6).below hb7);have HRZ7:=ι (HRZ.out.below HB7.out);have HBD7:=ι (En HBLD.out HB7.out);have HLW:=ι (HBLD.out.elim Lib.BuilderAt.lt Lib.BuilderAt.lt);clear hb6 hb7 hu6 hu7 hus x1 x2 x3;have x1:=HM7.out.cell 0;have x2:=HM7.out.cell 1;have x3:=HBX7.out.cell 1;have x4:=HBX7.out.cell 2;simp only[AwH,Awx,Awu]at x1 x2 x3 x4;rcases HTEXT.out with⟨hc,hit⟩|⟨hc,tx,gtext,hit⟩
    .have hcb:(cm != 0)=Φ:=by simp[hc]
     subst hit
     go_wp2_with (go_at_call 64;refine(Ca (G _) gsign rfl _ [.agg #[.bool pn_,.slice A' pa_.length cc']] (RpL.cons (Rp.agg (RpL.cons (Rp.bool _ _) (RpL.cons HRZ7.out (RpL.nil _)))) (RpL.nil _))).mono ?_)
     first|rintro e w8 u8 rfl hb8 hu8|rintro e w8 ⟨u8,rfl,hb8,hu8⟩
     obtain rfl:=Rp.int_inv hu8;have HB8:=ι (CD HB7.out hb8);have HBD8:=ι (En HBD7.out hb8);clear hb8 hu8 x3 x4
     go_wp2_with (go_at_call 191;refine(Gc w1.heap.size w1.heap.size (G2 [] (items.take k)) (itx) (decide (sg<0)) _ HBD8.out HLEN.out (Awy (Ax1 HLW.out) HB8.out.size)).mono ?_)
     first|rintro e w9 rfl hd9 hb9 hk9|rintro e w9 ⟨rfl,hd9,hb9,hk9⟩
     have HD9:=ι hd9;have HB9:=ι (HB.out.trans ((HB8.out.mono (Ax1 HLW.out)).trans hb9));clear hd9 hb9 hk9
     go_wp2_with fail
     go_roundw
     case rel=>exact⟨k+1,hlt,by go_num,.inr (by have h:=HTK.out;(try simp only at h);rw[h,HNEG.out];exact HD9.out),HB9.out⟩
     case measure=>simp[intOf];omega
    .have hcb:(cm != 0)=Δ:=by simp[hc]
     subst hit;have hs:=HLEN.out;simp only[ε,γ]at hs;have s1:(CH tx).size<=140737488355328:=by rw[Qm];omega
     have s2:(CH nm).size<=140737488355328:=by rw[Qm];omega
     have hcat:CH tx++⟨#[42]⟩++CH nm=CH (tx++42::nm):=by show CH tx++CH [42]++CH nm=_;rw[Tx,Tx,List.append_assoc];rfl
     have HCAT:=ι hcat;clear hs hcat
     go_wp2_with (go_at_call 190;refine(Ca (G _) gtext rfl _ [.agg #[.bool many.neg,.slice Am many.abs.length cm']] (RpL.cons HRM7.out (RpL.nil _))).mono ?_)
     first|rintro e wt ut rfl hbt hut|rintro e wt ⟨ut,rfl,hbt,hut⟩
     obtain rfl:=Rp.str_inv hut
     replace HB7:=ι (CD HB7.out hbt)
     replace HBX7:=ι (HBX7.out.call hbt)
     replace HRZ7:=ι (HRZ7.out.below hbt)
     replace HBD7:=ι (En HBD7.out hbt)
     clear hbt hut x1 x2 x3 x4;have x3:=HBX7.out.cell 1;have x4:=HBX7.out.cell 2;simp only[AwH,Awx,Awu]at x3 x4
     go_wp2_with fail
     simp only[HCAT.out]
     go_wp2_with (go_at_call 64;refine(Ca (G _) gsign rfl _ [.agg #[.bool pn_,.slice A' pa_.length cc']] (RpL.cons (Rp.agg (RpL.cons (Rp.bool _ _) (RpL.cons HRZ7.out (RpL.nil _)))) (RpL.nil _))).mono ?_)
     first|rintro e w8 u8 rfl hb8 hu8|rintro e w8 ⟨u8,rfl,hb8,hu8⟩
     obtain rfl:=Rp.int_inv hu8;have HB8:=ι (CD HB7.out hb8);have HBD8:=ι (En HBD7.out hb8);clear hb8 hu8 x3 x4
     go_wp2_with (go_at_call 191;refine(Gc w1.heap.size w1.heap.size (G2 [] (items.take k)) (tx++42::nm) (decide (sg<0)) _ HBD8.out HLEN.out (Awy (Ax1 HLW.out) HB8.out.size)).mono ?_)
     first|rintro e w9 rfl hd9 hb9 hk9|rintro e w9 ⟨rfl,hd9,hb9,hk9⟩
     have HD9:=ι hd9;have HB9:=ι (HB.out.trans ((HB8.out.mono (Ax1 HLW.out)).trans hb9));clear hd9 hb9 hk9
     go_wp2_with fail
     go_roundw
     case rel=>exact⟨k+1,hlt,by go_num,.inr (by have h:=HTK.out;(try simp only at h);rw[h,HNEG.out];exact HD9.out),HB9.out⟩
     case measure=>simp[intOf];omega
  .obtain rfl:k=ps.length:=by omega
   have z1:¬ (ps.length:Int)<(ps.length:Int):=by omega
   have HBX:=ι (HB2.out.below HB.out (HBX.out.lt));have hra:Rp wr (eN kz.abs) (.slice A2 kz.abs.length ca2):=Rep.plain _ _ rfl (Rep.later (μ':=μ') ⟨λ_ _ h=>h,λg o hg=>⟨hg,HB.out.cell (p:=⟨g,o,Ξ⟩) (HF1.out g o hg)⟩⟩ _ _ RA.out);have HRK:=ι (Rp.agg (RpL.cons (Rp.bool wr kz.neg) (RpL.cons hra (RpL.nil _))));have HBD:=HBLD.out;rw[←l0',List.take_length]at HBD;have HBD:=ι HBD;have HLW:=ι (HBLD.out.elim Lib.BuilderAt.lt Lib.BuilderAt.lt);have HBW:=ι (HBW.out.trans (HB.out.mono HB1.out.size));clear hra HBLD RP RA HB2 HB;have x0:=HBX.out.cell 0;have x1:=HBX.out.cell 1;have x2:=HBX.out.cell 2;simp only[Axr,Axz,AxV,AwH,Awx,Awu]at x0 x1 x2;obtain⟨s,gsign,htext⟩:=hK;rcases htext with⟨hs0,hp0,hfin⟩|⟨hp,many,tx,gabs,gtext,hfin,hlen⟩
   .subst hs0
    have z2:((ps.length:Int) == 0)=Φ:=by
     have:=Azf.2 hp0;simp;omega
    go_wp2_with (go_at_call 64;refine(Ca (G _) gsign rfl _ [.agg #[.bool kz.neg,.slice A2 kz.abs.length ca2]] (RpL.cons HRK.out (RpL.nil _))).mono ?_)
    first|rintro e w8 u8 rfl hb8 hu8|rintro e w8 ⟨u8,rfl,hb8,hu8⟩
    obtain rfl:=Rp.int_inv hu8;have HBD8:=ι (En HBD.out hb8);have HB8:=ι (HBW.out.trans (hb8.mono (Awy HB1.out.size (Ax1 HLW.out))));have HZ8:=ι (Awy (Ax1 HLW.out) hb8.size)
    replace HBX:=ι (HBX.out.call hb8)
    clear hb8 hu8 x0 x1 x2;have x0:=HBX.out.cell 0;simp only[Axr,Axz,AxV,AwH,Awx,Awu]at x0
    go_wp2_with (go_at_call 192;refine(Tryz.Builder_String_any w1.heap.size _ _ _ HBD8.out HZ8.out).mono ?_)
    first|rintro e w9 rfl hb9|rintro e w9 ⟨rfl,hb9⟩
    have HB9:=ι (HB8.out.trans (hb9.mono HB1.out.size));clear hb9
    go_wp2
    go_ret
    subst hfin;exact⟨rfl,HB9.out⟩
   .subst hfin
    have HLEN:=ι hlen;clear hlen
    by_cases hs:s=0
    .obtain rfl:ps=[]:=by rcases hp with h|h;exact absurd hs h;exact h
     subst hs;have z2:((([]:List Pt).length:Int) == 0)=Δ:=rfl
     go_wp2_with (go_at_call 64;refine(Ca (G _) gsign rfl _ [.agg #[.bool kz.neg,.slice A2 kz.abs.length ca2]] (RpL.cons HRK.out (RpL.nil _))).mono ?_)
     first|rintro e w8 u8 rfl hb8 hu8|rintro e w8 ⟨u8,rfl,hb8,hu8⟩
     obtain rfl:=Rp.int_inv hu8;have HBD8:=ι (En HBD.out hb8);have HB8:=ι (HBW.out.trans (hb8.mono (Awy HB1.out.size (Ax1 HLW.out))));have HZ8:=ι (Awy (Ax1 HLW.out) hb8.size)
     replace HBX:=ι (HBX.out.call hb8)
     replace HRK:=ι (HRK.out.below hb8)
     clear hb8 hu8 x0 x1 x2;have x0:=HBX.out.cell 0;have x1:=HBX.out.cell 1;have x2:=HBX.out.cell 2;simp only[Axr,Axz,AxV,AwH,Awx,Awu]at x0 x1 x2
     go_wp2_with fail
     go_region_with (first
      | (go_at_call 64
         refine(Ca (G _) gsign rfl _ [.agg #[.bool kz.neg,.slice A2 kz.abs.length ca2]] (RpL.cons (HRK.out.below (Below.refl _ _).drew) (RpL.nil _))).mono ?_;rintro e w9 ⟨u9,rfl,hb9,hu9⟩
         replace hb9:=G9 hb9
         obtain rfl:=Rp.int_inv hu9;have x1:=(HBX.out.call hb9).cell 1;have x2:=(HBX.out.call hb9).cell 2;have x3:=(HBX.out.call hb9).lt;simp only[Axr,Axz,AxV,AwH,Awx,Awu]at x1 x2)
      | (go_at_call 189
         refine(Ca (G _) gabs rfl _ [.agg #[.bool kz.neg,.slice A2 kz.abs.length ca2]] (RpL.cons (HRK.out.below hb9) (RpL.nil _))).mono ?_;rintro e wa ⟨ua,rfl,hba,hua⟩;obtain⟨usa,rfl,hul⟩:=Rp.agg_inv hua)
      | (go_at_call 190
         refine(Ca (G _) gtext rfl _ [.agg usa.toArray] (RpL.cons (Rp.agg hul) (RpL.nil _))).mono ?_;rintro e wt ⟨ut,rfl,hbt,hut⟩;obtain rfl:=Rp.str_inv hut;have hx:Below w8.heap.size w8 wt:=CD (CD hb9 hba) hbt;have hz:Axq 180 5 w1.heap.size w1.heap.size (Axe (G2 [] items)) wt:=En HBD8.out hx;have hs:w1.heap.size<=wt.heap.size:=Awy HZ8.out hx.size;have HX:=ι hx;have HZ:=ι hz;have HS:=ι hs;clear hx hz hs hb9 hba hbt x1 x2)
      | (go_at_call 191
         refine(Gc w1.heap.size w1.heap.size (G2 [] items) tx Φ wt HZ.out HLEN.out HS.out).mono ?_;rintro e wz ⟨rfl,hdz,hbz,hkz⟩))
     all_goals
      have HDZ:=ι hdz;have hx2:Below w.heap.size w8 wt:=HX.out.mono (Awy HB1.out.size HZ8.out);have hx3:Below w.heap.size wt wz:=hbz.mono HB1.out.size;have hx4:Below w.heap.size w wz:=HB8.out.trans (hx2.trans hx3);have HBZ:=ι hx4;have HZZ:=ι (Awy HS.out hbz.size);clear hdz hbz hkz hx2 hx3 hx4
      go_wp2_with (go_at_call 192;refine(Tryz.Builder_String_any w1.heap.size _ (Hx (G2 [] items) Φ tx) _ (.inr HDZ.out) HZZ.out).mono ?_)
      first|rintro e wq rfl hbq|rintro e wq ⟨rfl,hbq⟩
      have HBQ:=ι (HBZ.out.trans (hbq.mono HB1.out.size));clear hbq
      go_wp2
      go_ret
      exact⟨rfl,HBQ.out⟩
    .have z2:(s != 0)=Δ:=by simp[hs]
     go_wp2_with (go_at_call 64;refine(Ca (G _) gsign rfl _ [.agg #[.bool kz.neg,.slice A2 kz.abs.length ca2]] (RpL.cons HRK.out (RpL.nil _))).mono ?_)
     first|rintro e w8 u8 rfl hb8 hu8|rintro e w8 ⟨u8,rfl,hb8,hu8⟩
     obtain rfl:=Rp.int_inv hu8;have HBD8:=ι (En HBD.out hb8);have HB8:=ι (HBW.out.trans (hb8.mono (Awy HB1.out.size (Ax1 HLW.out))));have HZ8:=ι (Awy (Ax1 HLW.out) hb8.size)
     replace HBX:=ι (HBX.out.call hb8)
     replace HRK:=ι (HRK.out.below hb8)
     clear hb8 hu8 x0 x1 x2;have x0:=HBX.out.cell 0;have x1:=HBX.out.cell 1;have x2:=HBX.out.cell 2;simp only[Axr,Axz,AxV,AwH,Awx,Awu]at x0 x1 x2
     go_wp2_with fail
     go_region_with (first
      | (go_at_call 64
         refine(Ca (G _) gsign rfl _ [.agg #[.bool kz.neg,.slice A2 kz.abs.length ca2]] (RpL.cons (HRK.out.below (Below.refl _ _).drew) (RpL.nil _))).mono ?_;rintro e w9 ⟨u9,rfl,hb9,hu9⟩
         replace hb9:=G9 hb9
         obtain rfl:=Rp.int_inv hu9;have x1:=(HBX.out.call hb9).cell 1;have x2:=(HBX.out.call hb9).cell 2;have x3:=(HBX.out.call hb9).lt;simp only[Axr,Axz,AxV,AwH,Awx,Awu]at x1 x2)
      | (go_at_call 189
         refine(Ca (G _) gabs rfl _ [.agg #[.bool kz.neg,.slice A2 kz.abs.length ca2]] (RpL.cons (HRK.out.below hb9) (RpL.nil _))).mono ?_;rintro e wa ⟨ua,rfl,hba,hua⟩;obtain⟨usa,rfl,hul⟩:=Rp.agg_inv hua)
      | (go_at_call 190
         refine(Ca (G _) gtext rfl _ [.agg usa.toArray] (RpL.cons (Rp.agg hul) (RpL.nil _))).mono ?_;rintro e wt ⟨ut,rfl,hbt,hut⟩;obtain rfl:=Rp.str_inv hut;have hx:Below w8.heap.size w8 wt:=CD (CD hb9 hba) hbt;have hz:Axq 180 5 w1.heap.size w1.heap.size (Axe (G2 [] items)) wt:=En HBD8.out hx;have hs:w1.heap.size<=wt.heap.size:=Awy HZ8.out hx.size;have HX:=ι hx;have HZ:=ι hz;have HS:=ι hs;clear hx hz hs hb9 hba hbt x1 x2)
      | (go_at_call 191
         refine(Gc w1.heap.size w1.heap.size (G2 [] items) tx (decide (s<0)) wt HZ.out HLEN.out HS.out).mono ?_;rintro e wz ⟨rfl,hdz,hbz,hkz⟩))
     all_goals
      have HDZ:=ι hdz;have hx2:Below w.heap.size w8 wt:=HX.out.mono (Awy HB1.out.size HZ8.out);have hx3:Below w.heap.size wt wz:=hbz.mono HB1.out.size;have hx4:Below w.heap.size w wz:=HB8.out.trans (hx2.trans hx3);have HBZ:=ι hx4;have HZZ:=ι (Awy HS.out hbz.size);clear hdz hbz hkz hx2 hx3 hx4
      go_wp2_with (go_at_call 192;refine(Tryz.Builder_String_any w1.heap.size _ (Hx (G2 [] items) (decide (s<0)) tx) _ (.inr HDZ.out) HZZ.out).mono ?_)
      first|rintro e wq rfl hbq|rintro e wq ⟨rfl,hbq⟩
      have HBQ:=ι (HBZ.out.trans (hbq.mono HB1.out.size));clear hbq
      go_wp2
      go_ret
      exact⟨rfl,HBQ.out⟩
def Hl:Rw->Option (Af)
 |[]=>Θ []
 |[.v (.int .u32 (.ofNat n))]::r=>(match Hl r with
  |some l=>Θ (n::l)
  |none=>Ξ)
 |_::_=>Ξ
theorem F6:∀{xs:Rw} {l:Af},Hl xs=Θ l->xs=l.map eL
 |[],l,h=>by injection h with h;subst h;rfl
 |x::r,l,h=>by
  unfold Hl at h;split at h
  .rename_i e;cases e
  .rename_i n r' e
   cases hr:Hl r' with
   |none=>rw[hr]at h;cases h
   |some l'=>
    rw[hr]at h;injection h with h
    injection e with e1 e2
    subst h e1 e2;rw[F6 hr];rfl
  .cases h
def ziO:Ab->Option Zi
 |[.v (.bool n),.ls xs]=>(match Hl xs with
  |some l=>Θ ⟨n,l⟩
  |none=>Ξ)
 |_=>Ξ
theorem Afb{xs:Ab}{z:Zi}(h:ziO xs=Θ z):xs=eZ z:=by
 unfold ziO at h;split at h
 .rename_i n ys
  cases hr:Hl ys with
  |none=>rw[hr]at h;cases h
  |some l=>
   rw[hr]at h;injection h with h
   subst h;rw[F6 hr];rfl
 .cases h
def ptO:Ab->Option Pt
 |[.v (.int .i64 v),.v (.bool n),.ls xs]=>(match Hl xs with
  |some l=>Θ ⟨v,⟨n,l⟩⟩
  |none=>Ξ)
 |_=>Ξ
theorem AdI{xs:Ab}{p:Pt}(h:ptO xs=Θ p):xs=eP p:=by
 unfold ptO at h;split at h
 .rename_i v n ys
  cases hr:Hl ys with
  |none=>rw[hr]at h;cases h
  |some l=>
   rw[hr]at h;injection h with h
   subst h;rw[F6 hr];rfl
 .cases h
def Aj2:Rw->Option (List Pt)
 |[]=>Θ []
 |x::r=>(match ptO x,Aj2 r with
  |some p,Θ l=>Θ (p::l)
  |_,_=>Ξ)
theorem Q9:∀{xs:Rw} {l:List Pt},Aj2 xs=Θ l->xs=l.map eP
 |[],l,h=>by injection h with h;subst h;rfl
 |x::r,l,h=>by
  unfold Aj2 at h;split at h
  .rename_i p l' h1 h2
   injection h with h
   subst h;rw[Awq,←AdI h1,←Q9 h2]
  .cases h
def tmO:Ab->Option Tm
 |[.ls ps,.v (.bool n),.ls xs]=>(match Aj2 ps,Hl xs with
  |some ps,Θ l=>Θ ⟨ps,⟨n,l⟩⟩
  |_,_=>Ξ)
 |_=>Ξ
theorem AeI{xs:Ab}{t:Tm}(h:tmO xs=Θ t):xs=eT t:=by
 unfold tmO at h;split at h
 .split at h
  .rename_i ps l h1 h2
   injection h with h
   subst h;rw[Q9 h1,F6 h2];rfl
  .cases h
 .cases h
def Aa9:Option (AV × List BO)->Option Zi
 |some (.agg cs,[])=>ziO cs
 |_=>Ξ
theorem IX{o:Option (AV × List BO)}{z:Zi}(h:Aa9 o=Θ z):o=Θ (.agg (eZ z),[]):=by
 unfold Aa9 at h;split at h
 .rw[Afb h]
 .cases h
def Y9:Option (AV × List BO)->Option Int
 |some (.v (.int .i64 n),[])=>Θ n
 |_=>Ξ
theorem DC{o:Option (AV × List BO)}{n:Int}(h:Y9 o=Θ n):o=Θ (iv n,[]):=by
 unfold Y9 at h;split at h
 .injection h with h;rw[h];rfl
 .cases h
def Aa8:Option (AV × List BO)->Option (List UInt8)
 |some (.v (.string s),[])=>Θ s.data.toList
 |_=>Ξ
theorem IW{o:Option (AV × List BO)}{l:List UInt8}(h:Aa8 o=Θ l):o=Θ (sv (CH l),[]):=by
 unfold Aa8 at h;split at h
 .injection h with h;subst h;rfl
 .cases h
section
variable (dq:Nat->DF)
def AdF(names:AV)(one:Zi)(p:Pt):Option (Bool × List UInt8):=match Aa8 (dq 188 [iv p.v,names] []),Aa9 (dq 189 [.agg (eZ p.z)] []),Y9 (dq 64 [.agg (eZ p.z)] []) with
 |some nm,Θ many,Θ s=>(match Y9 (dq 155 [.agg (eZ many),.agg (eZ one)] []) with
  |some c=>(match decide (c=0) with
   |true=>Θ (decide (s<0),nm)
   |false=>(match Aa8 (dq 190 [.agg (eZ many)] []) with
    |some tx=>Θ (decide (s<0),tx++42::nm)
    |none=>Ξ))
  |none=>Ξ)
 |_,_,_=>Ξ
theorem WM{names:AV}{one:Zi}{p:Pt}{it:Bool × List UInt8}(h:AdF dq names one p=Θ it):Nonempty (PartH dq names one p it):=by
 unfold AdF at h;split at h
 .rename_i nm many s h1 h2 h3
  split at h
  .rename_i c h4
   split at h
   .rename_i hc
    injection h with h
    subst h;exact⟨⟨nm,many,c,s,IW h1,IX h2,DC h4,DC h3,rfl,.inl ⟨of_decide_eq_true hc,rfl⟩⟩⟩
   .rename_i hc
    split at h
    .rename_i tx h5
     injection h with h
     subst h;exact⟨⟨nm,many,c,s,IW h1,IX h2,DC h4,DC h3,rfl,.inr ⟨of_decide_eq_false hc,tx,IW h5,rfl⟩⟩⟩
    .cases h
  .cases h
 .cases h
def Sp(names:AV)(one:Zi):List Pt->Option (List (Bool × List UInt8))
 |[]=>Θ []
 |p::r=>(match AdF dq names one p,Sp names one r with
  |some i,Θ l=>Θ (i::l)
  |_,_=>Ξ)
theorem MQ{names:AV}{one:Zi}:∀{ps:List Pt} {items:List (Bool × List UInt8)},Sp dq names one ps=Θ items->items.length=ps.length/\∀ i (h:i<ps.length) (h':i<items.length),Nonempty (PartH dq names one ps[i] items[i])
 |[],items,h=>by
  injection h with h
  subst h;exact⟨rfl,λi h=>absurd h (AzJ _)⟩
 |p::r,items,h=>by
  unfold Sp at h;split at h
  .rename_i it l h1 h2
   injection h with h
   subst h;obtain⟨hl,hp⟩:=MQ h2;refine⟨by rw[γ,γ,hl],λi hi hi'=>?_⟩
   cases i with
   |zero=>exact WM dq h1
   |succ i=>exact hp i (by simpa using hi) (by simpa using hi')
  .cases h
def kiO(ps:List Pt)(kz:Zi)(l:List UInt8):Option (List UInt8):=match Y9 (dq 64 [.agg (eZ kz)] []) with
 |some s=>(match decide (s=0)&&!ps.isEmpty with
  |true=>Θ l
  |false=>(match Aa9 (dq 189 [.agg (eZ kz)] []) with
   |some many=>(match Aa8 (dq 190 [.agg (eZ many)] []) with
    |some tx=>(match Nat.ble (l.length+3+tx.length) 140737488355328 with
     |true=>Θ (Hx l (decide (s<0)) tx)
     |false=>Ξ)
    |none=>Ξ)
   |none=>Ξ))
 |none=>Ξ
theorem Ac0{ps:List Pt}{kz:Zi}{l fin:List UInt8}(h:kiO dq ps kz l=Θ fin):Nonempty (KiH dq ps kz l fin):=by
 unfold kiO at h;split at h
 .rename_i s h1
  split at h
  .rename_i hc
   injection h with h
   subst h;simp only[Awh,decide_eq_true_eq,Bool.not_eq_true',List.isEmpty_eq_false_iff]at hc;exact⟨⟨s,DC h1,.inl ⟨hc.1,hc.2,rfl⟩⟩⟩
  .rename_i hc
   split at h
   .rename_i many h2
    split at h
    .rename_i tx h3
     split at h
     .rename_i hl
      injection h with h
      subst h;refine⟨⟨s,DC h1,.inr ⟨?_,many,tx,IX h2,IW h3,rfl,AxL hl⟩⟩⟩;rcases Bool.and_eq_false_iff.1 hc with hc|hc
      .exact .inl (of_decide_eq_false hc)
      .exact .inr (by simpa using hc)
     .cases h
    .cases h
   .cases h
 .cases h
def Tg:List (Bool × List UInt8)->Nat
 |[]=>0
 |it::r=>it.2.length+3+Tg r
theorem Aet(l:List UInt8)(neg:Bool)(tx:List UInt8):(Hx l neg tx).length<=l.length+3+tx.length:=by
 unfold Hx Aax;rw[ε,ε];have:(if l=[] then(if neg then [45] else []) else if neg then [32,45,32] else [32,43,32]:List UInt8).length<=3:=by
  repeat' split
  all_goals decide
 omega
theorem Vx:∀(items:List (Bool × List UInt8)) (l:List UInt8),(G2 l items).length<=l.length+Tg items
 |[],l=>by unfold G2 Tg;exact π _
 |it::r,l=>by
  have h1:=Vx r (Hx l it.1 it.2);have h2:=Aet l it.1 it.2;have h3:G2 l (it::r)=G2 (Hx l it.1 it.2) r:=rfl;rw[h3];unfold Tg;omega
theorem Ru:∀(items:List (Bool × List UInt8)) (i:Nat) (h:i<items.length),Tg (items.take i)+3+items[i].2.length<=Tg items
 |[],i,h=>absurd h (AzJ _)
 |it::r,0,h=>by simp only[List.take_zero,Tg,List.getElem_cons_zero];omega
 |it::r,i+1,h=>by
  have:=Ru r i (by simpa using h);simp only[List.take_succ_cons,Tg,List.getElem_cons_succ];omega
def NJ:Ab->Option AV
 |[.agg [t0,t1,t2],names]=>(match Bj [t0,t1,t2,names]with
  |true=>(match dq 62 [.agg [t0,t1,t2]] []with
   |some (.agg cs,[])=>(match tmO cs,Aa9 (dq 126 [iv 1] []) with
    |some t,Θ one=>(match Sp dq names one t.ps with
     |some items=>(match Nat.ble (Tg items) 140737488355328 with
      |true=>(match kiO dq t.ps t.k (G2 [] items) with
       |some fin=>Θ (sv (CH fin))
       |none=>Ξ)
      |false=>Ξ)
     |none=>Ξ)
    |_,_=>Ξ)
   |_=>Ξ)
  |false=>Ξ)
 |_=>Ξ
theorem AaG(G:∀ f,BD (BL Av9 f) (dq f)):BD (BL Av9 130) (Dd (NJ dq)):=by
 refine TZ (CQ _ _) _ λargs r hr μ F w us hus=>?_
 unfold NJ at hr;split at hr
 .rename_i t0 t1 t2 names
  split at hr
  .rename_i hn
   split at hr
   .rename_i cs hP
    split at hr
    .rename_i t one h1 h2
     split at hr
     .rename_i items h3
      split at hr
      .rename_i h4
       split at hr
       .rename_i fin h5
        injection hr with hr
        subst hr;simp only[Bj,Awh]at hn;obtain⟨n0,n1,n2,n3,_⟩:=hn;obtain⟨hl,hi⟩:=MQ dq h3;simp only[RepList]at hus;obtain⟨u,ul,rfl,hu,u2,ul2,rfl,hu2,rfl⟩:=hus;simp only[Rep]at hu;obtain⟨us3,rfl,hu⟩:=hu;obtain⟨us3⟩:=us3;simp only[RepList]at hu;obtain⟨v0,l0,e0,r0,v1,l1,e1,r1,v2,l2,e2,r2,e3⟩:=hu;subst e3 e2 e1;have e0:us3=[v0,v1,v2]:=e0;subst e0;rw[AeI h1]at hP;refine Calls.mono (Te dq G t0 t1 t2 names t.ps t.k one items hl hP (IX h2) (λi h=>Classical.choice (hi i h (by omega))) (λi h=>?_) fin (Classical.choice (Ac0 dq h5)) w v0 v1 v2 u2 (Rep.plain _ _ n0 r0) (Rep.plain _ _ n1 r1) (Rep.plain _ _ n2 r2) (Rep.plain _ _ n3 hu2)) ?_
        .have q1:=Ru items i (by omega)
         have q2:=Vx (items.take i) [];have q3:=AxL h4;simp only[Axa,Nat.zero_add]at q2;omega
        .rintro e w' ⟨rfl,hb⟩
         refine⟨_,rfl,hb,?_⟩;unfold sv CH;simp only[Rep];exact⟨trivial,rfl⟩
       .cases hr
      .cases hr
     .cases hr
    .cases hr
   .cases hr
  .cases hr
 .cases hr
end
def rlO:Ab->Option RlA
 |[.ls ps,.v (.bool kn),.ls ka,.v (.bool eq)]=>Θ ⟨ps,kn,ka,eq⟩
 |_=>Ξ
theorem Pq{x:Ab}{r:RlA}(h:rlO x=Θ r):x=r.c:=by
 unfold rlO at h;split at h
 .injection h with h;subst h;rfl
 .cases h
def Ad4:Rw->Option (List RlA)
 |[]=>Θ []
 |x::r=>(match rlO x,Ad4 r with
  |some p,Θ l=>Θ (p::l)
  |_,_=>Ξ)
theorem Mf:∀{xs:Rw} {l:List RlA},Ad4 xs=Θ l->xs=l.map RlA.c
 |[],l,h=>by injection h with h;subst h;rfl
 |x::r,l,h=>by
  unfold Ad4 at h;split at h
  .rename_i p l' h1 h2
   injection h with h
   subst h;rw[Awq,←Pq h1,←Mf h2]
  .cases h
section
variable (dq:Nat->DF)
def Afm:Option (AV × List BO)->Option Bool
 |some (.v (.bool b),[])=>Θ b
 |_=>Ξ
theorem Y8{o:Option (AV × List BO)}{b:Bool}(h:Afm o=Θ b):o=Θ (bv b,[]):=by
 unfold Afm at h;split at h
 .injection h with h;rw[h];rfl
 .cases h
def smO(p z:Ab):Bool:=(Afm (dq 213 [.agg (z.take 3),.agg p] [])).getD Φ
def Apu(p:Ab)(ls:Rw):Bool:=ls.all λz=>(Afm (dq 213 [.agg (z.take 3),.agg p] [])).isSome
theorem Xb{p:Ab}{ls:Rw}(h:Apu dq p ls=Δ):∀ z∈ls,dq 213 [.agg (z.take 3),.agg p] []=Θ (bv (smO dq p z),[]):=λz hz=>by
 have:=List.all_eq_true.1 h z hz;obtain⟨b,hb⟩:=Option.isSome_iff_exists.1 this;unfold smO;rw[hb];exact Y8 hb
def UD:Option (AV × List BO)->Option Ab
 |some (.tup [],[.set ⟨y,Δ,Φ⟩])=>(match y.all H7&&Nat.beq y.length 9 with
  |true=>Θ y
  |false=>Ξ)
 |_=>Ξ
theorem JX{o:Option (AV × List BO)}{y:Ab}(h:UD o=Θ y):o=Θ (.tup [],[.set ⟨y,Δ,Φ⟩])/\y.all H7=Δ/\y.length=9:=by
 unfold UD at h;split at h
 .split at h
  .rename_i hc
   injection h with h
   subst h;rw[Awh]at hc;exact⟨rfl,hc.1,AwA hc.2⟩
  .cases h
 .cases h
def Adv(ls:Rw)(r:RlA):Option Rw:=match dq 125 [.agg [bv r.kn,.ls r.ka]] []with
 |some (.agg [.ls k0,.v (.bool k1),.ls k2],[])=>(match dq 127 [.agg [.ls r.ps,bv r.kn,.ls r.ka],.agg [.ls k0,bv k1,.ls k2]] []with
  |some (.agg [.ls ([c0,.v (.bool c1),.ls c2]::row),.v (.bool d1),.ls d2],[])=>(match Y9 (dq 64 [.agg [bv c1,.ls c2]] []) with
   |some s=>(match decide (0<s) with
    |true=>(match Apu dq [.ls ([c0,bv c1,.ls c2]::row),bv d1,.ls d2] ls,dq 161 [.agg [bv r.kn,.ls r.ka]] [],(Fz (smO dq [.ls ([c0,bv c1,.ls c2]::row),bv d1,.ls d2]) ls ([.ls ([c0,bv c1,.ls c2]::row),bv d1,.ls d2]++FF))[ls.findIdx (smO dq [.ls ([c0,bv c1,.ls c2]::row),bv d1,.ls d2])]? with
     |true,Θ (.agg [.v (.bool n0),.ls n1],[]),Θ x=>(match UD (dq 160 [.ptr 0 0,.agg [bv n0,.ls n1]] [⟨x,Δ,Φ⟩]) with
      |some y=>(match r.eq with
       |false=>Θ ((Fz (smO dq [.ls ([c0,bv c1,.ls c2]::row),bv d1,.ls d2]) ls ([.ls ([c0,bv c1,.ls c2]::row),bv d1,.ls d2]++FF)).set (ls.findIdx (smO dq [.ls ([c0,bv c1,.ls c2]::row),bv d1,.ls d2])) y)
       |true=>(match UD (dq 162 [.ptr 0 0,.agg [bv n0,.ls n1]] [⟨y,Δ,Φ⟩]) with
        |some z=>Θ (((Fz (smO dq [.ls ([c0,bv c1,.ls c2]::row),bv d1,.ls d2]) ls ([.ls ([c0,bv c1,.ls c2]::row),bv d1,.ls d2]++FF)).set (ls.findIdx (smO dq [.ls ([c0,bv c1,.ls c2]::row),bv d1,.ls d2])) y).set (ls.findIdx (smO dq [.ls ([c0,bv c1,.ls c2]::row),bv d1,.ls d2])) z)
        |none=>Ξ))
      |none=>Ξ)
     |_,_,_=>Ξ)
    |false=>(match dq 68 [.agg [.ls ([c0,bv c1,.ls c2]::row),bv d1,.ls d2]] []with
     |some (.agg [.ls q0,.v (.bool q1),.ls q2],[])=>(match Apu dq [.ls q0,bv q1,.ls q2] ls,(Fz (smO dq [.ls q0,bv q1,.ls q2]) ls ([.ls q0,bv q1,.ls q2]++FF))[ls.findIdx (smO dq [.ls q0,bv q1,.ls q2])]? with
      |true,Θ x=>(match UD (dq 162 [.ptr 0 0,.agg [bv r.kn,.ls r.ka]] [⟨x,Δ,Φ⟩]) with
       |some y=>Θ ((Fz (smO dq [.ls q0,bv q1,.ls q2]) ls ([.ls q0,bv q1,.ls q2]++FF)).set (ls.findIdx (smO dq [.ls q0,bv q1,.ls q2])) y)
       |none=>Ξ)
      |_,_=>Ξ)
     |_=>Ξ))
   |none=>Ξ)
  |_=>Ξ)
 |_=>Ξ
theorem WF{ls:Rw}{r:RlA}{ls':Rw}(h:Adv dq ls r=Θ ls'):Nonempty (NoteH dq ls r.ps r.kn r.ka r.eq ls'):=by
 unfold Adv at h;split at h
 .rename_i k0 k1 k2 h1
  split at h
  .rename_i c0 c1 c2 row d1 d2 h2
   split at h
   .rename_i s h3
    split at h
    .rename_i hs
     split at h
     .rename_i n0 n1 x h4 h5 h6
      split at h
      .rename_i y h7
       obtain⟨g1,g2,g3⟩:=JX h7;split at h
       .rename_i he
        injection h with h
        subst h;exact⟨⟨k0,k1,k2,c0,c1,c2,row,d1,d2,s,h1,h2,DC h3,.inl ⟨of_decide_eq_true hs,_,n0,n1,x,y,Xb dq h4,h5,h6,g1,g2,g3,.inl ⟨he,rfl⟩⟩⟩⟩
       .rename_i he
        split at h
        .rename_i z h8
         obtain⟨g4,g5,g6⟩:=JX h8;injection h with h
         subst h;exact⟨⟨k0,k1,k2,c0,c1,c2,row,d1,d2,s,h1,h2,DC h3,.inl ⟨of_decide_eq_true hs,_,n0,n1,x,y,Xb dq h4,h5,h6,g1,g2,g3,.inr ⟨he,z,g4,g5,g6,rfl⟩⟩⟩⟩
        .cases h
      .cases h
     .cases h
    .rename_i hs
     split at h
     .rename_i q0 q1 q2 h4
      split at h
      .rename_i x h5 h6
       split at h
       .rename_i y h7
        obtain⟨g1,g2,g3⟩:=JX h7;injection h with h
        subst h;exact⟨⟨k0,k1,k2,c0,c1,c2,row,d1,d2,s,h1,h2,DC h3,.inr ⟨of_decide_eq_false hs,_,q0,q1,q2,x,y,h4,Xb dq h5,h6,g1,g2,g3,rfl⟩⟩⟩
       .cases h
      .cases h
     .cases h
   .cases h
  .cases h
 .cases h
def Anb:Option (AV × List BO)->Option (RlA × Int)
 |some (.tup [.agg cs,.v (.int .i64 k)],[])=>(match rlO cs with
  |some r=>Θ (r,k)
  |none=>Ξ)
 |_=>Ξ
theorem Za{o:Option (AV × List BO)}{r:RlA}{k:Int}(h:Anb o=Θ (r,k)):o=Θ (.tup [.agg r.c,iv k],[]):=by
 unfold Anb at h;split at h
 .split at h
  .rename_i hr
   injection h with h
   injection h with h1 h2
   subst h1 h2;rw[Pq hr];rfl
  .cases h
 .cases h
def U2:List RlA->Rw->Option (Option Rw)
 |[],ls=>Θ (Θ ls)
 |r::rs,ls=>(match Anb (dq 17 [.agg r.c] []) with
  |some (r',k)=>(match decide (k=-1),decide (k=0) with
   |true,_=>Θ Ξ
   |false,Δ=>(match Adv dq ls r' with
    |some ls'=>U2 rs ls'
    |none=>Ξ)
   |false,Φ=>U2 rs ls)
  |none=>Ξ)
theorem FJ:∀{rs:List RlA} {ls:Rw} {o:Option Rw},U2 dq rs ls=Θ o->Run1 dq rs ls o
 |[],ls,o,h=>by
  injection h with h
  subst h;exact .nil ls
 |r::rs,ls,o,h=>by
  unfold U2 at h;split at h
  .rename_i r' k ht
   have ht:=Za ht;split at h
   .rename_i hk
    have:=of_decide_eq_true hk;subst this;injection h with h
    subst h;exact .never r r' rs ls ht
   .rename_i hk h0
    have:=of_decide_eq_true h0;subst this;split at h
    .rename_i ls' hn
     exact .note r r' rs ls ls' o ht (WF dq hn) (FJ h)
    .cases h
   .rename_i hk h0
    exact .skip r r' rs ls k o ht (of_decide_eq_false hk) (of_decide_eq_false h0) (FJ h)
  .cases h
def Ana:Option (AV × List BO)->Option (List RlA × Bool × Ab)
 |some (.tup [.ls more,.v (.bool ok)],[.set ⟨y,Δ,Φ⟩])=>(match Ad4 more,y.all H7&&Nat.beq y.length 9 with
  |some ms,Δ=>Θ (ms,ok,y)
  |_,_=>Ξ)
 |_=>Ξ
theorem LD{o:Option (AV × List BO)}{ms:List RlA}{ok:Bool}{y:Ab}(h:Ana o=Θ (ms,ok,y)):o=Θ (.tup [.ls (ms.map RlA.c),bv ok],[.set ⟨y,Δ,Φ⟩])/\y.all H7=Δ/\y.length=9:=by
 unfold Ana at h;split at h
 .split at h
  .rename_i hr hc
   injection h with h
   injection h with h1 h
   injection h with h2 h3
   subst h1 h2 h3;rw[Awh]at hc;rw[Mf hr];exact⟨rfl,hc.1,AwA hc.2⟩
  .cases h
 .cases h
def U4:Rw->List RlA->Option (Option (List RlA))
 |[],out=>Θ (Θ out)
 |x::xs,out=>(match Ana (dq 89 [.ptr 0 0] [⟨x,Δ,Φ⟩]) with
  |some (_,Φ,_)=>Θ Ξ
  |some ([m0],Δ,_)=>U4 xs (out++[m0])
  |some ([m0,m1],Δ,_)=>U4 xs (out++[m0,m1])
  |_=>Ξ)
theorem Hq:∀{xs:Rw} {out:List RlA} {o:Option (List RlA)},U4 dq xs out=Θ o->Run2 dq xs out o
 |[],out,o,h=>by
  injection h with h
  subst h;exact .nil out
 |x::xs,out,o,h=>by
  unfold U4 at h;split at h
  .rename_i ms y ht
   obtain⟨g1,g2,g3⟩:=LD ht;injection h with h
   subst h;exact .never x y xs out _ g1 g2 g3
  .rename_i m0 y ht
   obtain⟨g1,g2,g3⟩:=LD ht;exact .go x y xs out m0 [] o g1 g2 g3 (by simp) (Hq h)
  .rename_i m0 m1 y ht
   obtain⟨g1,g2,g3⟩:=LD ht;exact .go x y xs out m0 [m1] o g1 g2 g3 (by simp) (Hq h)
  .cases h
