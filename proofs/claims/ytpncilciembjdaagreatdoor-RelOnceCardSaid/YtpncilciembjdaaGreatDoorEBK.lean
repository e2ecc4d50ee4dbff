/- strings.Builder's method -/
import Derived.Test.YtpncilciembjdaaGreatDoorEBJ
import Derived.Shelf.Strings.Builder1
import Derived.Test.YtpncilciembjdaaGreatDoorEAV
import Derived.Deep.RegionWith
import Derived.Test.YtpncilciembjdaaGreatDoorEBI
set_option linter.all false
open Array renaming getElem?_eq_none->AsV
open Bool renaming false->Φ,true->Δ,and_eq_true->ArX
open List renaming getElem?_cons_succ->Ar9,getElem?_cons_zero->Ash,getElem?_eq_getElem->φ,getElem?_map->Ass,getElem?_toArray->Asw,length_append->η,length_cons->ε,length_map->Ar2,length_nil->As3,length_pos_iff->Avh,map_cons->Ar7,setIfInBounds_toArray->Atf,set_cons_succ->AtJ,set_cons_zero->Atq,size_toArray->Atv
open Nat renaming eq_of_beq_eq_true->Asl,le_of_ble_eq_true->Aty,le_of_lt->AtO,le_refl->κ,le_trans->Asr,lt_or_ge->Asu,not_lt_zero->AvJ,zero_le->AsB
open Option renaming none->Ξ,some->Θ,map_eq_some_iff->AsN
namespace Go.Proofs.YtpncilciembjdaaGreatDoor
open Lib renaming BuilderAt->Ave,IsBuilder->Ate,byteCells->As0,byteCells_append->Atz,byteCells_length->Atr,cell_of_heap->Aut,hid->π,strCells->AvR
open Tryz renaming prog->ArP
open Go.RowKit
theorem YV:(Tryz.prog.info? 5).map (λi=>(i.zero,i.size,i.bytes))=Θ (Θ (.int .u8 0),1,1):=by kernel_rfl
theorem Tg:(Tryz.prog.info? 180).map (·.size)=Θ 2:=by kernel_rfl
theorem Aa5:liesAt ArP Tryz.prog.depth 180 (2 / Tryz.prog.cellsOf 180) 0 180 1=Δ:=by kernel_rfl
set_option maxHeartbeats 1000000 in
set_option maxRecDepth 100000 in
theorem N2(b:Nat)(w:World)(h0:w.cell? ⟨b,0,Ξ⟩=Θ (.pointer (Θ ⟨b,0,Ξ⟩))) :
  Calls ArP 250 #[.pointer (Θ ⟨b,0,Ξ⟩)] w λe w'=>e=.returned (.tuple #[])/\w'=w:=by
 obtain⟨j,hj,_⟩:=AsN.1 Tg
 go_enter Tryz.func250,Tryz.ntmps250
 go_wp2
 rw[Lib.run_neq_ptr_same w _ Tryz.underlying177 hj]
 go_wp2
 go_end0
 exact⟨rfl,rfl⟩
set_option maxHeartbeats 1000000 in
set_option maxRecDepth 100000 in
theorem MQ(b:Nat)(w:World)(h0:w.cell? ⟨b,0,Ξ⟩=Θ (.pointer Ξ))(hsh:w.shape? b=Θ (180,2))(hfz:w.frozen? ⟨b,0,Ξ⟩=Φ) :
  Calls ArP 250 #[.pointer (Θ ⟨b,0,Ξ⟩)] w λe w'=>e=.returned (.tuple #[])/\w'=w.setCell ⟨b,0,Ξ⟩ (.pointer (Θ ⟨b,0,Ξ⟩)):=by
 obtain⟨j,hj,hjs⟩:=AsN.1 Tg
 go_enter Tryz.func250,Tryz.ntmps250
 go_wp2
 rw[Lib.run_to_unsafe w ⟨b,0,Ξ⟩ Tryz.underlying177 Tryz.underlying248 hj (by rw[hjs];decide) hsh (Nat.zero_lt_succ 1)];simp only[Result.andThen];rw[Oper.upon_value]
 go_wp2
 rw[run_callFunc_extern Tryz.func269 (by kernel_rfl) (by kernel_rfl) (by kernel_rfl) (e:=Extern.AbiNoEscape.same) (by kernel_rfl)];rw[Lib.run_noEscape];simp only[Result.andThen];rw[Oper.upon_value]
 go_wp2
 rw[Lib.run_from_unsafe w ⟨b,0,Ξ⟩ Tryz.underlying248 Tryz.underlying177 hj hsh Aa5];simp only[Result.andThen];rw[Oper.upon_value]
 go_wp2
 go_end0
 exact⟨rfl,rfl⟩
theorem PR(B b:Nat)(bs:List Value)(w:World)(h:Ate 180 5 B b bs w) :
  Calls ArP 250 #[.pointer (Θ ⟨b,0,Ξ⟩)] w λe w'=>e=.returned (.tuple #[])/\(Ave 180 5 B b (.pointer (Θ ⟨b,0,Ξ⟩)) bs w'/\Below B w w'/\∀ k,k≠b->w'.heap[k]? = w.heap[k]?):=by
 rcases h with h|h
 .refine(MQ b w h.cell0 h.shape h.frozen0).mono ?_
  rintro e w' ⟨rfl,rfl⟩;exact⟨rfl,h.used _,(Below.refl B w).setCell (p:=⟨b,0,Ξ⟩) h.1 _,λk hk=>Below.heap_setCell _ _ _ _ hk⟩
 .refine(N2 b w h.cell0).mono ?_
  rintro e w' ⟨rfl,rfl⟩;exact⟨rfl,h,Below.refl B _,λ_ _=>rfl⟩
set_option maxHeartbeats 2000000 in
set_option maxRecDepth 100000 in
theorem Ci(B b:Nat)(bs:List Value)(s:ByteArray)(w:World)(h:Ate 180 5 B b bs w)(hlen:bs.length+s.size<=140737488355328)(hBw:B<=w.heap.size) :
  Calls ArP 225 #[.pointer (Θ ⟨b,0,Ξ⟩),.string s] w λe w'=>e=.returned (.tuple #[.int .i64 s.size,.nilIface])/\(Ave 180 5 B b (.pointer (Θ ⟨b,0,Ξ⟩)) (bs++AvR s) w'/\Below B w w'/\∀ k cs T fr,w.heap[k]? = Θ (.cells cs T fr)->k≠b->T≠5->w'.heap[k]? = Θ (.cells cs T fr)):=by
 obtain⟨i0,hi,hz0,hz1,hz2⟩:=info_parts YV
 go_enter Tryz.func225,Tryz.ntmps225
 go_wp2_with (go_at_call 250;refine(PR B b bs _ h).mono ?_)
 rintro e w1 ⟨rfl,h1,hb1,hk1⟩;obtain⟨hB,v,hbk,hown,hne⟩:=h1;have c0:w1.cell? ⟨b,0,Ξ⟩=Θ (.pointer (Θ ⟨b,0,Ξ⟩)):=by rw[Aut hbk];rfl
 have c1:w1.cell? ⟨b,1,Ξ⟩=Θ v:=by rw[Aut hbk];rfl
 go_wp2_with (at_builtin;refine Lib.wpList_append_own_string _ rfl _ _ 178 9 rfl B 5 i0 Tryz.underlying178 Tryz.underlying9 hi hz0 hz1 hz2 _ _ _ rfl hown s rfl ?c3 ?c4 ?c5 ?_)
 case c3=>unfold maxLen;omega
 case c4=>omega
 case c5=>have:=hb1.size;omega
 intro v' w2 hown' hgrow _;have hlt:b<w1.heap.size:=by
  rcases Asu b w1.heap.size with h' | h'
  .exact h'
  .simp[AsV h']at hbk
 have hb2:w2.heap[b]? = Θ (.cells #[.pointer (Θ ⟨b,0,Ξ⟩),v] 180 (0,0)):=by
  rw[hgrow.block b hlt (λe=>hne e.symm)];exact hbk
 have d0:w2.cell? ⟨b,0,Ξ⟩=Θ (.pointer (Θ ⟨b,0,Ξ⟩)):=by rw[Aut hb2];rfl
 have d1:w2.cell? ⟨b,1,Ξ⟩=Θ v:=by rw[Aut hb2];rfl
 have f1:w2.frozen? ⟨b,1,Ξ⟩=Φ:=Lib.frozen_of_heap hb2 1;obtain⟨ao,n',cap,rfl⟩:∃ ao n' cap,v'=.slice ao n' cap:=by
  rcases hown'.2 with⟨hv,_⟩|⟨g,cap,cur,hv,_⟩
  .exact⟨_,_,_,hv⟩
  .exact⟨_,_,_,hv⟩
 go_wp2
 go_ret2
 refine⟨rfl,?_,?_,?_⟩
 .exact Lib.BuilderAt.put (T:=180) (e:=5) hB hb2 (bs':=bs++AvR s) (by simpa[Lib.strCells_length]using hown') (by decide)
 .exact(hb1.grown hgrow (by have:=hb1.size;omega) (λk hk=>(hown.lt k hk).1)).setCell (p:=⟨b,1,Ξ⟩) hB _
 .intro k cs T fr hk hkb hT
  have h1:=(hk1 k hkb).trans hk;have hlk:k<w1.heap.size:=by
   rcases Asu k w1.heap.size with h' | h'
   .exact h'
   .simp[AsV h']at h1
  have h2:=(hgrow.block k hlk λe=>Lib.ownBlock_ne hown h1 hT e.symm).trans h1;exact(Below.heap_setCell _ _ _ _ hkb).trans h2
def Z8(l:List UInt8)(neg:Bool):List UInt8:=if l=[] then(if neg then [45] else []) else if neg then [32,45,32] else [32,43,32]
def G7(l:List UInt8)(neg:Bool)(tx:List UInt8):List UInt8:=l++Z8 l neg++tx
set_option maxHeartbeats 2000000 in
set_option maxRecDepth 100000 in
theorem FR(B b:Nat)(l tx:List UInt8)(neg:Bool)(w:World)(h:Ate 180 5 B b (As0 l) w)(hlen:l.length+3+tx.length<=140737488355328)(hBw:B<=w.heap.size) :
  Calls ArP 191 #[.pointer (Θ ⟨b,0,Ξ⟩),.bool neg,.string ⟨tx.toArray⟩] w λe w'=>e=.returned (.tuple #[])/\(Ave 180 5 B b (.pointer (Θ ⟨b,0,Ξ⟩)) (As0 (G7 l neg tx)) w'/\Below B w w'/\∀ k cs T fr,w.heap[k]? = Θ (.cells cs T fr)->k≠b->T≠5->w'.heap[k]? = Θ (.cells cs T fr)):=by
 have HH:=π h;have HLEN:=π hlen;have HBW:=π hBw;clear h hlen hBw
 go_enter Tryz.func191,Tryz.ntmps191
 have hg:=Tryz.Builder_Len B b _ _ HH.out;obtain⟨c,hc⟩:∃ c,c=(As0 l).length:=⟨_,rfl⟩;rw[←hc]at hg;have HG:=π hg;clear hg;rw[Atr]at hc
 by_cases hl:l=[]
 .have y0:(c:Int)=0:=by rw[hc,hl];rfl
  cases neg with
  |true=>
   have hs:G7 l Δ tx=l++[45]++tx:=by unfold G7 Z8;rw[if_pos hl,if_pos rfl]
   go_wp2_with (go_at_call 233;refine HG.out.mono ?_)
   rintro e w1 ⟨rfl,rfl⟩
   go_wp2_with (go_at_call 225;refine(Ci B b (As0 l) _ _ HH.out ?h1 HBW.out).mono ?_)
   case h1=>
    rw[Atr];have h5:=HLEN.out;simp only[ByteArray.size,Atv,η,ε,As3]at h5 ⊢;omega
   first|rintro e w2 rfl hd2 hb2 hk2|rintro e w2 ⟨rfl,hd2,hb2,hk2⟩
   have HD2:=π (show Ate 180 5 B b (As0 (l++[45])) w2 from .inr (by rw[Atz];exact hd2));have HB2:=π hb2;have HK2:=π hk2;have HY2:=π (Asr HBW.out hb2.size);clear hd2 hb2 hk2
   go_wp2_with (go_at_call 225;refine(Ci B b (As0 (l++[45])) _ _ HD2.out ?h1 HY2.out).mono ?_)
   case h1=>
    rw[Atr];have h5:=HLEN.out;simp only[ByteArray.size,Atv,η,ε,As3]at h5 ⊢;omega
   first|rintro e w3 rfl hd3 hb3 hk3|rintro e w3 ⟨rfl,hd3,hb3,hk3⟩
   go_wp2
   go_end0
   refine⟨rfl,?_,HB2.out.trans hb3,λk cs T fr h1 h2 h3=>hk3 k cs T fr (HK2.out k cs T fr h1 h2 h3) h2 h3⟩;rw[hs,Atz];exact hd3
  |false=>
   have hs:G7 l Φ tx=l++tx:=by unfold G7 Z8;rw[if_pos hl,if_neg (by decide),List.append_nil]
   go_wp2_with (go_at_call 233;refine HG.out.mono ?_)
   rintro e w1 ⟨rfl,rfl⟩
   go_wp2_with (go_at_call 225;refine(Ci B b (As0 l) _ _ HH.out ?h1 HBW.out).mono ?_)
   case h1=>
    rw[Atr];have h5:=HLEN.out;simp only[ByteArray.size,Atv,η,ε,As3]at h5 ⊢;omega
   first|rintro e w3 rfl hd3 hb3 hk3|rintro e w3 ⟨rfl,hd3,hb3,hk3⟩
   go_wp2
   go_end0
   refine⟨rfl,?_,hb3,hk3⟩;rw[hs,Atz];exact hd3
 .have y0:¬ (c:Int)=0:=by
   have:=Avh.2 hl;omega
  have y1:((c:Int) == 0)=Φ:=by simpa using y0
  clear hc
  cases neg with
  |true=>
   have hs:G7 l Δ tx=l++[32,45,32]++tx:=by unfold G7 Z8;rw[if_neg hl,if_pos rfl]
   go_wp2_with (go_at_call 233;refine HG.out.mono ?_)
   rintro e w1 ⟨rfl,rfl⟩
   go_wp2_with (go_at_call 225;refine(Ci B b (As0 l) _ _ HH.out ?h1 HBW.out).mono ?_)
   case h1=>
    rw[Atr];have h5:=HLEN.out;simp only[ByteArray.size,Atv,η,ε,As3]at h5 ⊢;omega
   first|rintro e w2 rfl hd2 hb2 hk2|rintro e w2 ⟨rfl,hd2,hb2,hk2⟩
   have HD2:=π (show Ate 180 5 B b (As0 (l++[32,45,32])) w2 from .inr (by rw[Atz];exact hd2));have HB2:=π hb2;have HK2:=π hk2;have HY2:=π (Asr HBW.out hb2.size);clear hd2 hb2 hk2
   go_wp2_with (go_at_call 225;refine(Ci B b (As0 (l++[32,45,32])) _ _ HD2.out ?h1 HY2.out).mono ?_)
   case h1=>
    rw[Atr];have h5:=HLEN.out;simp only[ByteArray.size,Atv,η,ε,As3]at h5 ⊢;omega
   first|rintro e w3 rfl hd3 hb3 hk3|rintro e w3 ⟨rfl,hd3,hb3,hk3⟩
   go_wp2
   go_end0
   refine⟨rfl,?_,HB2.out.trans hb3,λk cs T fr h1 h2 h3=>hk3 k cs T fr (HK2.out k cs T fr h1 h2 h3) h2 h3⟩;rw[hs,Atz];exact hd3
  |false=>
   have hs:G7 l Φ tx=l++[32,43,32]++tx:=by unfold G7 Z8;rw[if_neg hl,if_neg (by decide)]
   go_wp2_with (go_at_call 233;refine HG.out.mono ?_)
   rintro e w1 ⟨rfl,rfl⟩
   go_wp2_with (go_at_call 225;refine(Ci B b (As0 l) _ _ HH.out ?h1 HBW.out).mono ?_)
   case h1=>
    rw[Atr];have h5:=HLEN.out;simp only[ByteArray.size,Atv,η,ε,As3]at h5 ⊢;omega
   first|rintro e w2 rfl hd2 hb2 hk2|rintro e w2 ⟨rfl,hd2,hb2,hk2⟩
   have HD2:=π (show Ate 180 5 B b (As0 (l++[32,43,32])) w2 from .inr (by rw[Atz];exact hd2));have HB2:=π hb2;have HK2:=π hk2;have HY2:=π (Asr HBW.out hb2.size);clear hd2 hb2 hk2
   go_wp2_with (go_at_call 225;refine(Ci B b (As0 (l++[32,43,32])) _ _ HD2.out ?h1 HY2.out).mono ?_)
   case h1=>
    rw[Atr];have h5:=HLEN.out;simp only[ByteArray.size,Atv,η,ε,As3]at h5 ⊢;omega
   first|rintro e w3 rfl hd3 hb3 hk3|rintro e w3 ⟨rfl,hd3,hb3,hk3⟩
   go_wp2
   go_end0
   refine⟨rfl,?_,HB2.out.trans hb3,λk cs T fr h1 h2 h3=>hk3 k cs T fr (HK2.out k cs T fr h1 h2 h3) h2 h3⟩;rw[hs,Atz];exact hd3
structure PartH (dq:Nat->DF) (names:AV) (one:Zi) (p:Pt) (it:Bool × List UInt8) where
 nm:List UInt8
 many:Zi
 c:Int
 s:Int
 name:dq 188 [iv p.v,names] []=Θ (sv (C7 nm),[])
 abs:dq 189 [.agg (eZ p.z)] []=Θ (.agg (eZ many),[])
 cmp:dq 155 [.agg (eZ many),.agg (eZ one)] []=Θ (iv c,[])
 sign:dq 64 [.agg (eZ p.z)] []=Θ (iv s,[])
 neg:it.1=decide (s<0)
 text:c=0/\it.2=nm\/c≠0/\∃ tx,dq 190 [.agg (eZ many)] []=Θ (sv (C7 tx),[])/\it.2=tx++42::nm
def GC(l:List UInt8)(items:List (Bool × List UInt8)):List UInt8:=items.foldl (λl it=>G7 l it.1 it.2) l
theorem ZH{μ:Mu}{F:AI}{B:Nat}{w:World}{A:Option Addr}{n c:Nat}{ps:List Pt}(h:Rep μ F w (.ls (ps.map eP)) (.slice A n c))(hF:∀ g o,F g o->g<B)(h0:0<ps.length) :
  ∃ b o,A=Θ ⟨b,o,Ξ⟩/\b<B/\∀ i (hi:i<ps.length),w.cell? ⟨b,o+i*3,Ξ⟩=Θ (.int .i64 ps[i].v)/\w.cell? ⟨b,o+i*3+1,Ξ⟩=Θ (.bool ps[i].z.neg)/\∃ A' c',w.cell? ⟨b,o+i*3+2,Ξ⟩=Θ (.slice A' ps[i].z.abs.length c')/\Rep μ F w (eN ps[i].z.abs) (.slice A' ps[i].z.abs.length c'):=by
 simp only[Rep]at h;obtain⟨_,A2,c2,h1,h2,h3,h4⟩:=h;injection h1 with e1 e2 e3
 subst e1;obtain⟨g,o,e,hA,hr⟩:=h4 (by
  intro hh;rw[List.map_eq_nil_iff]at hh;rw[hh]at h0;exact Nat.lt_irrefl _ h0)
 have he:e=3:=by
  have:=hr.get (i:=0) (x:=eP ps[0]) (by rw[Ass,φ h0];rfl);have:=this.1;unfold eP at this;simpa using this.symm
 subst he;have cell:∀ i (hi:i<ps.length),w.cell? ⟨g,o+i*3,Ξ⟩=Θ (.int .i64 ps[i].v)/\w.cell? ⟨g,o+i*3+1,Ξ⟩=Θ (.bool ps[i].z.neg)/\∃ A' c',w.cell? ⟨g,o+i*3+2,Ξ⟩=Θ (.slice A' ps[i].z.abs.length c')/\Rep μ F w (eN ps[i].z.abs) (.slice A' ps[i].z.abs.length c'):=λi hi=>by
  have ha:=(hr.get (i:=i) (x:=eP ps[i]) (by rw[Ass,φ hi];rfl)).2;unfold eP at ha;obtain⟨_,u0,c0,r0⟩:=ha.get (i:=0) (x:=iv ps[i].v) rfl;obtain⟨_,u1,c1,r1⟩:=ha.get (i:=1) (x:=bv ps[i].z.neg) rfl;obtain⟨_,u2,c2,r2⟩:=ha.get (i:=2) (x:=eN ps[i].z.abs) rfl;obtain rfl:=Rp.int_inv (Rep.plain _ _ rfl r0);obtain rfl:=Rp.bool_inv (Rep.plain _ _ rfl r1);obtain⟨A',c',rfl⟩:=Rp.ls_inv (Rep.plain _ _ rfl r2);rw[Ar2]at c2 r2;exact⟨c0,c1,A',c',c2,r2⟩
 have ha:=(hr.get (i:=0) (x:=eP ps[0]) (by rw[Ass,φ h0];rfl)).2;unfold eP at ha;obtain⟨hf,_⟩:=ha.get (i:=0) (x:=iv ps[0].v) rfl;exact⟨g,o,hA,hF _ _ hf,cell⟩
structure KiH (dq:Nat->DF) (ps:List Pt) (kz:Zi) (l fin:List UInt8) where
 s:Int
 sign:dq 64 [.agg (eZ kz)] []=Θ (iv s,[])
 text:s=0/\ps≠[]/\fin=l\/(s≠0\/ps=[])/\∃ many tx,dq 189 [.agg (eZ kz)] []=Θ (.agg (eZ many),[])/\dq 190 [.agg (eZ many)] []=Θ (sv (C7 tx),[])/\fin=G7 l (decide (s<0)) tx/\l.length+3+tx.length<=140737488355328
theorem Aap(items:List (Bool × List UInt8))(k:Nat)(h:k<items.length):GC [] (items.take (k+1))=G7 (GC [] (items.take k)) items[k].1 items[k].2:=by
 unfold GC;rw[List.take_succ_eq_append_getElem h,List.foldl_append];rfl
theorem P9(a:List UInt8):(C7 a).size=a.length:=by simp[C7,ByteArray.size]
theorem Ti(a b:List UInt8):C7 a++C7 b=C7 (a++b):=by
 unfold C7;apply ByteArray.ext;simp[ByteArray.data_append]
theorem DU{w w':World}{T e:TypeId}{B b:Nat}{bs:List Value}(h:Ate T e B b bs w)(hb:Below w.heap.size w w'):Ate T e B b bs w':=by
 rcases h with h|h
 .obtain⟨hB,v,h1,h2,h3⟩:=h
  have hl:=Lib.BuilderAt.lt ⟨hB,v,h1,h2,h3⟩;exact .inl ⟨hB,v,(hb.block b hl).trans h1,Uz h2 hb,h3⟩
 .obtain⟨hB,v,h1,h2,h3⟩:=h
  have hl:=Lib.BuilderAt.lt ⟨hB,v,h1,h2,h3⟩;exact .inr ⟨hB,v,(hb.block b hl).trans h1,Uz h2 hb,h3⟩
set_option maxHeartbeats 4000000 in
set_option maxRecDepth 100000 in
theorem SU(dq:Nat->DF)(G:∀ f,Bu (BD ArP f) (dq f))(t0 t1 t2:AV)(names:AV)(ps:List Pt)(kz one:Zi)(items:List (Bool × List UInt8))(l0':items.length=ps.length)
  (hP:dq 62 [.agg [t0,t1,t2]] []=Θ (.agg (eT ⟨ps,kz⟩),[])) (hO:dq 126 [iv 1] []=Θ (.agg (eZ one),[]))
  (hI:∀ i (h:i<ps.length),PartH dq names one ps[i] items[i]) (hL:∀ i (h:i<ps.length),(GC [] (items.take i)).length+3+items[i].2.length<=140737488355328) (fin:List UInt8) (hK:KiH dq ps kz (GC [] items) fin) (w:World) (v0 v1 v2 nv:Value) (r0:Rp w t0 v0) (r1:Rp w t1 v1) (r2:Rp w t2 v2) (rn:Rp w names nv) :
  Calls ArP 130 #[.agg #[v0,v1,v2],nv] w λe w'=>e=.returned (.string ⟨fin.toArray⟩)/\Below w.heap.size w w':=by
 have HR:=π (RpL.cons r0 (RpL.cons r1 (RpL.cons r2 (RpL.nil w))));have HN:=π rn;clear r0 r1 r2 rn
 go_enter Tryz.func130,Tryz.ntmps130
 go_wp2_with (go_at_call 62;refine(Og (G _) hP w 28 #[v0,v1,v2] [.agg #[v0,v1,v2]] (RpL.cons (Rp.agg HR.out) (RpL.nil _))).mono ?_)
 rintro e w1 ⟨u,μ',F',c',rfl,hb1,hbk,hsz,hu,hF1,hF2⟩;have hu0:Rp w1 (.agg (eT ⟨ps,kz⟩)) u:=Rep.plain _ _ rfl hu;obtain⟨us,rfl,hus⟩:=Rp.agg_inv hu0;obtain⟨vp,us,rfl,rp,hus⟩:=RpL.cons_inv hus;obtain⟨vk,us,rfl,rk,hus⟩:=RpL.cons_inv hus;obtain⟨va,us,rfl,ra,hus⟩:=RpL.cons_inv hus;obtain rfl:=RpL.nil_inv hus;obtain rfl:=Rp.bool_inv rk;obtain⟨A,ca,rfl⟩:=Rp.ls_inv rp;obtain⟨A2,ca2,rfl⟩:=Rp.ls_inv ra;clear rp ra rk hu0 hus;obtain⟨d0,d1,d2,rfl⟩:∃ d0 d1 d2,c'=#[d0,d1,d2]:=by
  obtain⟨l⟩:=c'
  match l,hsz with
  |[a,b,c],_=>exact⟨a,b,c,rfl⟩
 have HBX:=π (show Blk w1 w.heap.size 28 #[d0,d1,d2] from hbk);have HU:=π hu;have HF2:=π hF2;have HB1:=π hb1;have HF1:=π hF1;clear hu hF1 hF2 hsz hbk hb1;have c0:w1.cell? ⟨w.heap.size,0,Ξ⟩=Θ d0:=HBX.out.cell 0;have c1:w1.cell? ⟨w.heap.size,1,Ξ⟩=Θ d1:=HBX.out.cell 1;have c2:w1.cell? ⟨w.heap.size,2,Ξ⟩=Θ d2:=HBX.out.cell 2;have f0:w1.frozen? ⟨w.heap.size,0,Ξ⟩=Φ:=HBX.out.frozen 0;have f1:w1.frozen? ⟨w.heap.size,1,Ξ⟩=Φ:=HBX.out.frozen 1;have f2:w1.frozen? ⟨w.heap.size,2,Ξ⟩=Φ:=HBX.out.frozen 2;have hb2:=(((HBX.out.set_ 0 (.slice A ps.length ca)).set_ 1 (.bool kz.neg)).set_ 2 (.slice A2 kz.abs.length ca2)).alloc (.cells #[.pointer Ξ,.slice Ξ 0 0] 180);have y0:=hb2.cell 0;have HB2:=π hb2;clear hb2;simp only[Atf,Atq,AtJ,Asw,Ash]at y0;have hu2:=Ads HU.out HBX.out HF1.out HF2.out (.slice A ps.length ca) (.bool kz.neg) (.slice A2 kz.abs.length ca2) (.cells #[.pointer Ξ,.slice Ξ 0 0] 180);obtain⟨rp,_,ra⟩:=Adr hu2;clear hu2;simp only[Ar2]at rp ra;have hml:ps.length<=9223372036854775807:=by
  have h:=rp;simp only[Rep]at h;obtain⟨_,A3,c3,h1,h2,h3,_⟩:=h;rw[Ar2]at h2;unfold maxLen at h3;omega
 have RP:=π rp;have RA:=π ra;clear rp ra;have hsz2:(((w1.setCell ⟨w.heap.size,0,Ξ⟩ (.slice A ps.length ca)).setCell ⟨w.heap.size,1,Ξ⟩ (.bool kz.neg)).setCell ⟨w.heap.size,2,Ξ⟩ (.slice A2 kz.abs.length ca2)).heap.size=w1.heap.size:=by simp
 have hbld:Ate 180 5 w1.heap.size w1.heap.size (As0 (GC [] (items.take 0))) ((((w1.setCell ⟨w.heap.size,0,Ξ⟩ (.slice A ps.length ca)).setCell ⟨w.heap.size,1,Ξ⟩ (.bool kz.neg)).setCell ⟨w.heap.size,2,Ξ⟩ (.slice A2 kz.abs.length ca2)).alloc (.cells #[.pointer Ξ,.slice Ξ 0 0] 180)):=by
  refine .inl ⟨κ _,.slice Ξ 0 0,?_,World.ownsRow_nil _ _ _ _,by simp[Value.ownBlock]⟩;have:=heap_alloc_new (((w1.setCell ⟨w.heap.size,0,Ξ⟩ (.slice A ps.length ca)).setCell ⟨w.heap.size,1,Ξ⟩ (.bool kz.neg)).setCell ⟨w.heap.size,2,Ξ⟩ (.slice A2 kz.abs.length ca2)) (.cells #[.pointer Ξ,.slice Ξ 0 0] 180);rw[hsz2]at this;exact this
 have hbw:Below w.heap.size w ((((w1.setCell ⟨w.heap.size,0,Ξ⟩ (.slice A ps.length ca)).setCell ⟨w.heap.size,1,Ξ⟩ (.bool kz.neg)).setCell ⟨w.heap.size,2,Ξ⟩ (.slice A2 kz.abs.length ca2)).alloc (.cells #[.pointer Ξ,.slice Ξ 0 0] 180)):=
  ((((HB1.out.setCell (p:=⟨w.heap.size,0,Ξ⟩) (κ _) _).setCell (p:=⟨w.heap.size,1,Ξ⟩) (κ _) _).setCell (p:=⟨w.heap.size,2,Ξ⟩) (κ _) _).alloc (by rw[hsz2];exact HB1.out.size) _)
 have HBL:=π hbld;have HBW:=π hbw;clear hsz2 hbld hbw
 go_wp2_with fail
 revert y0;have RP:=RP.out;have RA:=RA.out;have HB2:=HB2.out;have HBL:=HBL.out;have HBW:=HBW.out;generalize hW2:((((w1.setCell ⟨w.heap.size,0,Ξ⟩ (.slice A ps.length ca)).setCell ⟨w.heap.size,1,Ξ⟩ (.bool kz.neg)).setCell ⟨w.heap.size,2,Ξ⟩ (.slice A2 kz.abs.length ca2)).alloc (.cells #[.pointer Ξ,.slice Ξ 0 0] 180))=W2 at *;intro y0
 go_loopw [15] (λq wr=>∃ k:Nat,k<=ps.length/\q=.int .i64 k/\Ate 180 5 w1.heap.size w1.heap.size (As0 (GC [] (items.take k))) wr/\Below w1.heap.size W2 wr) (λq _=>ps.length-(intOf q).toNat)
 case atStart=>exact⟨0,AsB _,rfl,HBL,Below.refl _ _⟩
 case round=>
  obtain⟨k,hk,rfl,hbld,hb⟩:=hrel;have HBLD:=π hbld;have HB:=π hb;have RP:=π RP;have RA:=π RA;have HB2:=π HB2;have HBL:=π HBL;have HBW:=π HBW;have HW2:=π hW2;clear hbld hb c0 c1 c2 f0 f1 f2 y0 hW2
  by_cases hlt:k<ps.length
  .obtain⟨b,o,rfl,hbl,hc⟩:=ZH RP.out HF1.out (Nat.lt_of_le_of_lt (AsB _) hlt)
   obtain⟨d0',d1',A',cc',d2',rz⟩:=hc k hlt;have e0:=(HB.out.cell (p:=⟨b,o+k*3,Ξ⟩) hbl).trans d0';have e1:=(HB.out.cell (p:=⟨b,o+k*3+1,Ξ⟩) hbl).trans d1';have e2:=(HB.out.cell (p:=⟨b,o+k*3+2,Ξ⟩) hbl).trans d2';have l0:b<wr.heap.size:=Afp e0;have z0:(0:Int)<=(k:Int):=by omega
   have z1:(k:Int)<(ps.length:Int):=by omega
   have hih:=hI k hlt;have hlen:=hL k hlt;have htk:=Aap items k (l0'▸hlt);have hrn:Rp wr names nv:=HN.out.below (HBW.out.trans (HB.out.mono HB1.out.size));have hrz:Rp wr (eN ps[k].z.abs) (.slice A' ps[k].z.abs.length cc'):=Rep.plain _ _ rfl (Rep.later (μ':=μ') ⟨λ_ _ h=>h,λg o hg=>⟨hg,HB.out.cell (p:=⟨g,o,Ξ⟩) (HF1.out g o hg)⟩⟩ _ _ rz);have HRN:=π hrn;clear hc d0' d1' d2' rz hrn;revert hih hlen htk e0 e1 e2 hrz;generalize ps[k]=p;generalize items[k]'(l0'▸hlt)=it;obtain⟨pv_,pn_,pa_⟩:=p;obtain⟨itn,itx⟩:=it;intro e0 e1 e2 hih hlen htk hrz;have HRZ:=π hrz;have HLEN:=π hlen;have HTK:=π htk;clear hrz hlen htk;simp only at e0 e1 e2;obtain⟨nm,many,cm,sg,gname,gabs,gcmp,gsign,hneg,htext⟩:=hih;have HNEG:=π hneg;have HTEXT:=π htext;clear hneg htext
   go_wp2_with (go_at_call 188;refine(BJ (G _) gname rfl _ [.int .i64 pv_,nv] (RpL.cons (Rp.int _ _) (RpL.cons (HRN.out.below (Bb _ _)) (RpL.nil _)))).mono ?_)
   first|rintro e w3 u3 rfl hb3 hu3|rintro e w3 ⟨u3,rfl,hb3,hu3⟩
   obtain rfl:=Rp.str_inv hu3
   replace hb3:Below (wr.alloc (.cells #[.int .i64 pv_,.bool pn_,.slice A' pa_.length cc'] 84)).heap.size (wr.alloc (.cells #[.int .i64 pv_,.bool pn_,.slice A' pa_.length cc'] 84)) w3:=by rw[World.size_alloc];exact hb3
   have HBX3:=π ((Blk.new wr 84 #[.int .i64 pv_,.bool pn_,.slice A' pa_.length cc']).call hb3);have HB3:=π (Ce (Bb wr _) hb3);clear hb3 hu3 e0 e1 e2;have x1:=HBX3.out.cell 1;have x2:=HBX3.out.cell 2
   go_wp2_with (go_at_call 189;refine(BJ (G _) gabs rfl _ [.agg #[.bool pn_,.slice A' pa_.length cc']] (RpL.cons (Rp.agg (RpL.cons (Rp.bool _ _) (RpL.cons (HRZ.out.below HB3.out) (RpL.nil _)))) (RpL.nil _))).mono ?_)
   first|rintro e w4 u4 rfl hb4 hu4|rintro e w4 ⟨u4,rfl,hb4,hu4⟩
   obtain⟨us,rfl,hus⟩:=Rp.agg_inv hu4;obtain⟨vm0,us,rfl,rm0,hus⟩:=RpL.cons_inv hus;obtain⟨vm1,us,rfl,rm1,hus⟩:=RpL.cons_inv hus;obtain rfl:=RpL.nil_inv hus;obtain rfl:=Rp.bool_inv rm0;obtain⟨Am,cm',rfl⟩:=Rp.ls_inv rm1;simp only[Ar2]at rm1;have HBX5:=π ((HBX3.out.call hb4).alloc (.cells #[.bool many.neg,.slice Am many.abs.length cm'] 26));have HM5:=π (Blk.new w4 26 #[.bool many.neg,.slice Am many.abs.length cm']);have HB5:=π (Ce (Ce HB3.out hb4) (Bb w4 (.cells #[.bool many.neg,.slice Am many.abs.length cm'] 26)));have HRM:=π (Rp.agg (RpL.cons (rm0.below (Bb w4 (.cells #[.bool many.neg,.slice Am many.abs.length cm'] 26))) (RpL.cons (rm1.below (Bb w4 (.cells #[.bool many.neg,.slice Am many.abs.length cm'] 26))) (RpL.nil _))));clear hb4 hu4 x1 x2 rm0 rm1 hus
   go_wp2_with fail
   generalize w4.alloc (.cells #[.bool many.neg,.slice Am many.abs.length cm'] 26)=w5 at *;have x1:=HM5.out.cell 0;have x2:=HM5.out.cell 1;have x3:=HM5.out.lt;simp only[Asw,Ash,Ar9]at x1 x2
   go_region_with (first
    | (go_at_call 126
       refine(BJ (G _) hO rfl _ [.int .i64 1] (RpL.cons (Rp.int _ _) (RpL.nil _))).mono ?_;rintro e w6 ⟨u6,rfl,hb6,hu6⟩
       replace hb6:=GJ hb6
       obtain⟨us,rfl,hus⟩:=Rp.agg_inv hu6;have x1:=(HM5.out.call hb6).cell 0;have x2:=(HM5.out.call hb6).cell 1;have x3:=(HM5.out.call hb6).lt;simp only[Asw,Ash,Ar9]at x1 x2)
    | (go_at_call 155
       refine(BJ (G _) gcmp rfl _ [.agg #[.bool many.neg,.slice Am many.abs.length cm'],.agg us.toArray] (RpL.cons (HRM.out.below hb6) (RpL.cons (Rp.agg hus) (RpL.nil _)))).mono ?_;rintro e w7 ⟨u7,rfl,hb7,hu7⟩;obtain rfl:=Rp.int_inv hu7))
   all_goals
    have HB7:=π (Ce (Ce HB5.out hb6) hb7);have HM7:=π ((HM5.out.call hb6).call hb7);have HBX7:=π ((HBX5.out.call hb6).call hb7);have HRM7:=π ((HRM.out.below hb6).below hb7);have HRZ7:=π (HRZ.out.below HB7.out);have HBD7:=π (DU HBLD.out HB7.out);have HLW:=π (HBLD.out.elim Lib.BuilderAt.lt Lib.BuilderAt.lt);clear hb6 hb7 hu6 hu7 hus x1 x2 x3;have x1:=HM7.out.cell 0;have x2:=HM7.out.cell 1;have x3:=HBX7.out.cell 1;have x4:=HBX7.out.cell 2;simp only[Asw,Ash,Ar9]at x1 x2 x3 x4;rcases HTEXT.out with⟨hc,hit⟩|⟨hc,tx,gtext,hit⟩
    .have hcb:(cm != 0)=Φ:=by simp[hc]
     subst hit
     go_wp2_with (go_at_call 64;refine(BJ (G _) gsign rfl _ [.agg #[.bool pn_,.slice A' pa_.length cc']] (RpL.cons (Rp.agg (RpL.cons (Rp.bool _ _) (RpL.cons HRZ7.out (RpL.nil _)))) (RpL.nil _))).mono ?_)
     first|rintro e w8 u8 rfl hb8 hu8|rintro e w8 ⟨u8,rfl,hb8,hu8⟩
     obtain rfl:=Rp.int_inv hu8;have HB8:=π (Ce HB7.out hb8);have HBD8:=π (DU HBD7.out hb8);clear hb8 hu8 x3 x4
     go_wp2_with (go_at_call 191;refine(FR w1.heap.size w1.heap.size (GC [] (items.take k)) (itx) (decide (sg<0)) _ HBD8.out HLEN.out (Asr (AtO HLW.out) HB8.out.size)).mono ?_)
     first|rintro e w9 rfl hd9 hb9 hk9|rintro e w9 ⟨rfl,hd9,hb9,hk9⟩
     have HD9:=π hd9;have HB9:=π (HB.out.trans ((HB8.out.mono (AtO HLW.out)).trans hb9));clear hd9 hb9 hk9
     go_wp2_with fail
     go_roundw
     case rel=>exact⟨k+1,hlt,by go_num,.inr (by have h:=HTK.out;(try simp only at h);rw[h,HNEG.out];exact HD9.out),HB9.out⟩
     case measure=>simp[intOf];omega
    .have hcb:(cm != 0)=Δ:=by simp[hc]
     subst hit;have hs:=HLEN.out;simp only[η,ε]at hs;have s1:(C7 tx).size<=140737488355328:=by rw[P9];omega
     have s2:(C7 nm).size<=140737488355328:=by rw[P9];omega
     have hcat:C7 tx++⟨#[42]⟩++C7 nm=C7 (tx++42::nm):=by show C7 tx++C7 [42]++C7 nm=_;rw[Ti,Ti,List.append_assoc];rfl
     have HCAT:=π hcat;clear hs hcat
     go_wp2_with (go_at_call 190;refine(BJ (G _) gtext rfl _ [.agg #[.bool many.neg,.slice Am many.abs.length cm']] (RpL.cons HRM7.out (RpL.nil _))).mono ?_)
     first|rintro e wt ut rfl hbt hut|rintro e wt ⟨ut,rfl,hbt,hut⟩
     obtain rfl:=Rp.str_inv hut
     replace HB7:=π (Ce HB7.out hbt)
     replace HBX7:=π (HBX7.out.call hbt)
     replace HRZ7:=π (HRZ7.out.below hbt)
     replace HBD7:=π (DU HBD7.out hbt)
     clear hbt hut x1 x2 x3 x4;have x3:=HBX7.out.cell 1;have x4:=HBX7.out.cell 2;simp only[Asw,Ash,Ar9]at x3 x4
     go_wp2_with fail
     simp only[HCAT.out]
     go_wp2_with (go_at_call 64;refine(BJ (G _) gsign rfl _ [.agg #[.bool pn_,.slice A' pa_.length cc']] (RpL.cons (Rp.agg (RpL.cons (Rp.bool _ _) (RpL.cons HRZ7.out (RpL.nil _)))) (RpL.nil _))).mono ?_)
     first|rintro e w8 u8 rfl hb8 hu8|rintro e w8 ⟨u8,rfl,hb8,hu8⟩
     obtain rfl:=Rp.int_inv hu8;have HB8:=π (Ce HB7.out hb8);have HBD8:=π (DU HBD7.out hb8);clear hb8 hu8 x3 x4
     go_wp2_with (go_at_call 191;refine(FR w1.heap.size w1.heap.size (GC [] (items.take k)) (tx++42::nm) (decide (sg<0)) _ HBD8.out HLEN.out (Asr (AtO HLW.out) HB8.out.size)).mono ?_)
     first|rintro e w9 rfl hd9 hb9 hk9|rintro e w9 ⟨rfl,hd9,hb9,hk9⟩
     have HD9:=π hd9;have HB9:=π (HB.out.trans ((HB8.out.mono (AtO HLW.out)).trans hb9));clear hd9 hb9 hk9
     go_wp2_with fail
     go_roundw
     case rel=>exact⟨k+1,hlt,by go_num,.inr (by have h:=HTK.out;(try simp only at h);rw[h,HNEG.out];exact HD9.out),HB9.out⟩
     case measure=>simp[intOf];omega
  .obtain rfl:k=ps.length:=by omega
   have z1:¬ (ps.length:Int)<(ps.length:Int):=by omega
   have HBX:=π (HB2.out.below HB.out (HBX.out.lt));have hra:Rp wr (eN kz.abs) (.slice A2 kz.abs.length ca2):=Rep.plain _ _ rfl (Rep.later (μ':=μ') ⟨λ_ _ h=>h,λg o hg=>⟨hg,HB.out.cell (p:=⟨g,o,Ξ⟩) (HF1.out g o hg)⟩⟩ _ _ RA.out);have HRK:=π (Rp.agg (RpL.cons (Rp.bool wr kz.neg) (RpL.cons hra (RpL.nil _))));have HBD:=HBLD.out;rw[←l0',List.take_length]at HBD;have HBD:=π HBD;have HLW:=π (HBLD.out.elim Lib.BuilderAt.lt Lib.BuilderAt.lt);have HBW:=π (HBW.out.trans (HB.out.mono HB1.out.size));clear hra HBLD RP RA HB2 HB;have x0:=HBX.out.cell 0;have x1:=HBX.out.cell 1;have x2:=HBX.out.cell 2;simp only[Atf,Atq,AtJ,Asw,Ash,Ar9]at x0 x1 x2;obtain⟨s,gsign,htext⟩:=hK;rcases htext with⟨hs0,hp0,hfin⟩|⟨hp,many,tx,gabs,gtext,hfin,hlen⟩
   .subst hs0
    have z2:((ps.length:Int) == 0)=Φ:=by
     have:=Avh.2 hp0;simp;omega
    go_wp2_with (go_at_call 64;refine(BJ (G _) gsign rfl _ [.agg #[.bool kz.neg,.slice A2 kz.abs.length ca2]] (RpL.cons HRK.out (RpL.nil _))).mono ?_)
    first|rintro e w8 u8 rfl hb8 hu8|rintro e w8 ⟨u8,rfl,hb8,hu8⟩
    obtain rfl:=Rp.int_inv hu8;have HBD8:=π (DU HBD.out hb8);have HB8:=π (HBW.out.trans (hb8.mono (Asr HB1.out.size (AtO HLW.out))));have HZ8:=π (Asr (AtO HLW.out) hb8.size)
    replace HBX:=π (HBX.out.call hb8)
    clear hb8 hu8 x0 x1 x2;have x0:=HBX.out.cell 0;simp only[Atf,Atq,AtJ,Asw,Ash,Ar9]at x0
    go_wp2_with (go_at_call 192;refine(Tryz.Builder_String_any w1.heap.size _ _ _ HBD8.out HZ8.out).mono ?_)
    first|rintro e w9 rfl hb9|rintro e w9 ⟨rfl,hb9⟩
    have HB9:=π (HB8.out.trans (hb9.mono HB1.out.size));clear hb9
    go_wp2
    go_ret
    subst hfin;exact⟨rfl,HB9.out⟩
   .subst hfin
    have HLEN:=π hlen;clear hlen
    by_cases hs:s=0
    .obtain rfl:ps=[]:=by rcases hp with h|h;exact absurd hs h;exact h
     subst hs;have z2:((([]:List Pt).length:Int) == 0)=Δ:=rfl
     go_wp2_with (go_at_call 64;refine(BJ (G _) gsign rfl _ [.agg #[.bool kz.neg,.slice A2 kz.abs.length ca2]] (RpL.cons HRK.out (RpL.nil _))).mono ?_)
     first|rintro e w8 u8 rfl hb8 hu8|rintro e w8 ⟨u8,rfl,hb8,hu8⟩
     obtain rfl:=Rp.int_inv hu8;have HBD8:=π (DU HBD.out hb8);have HB8:=π (HBW.out.trans (hb8.mono (Asr HB1.out.size (AtO HLW.out))));have HZ8:=π (Asr (AtO HLW.out) hb8.size)
     replace HBX:=π (HBX.out.call hb8)
     replace HRK:=π (HRK.out.below hb8)
     clear hb8 hu8 x0 x1 x2;have x0:=HBX.out.cell 0;have x1:=HBX.out.cell 1;have x2:=HBX.out.cell 2;simp only[Atf,Atq,AtJ,Asw,Ash,Ar9]at x0 x1 x2
     go_wp2_with fail
     go_region_with (first
      | (go_at_call 64
         refine(BJ (G _) gsign rfl _ [.agg #[.bool kz.neg,.slice A2 kz.abs.length ca2]] (RpL.cons (HRK.out.below (Below.refl _ _).drew) (RpL.nil _))).mono ?_;rintro e w9 ⟨u9,rfl,hb9,hu9⟩
         replace hb9:=GJ hb9
         obtain rfl:=Rp.int_inv hu9;have x1:=(HBX.out.call hb9).cell 1;have x2:=(HBX.out.call hb9).cell 2;have x3:=(HBX.out.call hb9).lt;simp only[Atf,Atq,AtJ,Asw,Ash,Ar9]at x1 x2)
      | (go_at_call 189
         refine(BJ (G _) gabs rfl _ [.agg #[.bool kz.neg,.slice A2 kz.abs.length ca2]] (RpL.cons (HRK.out.below hb9) (RpL.nil _))).mono ?_;rintro e wa ⟨ua,rfl,hba,hua⟩;obtain⟨usa,rfl,hul⟩:=Rp.agg_inv hua)
      | (go_at_call 190
         refine(BJ (G _) gtext rfl _ [.agg usa.toArray] (RpL.cons (Rp.agg hul) (RpL.nil _))).mono ?_;rintro e wt ⟨ut,rfl,hbt,hut⟩;obtain rfl:=Rp.str_inv hut;have hx:Below w8.heap.size w8 wt:=Ce (Ce hb9 hba) hbt;have hz:Ate 180 5 w1.heap.size w1.heap.size (As0 (GC [] items)) wt:=DU HBD8.out hx;have hs:w1.heap.size<=wt.heap.size:=Asr HZ8.out hx.size;have HX:=π hx;have HZ:=π hz;have HS:=π hs;clear hx hz hs hb9 hba hbt x1 x2)
      | (go_at_call 191
         refine(FR w1.heap.size w1.heap.size (GC [] items) tx Φ wt HZ.out HLEN.out HS.out).mono ?_;rintro e wz ⟨rfl,hdz,hbz,hkz⟩))
     all_goals
      have HDZ:=π hdz;have hx2:Below w.heap.size w8 wt:=HX.out.mono (Asr HB1.out.size HZ8.out);have hx3:Below w.heap.size wt wz:=hbz.mono HB1.out.size;have hx4:Below w.heap.size w wz:=HB8.out.trans (hx2.trans hx3);have HBZ:=π hx4;have HZZ:=π (Asr HS.out hbz.size);clear hdz hbz hkz hx2 hx3 hx4
      go_wp2_with (go_at_call 192;refine(Tryz.Builder_String_any w1.heap.size _ (G7 (GC [] items) Φ tx) _ (.inr HDZ.out) HZZ.out).mono ?_)
      first|rintro e wq rfl hbq|rintro e wq ⟨rfl,hbq⟩
      have HBQ:=π (HBZ.out.trans (hbq.mono HB1.out.size));clear hbq
      go_wp2
      go_ret
      exact⟨rfl,HBQ.out⟩
    .have z2:(s != 0)=Δ:=by simp[hs]
     go_wp2_with (go_at_call 64;refine(BJ (G _) gsign rfl _ [.agg #[.bool kz.neg,.slice A2 kz.abs.length ca2]] (RpL.cons HRK.out (RpL.nil _))).mono ?_)
     first|rintro e w8 u8 rfl hb8 hu8|rintro e w8 ⟨u8,rfl,hb8,hu8⟩
     obtain rfl:=Rp.int_inv hu8;have HBD8:=π (DU HBD.out hb8);have HB8:=π (HBW.out.trans (hb8.mono (Asr HB1.out.size (AtO HLW.out))));have HZ8:=π (Asr (AtO HLW.out) hb8.size)
     replace HBX:=π (HBX.out.call hb8)
     replace HRK:=π (HRK.out.below hb8)
     clear hb8 hu8 x0 x1 x2;have x0:=HBX.out.cell 0;have x1:=HBX.out.cell 1;have x2:=HBX.out.cell 2;simp only[Atf,Atq,AtJ,Asw,Ash,Ar9]at x0 x1 x2
     go_wp2_with fail
     go_region_with (first
      | (go_at_call 64
         refine(BJ (G _) gsign rfl _ [.agg #[.bool kz.neg,.slice A2 kz.abs.length ca2]] (RpL.cons (HRK.out.below (Below.refl _ _).drew) (RpL.nil _))).mono ?_;rintro e w9 ⟨u9,rfl,hb9,hu9⟩
         replace hb9:=GJ hb9
         obtain rfl:=Rp.int_inv hu9;have x1:=(HBX.out.call hb9).cell 1;have x2:=(HBX.out.call hb9).cell 2;have x3:=(HBX.out.call hb9).lt;simp only[Atf,Atq,AtJ,Asw,Ash,Ar9]at x1 x2)
      | (go_at_call 189
         refine(BJ (G _) gabs rfl _ [.agg #[.bool kz.neg,.slice A2 kz.abs.length ca2]] (RpL.cons (HRK.out.below hb9) (RpL.nil _))).mono ?_;rintro e wa ⟨ua,rfl,hba,hua⟩;obtain⟨usa,rfl,hul⟩:=Rp.agg_inv hua)
      | (go_at_call 190
         refine(BJ (G _) gtext rfl _ [.agg usa.toArray] (RpL.cons (Rp.agg hul) (RpL.nil _))).mono ?_;rintro e wt ⟨ut,rfl,hbt,hut⟩;obtain rfl:=Rp.str_inv hut;have hx:Below w8.heap.size w8 wt:=Ce (Ce hb9 hba) hbt;have hz:Ate 180 5 w1.heap.size w1.heap.size (As0 (GC [] items)) wt:=DU HBD8.out hx;have hs:w1.heap.size<=wt.heap.size:=Asr HZ8.out hx.size;have HX:=π hx;have HZ:=π hz;have HS:=π hs;clear hx hz hs hb9 hba hbt x1 x2)
      | (go_at_call 191
         refine(FR w1.heap.size w1.heap.size (GC [] items) tx (decide (s<0)) wt HZ.out HLEN.out HS.out).mono ?_;rintro e wz ⟨rfl,hdz,hbz,hkz⟩))
     all_goals
      have HDZ:=π hdz;have hx2:Below w.heap.size w8 wt:=HX.out.mono (Asr HB1.out.size HZ8.out);have hx3:Below w.heap.size wt wz:=hbz.mono HB1.out.size;have hx4:Below w.heap.size w wz:=HB8.out.trans (hx2.trans hx3);have HBZ:=π hx4;have HZZ:=π (Asr HS.out hbz.size);clear hdz hbz hkz hx2 hx3 hx4
      go_wp2_with (go_at_call 192;refine(Tryz.Builder_String_any w1.heap.size _ (G7 (GC [] items) (decide (s<0)) tx) _ (.inr HDZ.out) HZZ.out).mono ?_)
      first|rintro e wq rfl hbq|rintro e wq ⟨rfl,hbq⟩
      have HBQ:=π (HBZ.out.trans (hbq.mono HB1.out.size));clear hbq
      go_wp2
      go_ret
      exact⟨rfl,HBQ.out⟩
def GV:List (List AV)->Option (List Nat)
 |[]=>Θ []
 |[.v (.int .u32 (.ofNat n))]::r=>(match GV r with
  |some l=>Θ (n::l)
  |none=>Ξ)
 |_::_=>Ξ
theorem FJ:∀{xs:List (List AV)} {l:List Nat},GV xs=Θ l->xs=l.map eL
 |[],l,h=>by injection h with h;subst h;rfl
 |x::r,l,h=>by
  unfold GV at h;split at h
  .rename_i e;cases e
  .rename_i n r' e
   cases hr:GV r' with
   |none=>rw[hr]at h;cases h
   |some l'=>
    rw[hr]at h;injection h with h
    injection e with e1 e2
    subst h e1 e2;rw[FJ hr];rfl
  .cases h
def ziO:List AV->Option Zi
 |[.v (.bool n),.ls xs]=>(match GV xs with
  |some l=>Θ ⟨n,l⟩
  |none=>Ξ)
 |_=>Ξ
theorem Aeu{xs:List AV}{z:Zi}(h:ziO xs=Θ z):xs=eZ z:=by
 unfold ziO at h;split at h
 .rename_i n ys
  cases hr:GV ys with
  |none=>rw[hr]at h;cases h
  |some l=>
   rw[hr]at h;injection h with h
   subst h;rw[FJ hr];rfl
 .cases h
def ptO:List AV->Option Pt
 |[.v (.int .i64 v),.v (.bool n),.ls xs]=>(match GV xs with
  |some l=>Θ ⟨v,⟨n,l⟩⟩
  |none=>Ξ)
 |_=>Ξ
theorem Ada{xs:List AV}{p:Pt}(h:ptO xs=Θ p):xs=eP p:=by
 unfold ptO at h;split at h
 .rename_i v n ys
  cases hr:GV ys with
  |none=>rw[hr]at h;cases h
  |some l=>
   rw[hr]at h;injection h with h
   subst h;rw[FJ hr];rfl
 .cases h
def Ahr:List (List AV)->Option (List Pt)
 |[]=>Θ []
 |x::r=>(match ptO x,Ahr r with
  |some p,Θ l=>Θ (p::l)
  |_,_=>Ξ)
theorem QP:∀{xs:List (List AV)} {l:List Pt},Ahr xs=Θ l->xs=l.map eP
 |[],l,h=>by injection h with h;subst h;rfl
 |x::r,l,h=>by
  unfold Ahr at h;split at h
  .rename_i p l' h1 h2
   injection h with h
   subst h;rw[Ar7,←Ada h1,←QP h2]
  .cases h
def tmO:List AV->Option Tm
 |[.ls ps,.v (.bool n),.ls xs]=>(match Ahr ps,GV xs with
  |some ps,Θ l=>Θ ⟨ps,⟨n,l⟩⟩
  |_,_=>Ξ)
 |_=>Ξ
theorem Aea{xs:List AV}{t:Tm}(h:tmO xs=Θ t):xs=eT t:=by
 unfold tmO at h;split at h
 .split at h
  .rename_i ps l h1 h2
   injection h with h
   subst h;rw[QP h1,FJ h2];rfl
  .cases h
 .cases h
def AaV:Option (AV × List BO)->Option Zi
 |some (.agg cs,[])=>ziO cs
 |_=>Ξ
theorem IA{o:Option (AV × List BO)}{z:Zi}(h:AaV o=Θ z):o=Θ (.agg (eZ z),[]):=by
 unfold AaV at h;split at h
 .rw[Aeu h]
 .cases h
def Vl:Option (AV × List BO)->Option Int
 |some (.v (.int .i64 n),[])=>Θ n
 |_=>Ξ
theorem Df{o:Option (AV × List BO)}{n:Int}(h:Vl o=Θ n):o=Θ (iv n,[]):=by
 unfold Vl at h;split at h
 .injection h with h;rw[h];rfl
 .cases h
def AaT:Option (AV × List BO)->Option (List UInt8)
 |some (.v (.string s),[])=>Θ s.data.toList
 |_=>Ξ
theorem Iz{o:Option (AV × List BO)}{l:List UInt8}(h:AaT o=Θ l):o=Θ (sv (C7 l),[]):=by
 unfold AaT at h;split at h
 .injection h with h;subst h;rfl
 .cases h
section
variable (dq:Nat->DF)
def Ac7(names:AV)(one:Zi)(p:Pt):Option (Bool × List UInt8):=match AaT (dq 188 [iv p.v,names] []),AaV (dq 189 [.agg (eZ p.z)] []),Vl (dq 64 [.agg (eZ p.z)] []) with
 |some nm,Θ many,Θ s=>(match Vl (dq 155 [.agg (eZ many),.agg (eZ one)] []) with
  |some c=>(match decide (c=0) with
   |true=>Θ (decide (s<0),nm)
   |false=>(match AaT (dq 190 [.agg (eZ many)] []) with
    |some tx=>Θ (decide (s<0),tx++42::nm)
    |none=>Ξ))
  |none=>Ξ)
 |_,_,_=>Ξ
theorem Ww{names:AV}{one:Zi}{p:Pt}{it:Bool × List UInt8}(h:Ac7 dq names one p=Θ it):Nonempty (PartH dq names one p it):=by
 unfold Ac7 at h;split at h
 .rename_i nm many s h1 h2 h3
  split at h
  .rename_i c h4
   split at h
   .rename_i hc
    injection h with h
    subst h;exact⟨⟨nm,many,c,s,Iz h1,IA h2,Df h4,Df h3,rfl,.inl ⟨of_decide_eq_true hc,rfl⟩⟩⟩
   .rename_i hc
    split at h
    .rename_i tx h5
     injection h with h
     subst h;exact⟨⟨nm,many,c,s,Iz h1,IA h2,Df h4,Df h3,rfl,.inr ⟨of_decide_eq_false hc,tx,Iz h5,rfl⟩⟩⟩
    .cases h
  .cases h
 .cases h
def RZ(names:AV)(one:Zi):List Pt->Option (List (Bool × List UInt8))
 |[]=>Θ []
 |p::r=>(match Ac7 dq names one p,RZ names one r with
  |some i,Θ l=>Θ (i::l)
  |_,_=>Ξ)
theorem Mq{names:AV}{one:Zi}:∀{ps:List Pt} {items:List (Bool × List UInt8)},RZ dq names one ps=Θ items->items.length=ps.length/\∀ i (h:i<ps.length) (h':i<items.length),Nonempty (PartH dq names one ps[i] items[i])
 |[],items,h=>by
  injection h with h
  subst h;exact⟨rfl,λi h=>absurd h (AvJ _)⟩
 |p::r,items,h=>by
  unfold RZ at h;split at h
  .rename_i it l h1 h2
   injection h with h
   subst h;obtain⟨hl,hp⟩:=Mq h2;refine⟨by rw[ε,ε,hl],λi hi hi'=>?_⟩
   cases i with
   |zero=>exact Ww dq h1
   |succ i=>exact hp i (by simpa using hi) (by simpa using hi')
  .cases h
def kiO(ps:List Pt)(kz:Zi)(l:List UInt8):Option (List UInt8):=match Vl (dq 64 [.agg (eZ kz)] []) with
 |some s=>(match decide (s=0)&&!ps.isEmpty with
  |true=>Θ l
  |false=>(match AaV (dq 189 [.agg (eZ kz)] []) with
   |some many=>(match AaT (dq 190 [.agg (eZ many)] []) with
    |some tx=>(match Nat.ble (l.length+3+tx.length) 140737488355328 with
     |true=>Θ (G7 l (decide (s<0)) tx)
     |false=>Ξ)
    |none=>Ξ)
   |none=>Ξ))
 |none=>Ξ
theorem Acm{ps:List Pt}{kz:Zi}{l fin:List UInt8}(h:kiO dq ps kz l=Θ fin):Nonempty (KiH dq ps kz l fin):=by
 unfold kiO at h;split at h
 .rename_i s h1
  split at h
  .rename_i hc
   injection h with h
   subst h;simp only[ArX,decide_eq_true_eq,Bool.not_eq_true',List.isEmpty_eq_false_iff]at hc;exact⟨⟨s,Df h1,.inl ⟨hc.1,hc.2,rfl⟩⟩⟩
  .rename_i hc
   split at h
   .rename_i many h2
    split at h
    .rename_i tx h3
     split at h
     .rename_i hl
      injection h with h
      subst h;refine⟨⟨s,Df h1,.inr ⟨?_,many,tx,IA h2,Iz h3,rfl,Aty hl⟩⟩⟩;rcases Bool.and_eq_false_iff.1 hc with hc|hc
      .exact .inl (of_decide_eq_false hc)
      .exact .inr (by simpa using hc)
     .cases h
    .cases h
   .cases h
 .cases h
def SY:List (Bool × List UInt8)->Nat
 |[]=>0
 |it::r=>it.2.length+3+SY r
theorem AdV(l:List UInt8)(neg:Bool)(tx:List UInt8):(G7 l neg tx).length<=l.length+3+tx.length:=by
 unfold G7 Z8;rw[η,η];have:(if l=[] then(if neg then [45] else []) else if neg then [32,45,32] else [32,43,32]:List UInt8).length<=3:=by
  repeat' split
  all_goals decide
 omega
theorem U5:∀(items:List (Bool × List UInt8)) (l:List UInt8),(GC l items).length<=l.length+SY items
 |[],l=>by unfold GC SY;exact κ _
 |it::r,l=>by
  have h1:=U5 r (G7 l it.1 it.2);have h2:=AdV l it.1 it.2;have h3:GC l (it::r)=GC (G7 l it.1 it.2) r:=rfl;rw[h3];unfold SY;omega
theorem Q5:∀(items:List (Bool × List UInt8)) (i:Nat) (h:i<items.length),SY (items.take i)+3+items[i].2.length<=SY items
 |[],i,h=>absurd h (AvJ _)
 |it::r,0,h=>by simp only[List.take_zero,SY,List.getElem_cons_zero];omega
 |it::r,i+1,h=>by
  have:=Q5 r i (by simpa using h);simp only[List.take_succ_cons,SY,List.getElem_cons_succ];omega
def Np:List AV->Option AV
 |[.agg [t0,t1,t2],names]=>(match AQ [t0,t1,t2,names]with
  |true=>(match dq 62 [.agg [t0,t1,t2]] []with
   |some (.agg cs,[])=>(match tmO cs,AaV (dq 126 [iv 1] []) with
    |some t,Θ one=>(match RZ dq names one t.ps with
     |some items=>(match Nat.ble (SY items) 140737488355328 with
      |true=>(match kiO dq t.ps t.k (GC [] items) with
       |some fin=>Θ (sv (C7 fin))
       |none=>Ξ)
      |false=>Ξ)
     |none=>Ξ)
    |_,_=>Ξ)
   |_=>Ξ)
  |false=>Ξ)
 |_=>Ξ
theorem Aai(G:∀ f,Bu (BD ArP f) (dq f)):Bu (BD ArP 130) (Jr (Np dq)):=by
 refine AbU (CO _ _) _ λargs r hr μ F w us hus=>?_
 unfold Np at hr;split at hr
 .rename_i t0 t1 t2 names
  split at hr
  .rename_i hn
   split at hr
   .rename_i cs hP
    split at hr
    .rename_i t one h1 h2
     split at hr
     .rename_i items h3
      split at hr
      .rename_i h4
       split at hr
       .rename_i fin h5
        injection hr with hr
        subst hr;simp only[AQ,ArX]at hn;obtain⟨n0,n1,n2,n3,_⟩:=hn;obtain⟨hl,hi⟩:=Mq dq h3;simp only[RepList]at hus;obtain⟨u,ul,rfl,hu,u2,ul2,rfl,hu2,rfl⟩:=hus;simp only[Rep]at hu;obtain⟨us3,rfl,hu⟩:=hu;obtain⟨us3⟩:=us3;simp only[RepList]at hu;obtain⟨v0,l0,e0,r0,v1,l1,e1,r1,v2,l2,e2,r2,e3⟩:=hu;subst e3 e2 e1;have e0:us3=[v0,v1,v2]:=e0;subst e0;rw[Aea h1]at hP;refine Calls.mono (SU dq G t0 t1 t2 names t.ps t.k one items hl hP (IA h2) (λi h=>Classical.choice (hi i h (by omega))) (λi h=>?_) fin (Classical.choice (Acm dq h5)) w v0 v1 v2 u2 (Rep.plain _ _ n0 r0) (Rep.plain _ _ n1 r1) (Rep.plain _ _ n2 r2) (Rep.plain _ _ n3 hu2)) ?_
        .have q1:=Q5 items i (by omega)
         have q2:=U5 (items.take i) [];have q3:=Aty h4;simp only[As3,Nat.zero_add]at q2;omega
        .rintro e w' ⟨rfl,hb⟩
         refine⟨_,rfl,hb,?_⟩;unfold sv C7;simp only[Rep];exact⟨trivial,rfl⟩
       .cases hr
      .cases hr
     .cases hr
    .cases hr
   .cases hr
  .cases hr
 .cases hr
end
def rlO:List AV->Option RlA
 |[.ls ps,.v (.bool kn),.ls ka,.v (.bool eq)]=>Θ ⟨ps,kn,ka,eq⟩
 |_=>Ξ
theorem Pe{x:List AV}{r:RlA}(h:rlO x=Θ r):x=r.c:=by
 unfold rlO at h;split at h
 .injection h with h;subst h;rfl
 .cases h
def Sx:List (List AV)->Option (List RlA)
 |[]=>Θ []
 |x::r=>(match rlO x,Sx r with
  |some p,Θ l=>Θ (p::l)
  |_,_=>Ξ)
theorem LO:∀{xs:List (List AV)} {l:List RlA},Sx xs=Θ l->xs=l.map RlA.c
 |[],l,h=>by injection h with h;subst h;rfl
 |x::r,l,h=>by
  unfold Sx at h;split at h
  .rename_i p l' h1 h2
   injection h with h
   subst h;rw[Ar7,←Pe h1,←LO h2]
  .cases h
section
variable (dq:Nat->DF)
def AeG:Option (AV × List BO)->Option Bool
 |some (.v (.bool b),[])=>Θ b
 |_=>Ξ
theorem YJ{o:Option (AV × List BO)}{b:Bool}(h:AeG o=Θ b):o=Θ (bv b,[]):=by
 unfold AeG at h;split at h
 .injection h with h;rw[h];rfl
 .cases h
def QT(p z:List AV):Bool:=(AeG (dq 213 [.agg (z.take 3),.agg p] [])).getD Φ
def Aab(p:List AV)(ls:List (List AV)):Bool:=ls.all λz=>(AeG (dq 213 [.agg (z.take 3),.agg p] [])).isSome
theorem WL{p:List AV}{ls:List (List AV)}(h:Aab dq p ls=Δ):∀ z∈ls,dq 213 [.agg (z.take 3),.agg p] []=Θ (bv (QT dq p z),[]):=λz hz=>by
 have:=List.all_eq_true.1 h z hz;obtain⟨b,hb⟩:=Option.isSome_iff_exists.1 this;unfold QT;rw[hb];exact YJ hb
def Qy:Option (AV × List BO)->Option (List AV)
 |some (.tup [],[.set ⟨y,Δ,Φ⟩])=>(match y.all Hj&&Nat.beq y.length 9 with
  |true=>Θ y
  |false=>Ξ)
 |_=>Ξ
theorem Jx{o:Option (AV × List BO)}{y:List AV}(h:Qy o=Θ y):o=Θ (.tup [],[.set ⟨y,Δ,Φ⟩])/\y.all Hj=Δ/\y.length=9:=by
 unfold Qy at h;split at h
 .split at h
  .rename_i hc
   injection h with h
   subst h;rw[ArX]at hc;exact⟨rfl,hc.1,Asl hc.2⟩
  .cases h
 .cases h
def Uw(ls:List (List AV))(r:RlA):Option (List (List AV)):=match dq 125 [.agg [bv r.kn,.ls r.ka]] []with
 |some (.agg [.ls k0,.v (.bool k1),.ls k2],[])=>(match dq 127 [.agg [.ls r.ps,bv r.kn,.ls r.ka],.agg [.ls k0,bv k1,.ls k2]] []with
  |some (.agg [.ls ([c0,.v (.bool c1),.ls c2]::row),.v (.bool d1),.ls d2],[])=>(match Vl (dq 64 [.agg [bv c1,.ls c2]] []) with
   |some s=>(match decide (0<s) with
    |true=>(match Aab dq [.ls ([c0,bv c1,.ls c2]::row),bv d1,.ls d2] ls,dq 161 [.agg [bv r.kn,.ls r.ka]] [],(Eg (QT dq [.ls ([c0,bv c1,.ls c2]::row),bv d1,.ls d2]) ls ([.ls ([c0,bv c1,.ls c2]::row),bv d1,.ls d2]++Eh))[ls.findIdx (QT dq [.ls ([c0,bv c1,.ls c2]::row),bv d1,.ls d2])]? with
     |true,Θ (.agg [.v (.bool n0),.ls n1],[]),Θ x=>(match Qy (dq 160 [.ptr 0 0,.agg [bv n0,.ls n1]] [⟨x,Δ,Φ⟩]) with
      |some y=>(match r.eq with
       |false=>Θ ((Eg (QT dq [.ls ([c0,bv c1,.ls c2]::row),bv d1,.ls d2]) ls ([.ls ([c0,bv c1,.ls c2]::row),bv d1,.ls d2]++Eh)).set (ls.findIdx (QT dq [.ls ([c0,bv c1,.ls c2]::row),bv d1,.ls d2])) y)
       |true=>(match Qy (dq 162 [.ptr 0 0,.agg [bv n0,.ls n1]] [⟨y,Δ,Φ⟩]) with
        |some z=>Θ (((Eg (QT dq [.ls ([c0,bv c1,.ls c2]::row),bv d1,.ls d2]) ls ([.ls ([c0,bv c1,.ls c2]::row),bv d1,.ls d2]++Eh)).set (ls.findIdx (QT dq [.ls ([c0,bv c1,.ls c2]::row),bv d1,.ls d2])) y).set (ls.findIdx (QT dq [.ls ([c0,bv c1,.ls c2]::row),bv d1,.ls d2])) z)
        |none=>Ξ))
      |none=>Ξ)
     |_,_,_=>Ξ)
    |false=>(match dq 68 [.agg [.ls ([c0,bv c1,.ls c2]::row),bv d1,.ls d2]] []with
     |some (.agg [.ls q0,.v (.bool q1),.ls q2],[])=>(match Aab dq [.ls q0,bv q1,.ls q2] ls,(Eg (QT dq [.ls q0,bv q1,.ls q2]) ls ([.ls q0,bv q1,.ls q2]++Eh))[ls.findIdx (QT dq [.ls q0,bv q1,.ls q2])]? with
      |true,Θ x=>(match Qy (dq 162 [.ptr 0 0,.agg [bv r.kn,.ls r.ka]] [⟨x,Δ,Φ⟩]) with
       |some y=>Θ ((Eg (QT dq [.ls q0,bv q1,.ls q2]) ls ([.ls q0,bv q1,.ls q2]++Eh)).set (ls.findIdx (QT dq [.ls q0,bv q1,.ls q2])) y)
       |none=>Ξ)
      |_,_=>Ξ)
     |_=>Ξ))
   |none=>Ξ)
  |_=>Ξ)
 |_=>Ξ
theorem Wo{ls:List (List AV)}{r:RlA}{ls':List (List AV)}(h:Uw dq ls r=Θ ls'):Nonempty (NoteH dq ls r.ps r.kn r.ka r.eq ls'):=by
 unfold Uw at h;split at h
 .rename_i k0 k1 k2 h1
  split at h
  .rename_i c0 c1 c2 row d1 d2 h2
   split at h
   .rename_i s h3
    split at h
    .rename_i hs
     split at h
     .rename_i n0 n1 x h4 h5 h6
      split at h
      .rename_i y h7
       obtain⟨g1,g2,g3⟩:=Jx h7;split at h
       .rename_i he
        injection h with h
        subst h;exact⟨⟨k0,k1,k2,c0,c1,c2,row,d1,d2,s,h1,h2,Df h3,.inl ⟨of_decide_eq_true hs,_,n0,n1,x,y,WL dq h4,h5,h6,g1,g2,g3,.inl ⟨he,rfl⟩⟩⟩⟩
       .rename_i he
        split at h
        .rename_i z h8
         obtain⟨g4,g5,g6⟩:=Jx h8;injection h with h
         subst h;exact⟨⟨k0,k1,k2,c0,c1,c2,row,d1,d2,s,h1,h2,Df h3,.inl ⟨of_decide_eq_true hs,_,n0,n1,x,y,WL dq h4,h5,h6,g1,g2,g3,.inr ⟨he,z,g4,g5,g6,rfl⟩⟩⟩⟩
        .cases h
      .cases h
     .cases h
    .rename_i hs
     split at h
     .rename_i q0 q1 q2 h4
      split at h
      .rename_i x h5 h6
       split at h
       .rename_i y h7
        obtain⟨g1,g2,g3⟩:=Jx h7;injection h with h
        subst h;exact⟨⟨k0,k1,k2,c0,c1,c2,row,d1,d2,s,h1,h2,Df h3,.inr ⟨of_decide_eq_false hs,_,q0,q1,q2,x,y,h4,WL dq h5,h6,g1,g2,g3,rfl⟩⟩⟩
       .cases h
      .cases h
     .cases h
   .cases h
  .cases h
 .cases h
def AeI:Option (AV × List BO)->Option (RlA × Int)
 |some (.tup [.agg cs,.v (.int .i64 k)],[])=>(match rlO cs with
  |some r=>Θ (r,k)
  |none=>Ξ)
 |_=>Ξ
theorem YL{o:Option (AV × List BO)}{r:RlA}{k:Int}(h:AeI o=Θ (r,k)):o=Θ (.tup [.agg r.c,iv k],[]):=by
 unfold AeI at h;split at h
 .split at h
  .rename_i hr
   injection h with h
   injection h with h1 h2
   subst h1 h2;rw[Pe hr];rfl
  .cases h
 .cases h
def Pg:List RlA->List (List AV)->Option (Option (List (List AV)))
 |[],ls=>Θ (Θ ls)
 |r::rs,ls=>(match AeI (dq 17 [.agg r.c] []) with
  |some (r',k)=>(match decide (k=-1),decide (k=0) with
   |true,_=>Θ Ξ
   |false,Δ=>(match Uw dq ls r' with
    |some ls'=>Pg rs ls'
    |none=>Ξ)
   |false,Φ=>Pg rs ls)
  |none=>Ξ)
theorem Fo:∀{rs:List RlA} {ls:List (List AV)} {o:Option (List (List AV))},Pg dq rs ls=Θ o->Run1 dq rs ls o
 |[],ls,o,h=>by
  injection h with h
  subst h;exact .nil ls
 |r::rs,ls,o,h=>by
  unfold Pg at h;split at h
  .rename_i r' k ht
   have ht:=YL ht;split at h
   .rename_i hk
    have:=of_decide_eq_true hk;subst this;injection h with h
    subst h;exact .never r r' rs ls ht
   .rename_i hk h0
    have:=of_decide_eq_true h0;subst this;split at h
    .rename_i ls' hn
     exact .note r r' rs ls ls' o ht (Wo dq hn) (Fo h)
    .cases h
   .rename_i hk h0
    exact .skip r r' rs ls k o ht (of_decide_eq_false hk) (of_decide_eq_false h0) (Fo h)
  .cases h
def YK:Option (AV × List BO)->Option (List RlA × Bool × List AV)
 |some (.tup [.ls more,.v (.bool ok)],[.set ⟨y,Δ,Φ⟩])=>(match Sx more,y.all Hj&&Nat.beq y.length 9 with
  |some ms,Δ=>Θ (ms,ok,y)
  |_,_=>Ξ)
 |_=>Ξ
theorem La{o:Option (AV × List BO)}{ms:List RlA}{ok:Bool}{y:List AV}(h:YK o=Θ (ms,ok,y)):o=Θ (.tup [.ls (ms.map RlA.c),bv ok],[.set ⟨y,Δ,Φ⟩])/\y.all Hj=Δ/\y.length=9:=by
 unfold YK at h;split at h
 .split at h
  .rename_i hr hc
   injection h with h
   injection h with h1 h
   injection h with h2 h3
   subst h1 h2 h3;rw[ArX]at hc;rw[LO hr];exact⟨rfl,hc.1,Asl hc.2⟩
  .cases h
 .cases h
def Ph:List (List AV)->List RlA->Option (Option (List RlA))
 |[],out=>Θ (Θ out)
 |x::xs,out=>(match YK (dq 89 [.ptr 0 0] [⟨x,Δ,Φ⟩]) with
  |some (_,Φ,_)=>Θ Ξ
  |some ([m0],Δ,_)=>Ph xs (out++[m0])
  |some ([m0,m1],Δ,_)=>Ph xs (out++[m0,m1])
  |_=>Ξ)
theorem G0:∀{xs:List (List AV)} {out:List RlA} {o:Option (List RlA)},Ph dq xs out=Θ o->Run2 dq xs out o
 |[],out,o,h=>by
  injection h with h
  subst h;exact .nil out
 |x::xs,out,o,h=>by
  unfold Ph at h;split at h
  .rename_i ms y ht
   obtain⟨g1,g2,g3⟩:=La ht;injection h with h
   subst h;exact .never x y xs out _ g1 g2 g3
  .rename_i m0 y ht
   obtain⟨g1,g2,g3⟩:=La ht;exact .go x y xs out m0 [] o g1 g2 g3 (by simp) (G0 h)
  .rename_i m0 m1 y ht
   obtain⟨g1,g2,g3⟩:=La ht;exact .go x y xs out m0 [m1] o g1 g2 g3 (by simp) (G0 h)
  .cases h
