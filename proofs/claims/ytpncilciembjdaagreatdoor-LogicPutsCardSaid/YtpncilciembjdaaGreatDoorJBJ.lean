/- strings.Builder's method -/
import Derived.Test.YtpncilciembjdaaGreatDoorJBI
import Derived.Shelf.Strings.Builder1
import Derived.Deep.RegionWith
import Derived.Test.YtpncilciembjdaaGreatDoorJBH
set_option linter.all false
open Array renaming getElem?_eq_none->Aut
open Bool renaming false->Ξ,true->U,and_eq_true->Atk
open List renaming getElem?_cons_succ->Atv,getElem?_cons_zero->Aty,getElem?_eq_getElem->δ,getElem?_map->AtG,getElem?_toArray->AtF,length_append->γ,length_cons->Ate,length_map->Atm,length_nil->Auj,length_pos_iff->AvR,map_cons->Atu,setIfInBounds_toArray->Aui,set_cons_succ->AuG,set_cons_zero->AuH,size_toArray->Auw
open Nat renaming eq_of_beq_eq_true->Atz,le_of_ble_eq_true->At7,le_of_lt->AuK,le_refl->η,le_trans->AtA,lt_or_ge->AtR,not_lt_zero->Awc,zero_le->AtI
open Option renaming none->Θ,some->Δ,map_eq_some_iff->AtZ
namespace Go.Proofs.YtpncilciembjdaaGreatDoor
open Lib renaming BuilderAt->AvO,IsBuilder->Auh,byteCells->At5,byteCells_append->AuA,byteCells_length->Auq,cell_of_heap->Avg,hid->κ,strCells->Awh
open Tryz renaming prog->ζ
open Go.RowKit
theorem Xd:(Tryz.prog.info? 5).map (λi=>(i.zero,i.size,i.bytes))=Δ (Δ (.int .u8 0),1,1):=by kernel_rfl
theorem RI:(Tryz.prog.info? 180).map (·.size)=Δ 2:=by kernel_rfl
theorem Zv:liesAt ζ Tryz.prog.depth 180 (2 / Tryz.prog.cellsOf 180) 0 180 1=U:=by kernel_rfl
set_option maxHeartbeats 1000000 in
set_option maxRecDepth 100000 in
theorem Nd(b:Nat)(w:World)(h0:w.cell? ⟨b,0,Θ⟩=Δ (.pointer (Δ ⟨b,0,Θ⟩))) :
  Calls ζ 250 #[.pointer (Δ ⟨b,0,Θ⟩)] w λe w'=>e=.returned (.tuple #[])/\w'=w:=by
 obtain⟨j,hj,_⟩:=AtZ.1 RI
 go_enter Tryz.func250,Tryz.ntmps250
 go_wp2
 rw[Lib.run_neq_ptr_same w _ Tryz.underlying177 hj]
 go_wp2
 go_end0
 exact⟨rfl,rfl⟩
set_option maxHeartbeats 1000000 in
set_option maxRecDepth 100000 in
theorem Mk(b:Nat)(w:World)(h0:w.cell? ⟨b,0,Θ⟩=Δ (.pointer Θ))(hsh:w.shape? b=Δ (180,2))(hfz:w.frozen? ⟨b,0,Θ⟩=Ξ) :
  Calls ζ 250 #[.pointer (Δ ⟨b,0,Θ⟩)] w λe w'=>e=.returned (.tuple #[])/\w'=w.setCell ⟨b,0,Θ⟩ (.pointer (Δ ⟨b,0,Θ⟩)):=by
 obtain⟨j,hj,hjs⟩:=AtZ.1 RI
 go_enter Tryz.func250,Tryz.ntmps250
 go_wp2
 rw[Lib.run_to_unsafe w ⟨b,0,Θ⟩ Tryz.underlying177 Tryz.underlying248 hj (by rw[hjs];decide) hsh (Nat.zero_lt_succ 1)];simp only[Result.andThen];rw[Oper.upon_value]
 go_wp2
 rw[run_callFunc_extern Tryz.func269 (by kernel_rfl) (by kernel_rfl) (by kernel_rfl) (e:=Extern.AbiNoEscape.same) (by kernel_rfl)];rw[Lib.run_noEscape];simp only[Result.andThen];rw[Oper.upon_value]
 go_wp2
 rw[Lib.run_from_unsafe w ⟨b,0,Θ⟩ Tryz.underlying248 Tryz.underlying177 hj hsh Zv];simp only[Result.andThen];rw[Oper.upon_value]
 go_wp2
 go_end0
 exact⟨rfl,rfl⟩
theorem OR(B b:Nat)(bs:AA)(w:World)(h:Auh 180 5 B b bs w) :
  Calls ζ 250 #[.pointer (Δ ⟨b,0,Θ⟩)] w λe w'=>e=.returned (.tuple #[])/\(AvO 180 5 B b (.pointer (Δ ⟨b,0,Θ⟩)) bs w'/\Below B w w'/\∀ k,k≠b->w'.heap[k]? = w.heap[k]?):=by
 rcases h with h|h
 .refine(Mk b w h.cell0 h.shape h.frozen0).mono ?_
  rintro e w' ⟨rfl,rfl⟩;exact⟨rfl,h.used _,(Below.refl B w).setCell (p:=⟨b,0,Θ⟩) h.1 _,λk hk=>Below.heap_setCell _ _ _ _ hk⟩
 .refine(Nd b w h.cell0).mono ?_
  rintro e w' ⟨rfl,rfl⟩;exact⟨rfl,h,Below.refl B _,λ_ _=>rfl⟩
set_option maxHeartbeats 2000000 in
set_option maxRecDepth 100000 in
theorem Cj(B b:Nat)(bs:AA)(s:ByteArray)(w:World)(h:Auh 180 5 B b bs w)(hlen:bs.length+s.size<=140737488355328)(hBw:B<=w.heap.size) :
  Calls ζ 225 #[.pointer (Δ ⟨b,0,Θ⟩),.string s] w λe w'=>e=.returned (.tuple #[.int .i64 s.size,.nilIface])/\(AvO 180 5 B b (.pointer (Δ ⟨b,0,Θ⟩)) (bs++Awh s) w'/\Below B w w'/\∀ k cs T fr,w.heap[k]? = Δ (.cells cs T fr)->k≠b->T≠5->w'.heap[k]? = Δ (.cells cs T fr)):=by
 obtain⟨i0,hi,hz0,hz1,hz2⟩:=info_parts Xd
 go_enter Tryz.func225,Tryz.ntmps225
 go_wp2_with (go_at_call 250;refine(OR B b bs _ h).mono ?_)
 rintro e w1 ⟨rfl,h1,hb1,hk1⟩;obtain⟨hB,v,hbk,hown,hne⟩:=h1;have c0:w1.cell? ⟨b,0,Θ⟩=Δ (.pointer (Δ ⟨b,0,Θ⟩)):=by rw[Avg hbk];rfl
 have c1:w1.cell? ⟨b,1,Θ⟩=Δ v:=by rw[Avg hbk];rfl
 go_wp2_with (at_builtin;refine Lib.wpList_append_own_string _ rfl _ _ 178 9 rfl B 5 i0 Tryz.underlying178 Tryz.underlying9 hi hz0 hz1 hz2 _ _ _ rfl hown s rfl ?c3 ?c4 ?c5 ?_)
 case c3=>unfold maxLen;omega
 case c4=>omega
 case c5=>have:=hb1.size;omega
 intro v' w2 hown' hgrow _;have hlt:b<w1.heap.size:=by
  rcases AtR b w1.heap.size with h' | h'
  .exact h'
  .simp[Aut h']at hbk
 have hb2:w2.heap[b]? = Δ (.cells #[.pointer (Δ ⟨b,0,Θ⟩),v] 180 (0,0)):=by
  rw[hgrow.block b hlt (λe=>hne e.symm)];exact hbk
 have d0:w2.cell? ⟨b,0,Θ⟩=Δ (.pointer (Δ ⟨b,0,Θ⟩)):=by rw[Avg hb2];rfl
 have d1:w2.cell? ⟨b,1,Θ⟩=Δ v:=by rw[Avg hb2];rfl
 have f1:w2.frozen? ⟨b,1,Θ⟩=Ξ:=Lib.frozen_of_heap hb2 1;obtain⟨ao,n',cap,rfl⟩:∃ ao n' cap,v'=.slice ao n' cap:=by
  rcases hown'.2 with⟨hv,_⟩|⟨g,cap,cur,hv,_⟩
  .exact⟨_,_,_,hv⟩
  .exact⟨_,_,_,hv⟩
 go_wp2
 go_ret2
 refine⟨rfl,?_,?_,?_⟩
 .exact Lib.BuilderAt.put (T:=180) (e:=5) hB hb2 (bs':=bs++Awh s) (by simpa[Lib.strCells_length]using hown') (by decide)
 .exact(hb1.grown hgrow (by have:=hb1.size;omega) (λk hk=>(hown.lt k hk).1)).setCell (p:=⟨b,1,Θ⟩) hB _
 .intro k cs T fr hk hkb hT
  have h1:=(hk1 k hkb).trans hk;have hlk:k<w1.heap.size:=by
   rcases AtR k w1.heap.size with h' | h'
   .exact h'
   .simp[Aut h']at h1
  have h2:=(hgrow.block k hlk λe=>Lib.ownBlock_ne hown h1 hT e.symm).trans h1;exact(Below.heap_setCell _ _ _ _ hkb).trans h2
def YH(l:List UInt8)(neg:Bool):List UInt8:=if l=[] then(if neg then [45] else []) else if neg then [32,45,32] else [32,43,32]
def GG(l:List UInt8)(neg:Bool)(tx:List UInt8):List UInt8:=l++YH l neg++tx
set_option maxHeartbeats 2000000 in
set_option maxRecDepth 100000 in
theorem Fq(B b:Nat)(l tx:List UInt8)(neg:Bool)(w:World)(h:Auh 180 5 B b (At5 l) w)(hlen:l.length+3+tx.length<=140737488355328)(hBw:B<=w.heap.size) :
  Calls ζ 191 #[.pointer (Δ ⟨b,0,Θ⟩),.bool neg,.string ⟨tx.toArray⟩] w λe w'=>e=.returned (.tuple #[])/\(AvO 180 5 B b (.pointer (Δ ⟨b,0,Θ⟩)) (At5 (GG l neg tx)) w'/\Below B w w'/\∀ k cs T fr,w.heap[k]? = Δ (.cells cs T fr)->k≠b->T≠5->w'.heap[k]? = Δ (.cells cs T fr)):=by
 have HH:=κ h;have HLEN:=κ hlen;have HBW:=κ hBw;clear h hlen hBw
 go_enter Tryz.func191,Tryz.ntmps191
 have hg:=Tryz.Builder_Len B b _ _ HH.out;obtain⟨c,hc⟩:∃ c,c=(At5 l).length:=⟨_,rfl⟩;rw[←hc]at hg;have HG:=κ hg;clear hg;rw[Auq]at hc
 by_cases hl:l=[]
 .have y0:(c:Int)=0:=by rw[hc,hl];rfl
  cases neg with
  |true=>
   have hs:GG l U tx=l++[45]++tx:=by unfold GG YH;rw[Ac hl,Ac rfl]
   go_wp2_with (go_at_call 233;refine HG.out.mono ?_)
   rintro e w1 ⟨rfl,rfl⟩
   go_wp2_with (go_at_call 225;refine(Cj B b (At5 l) _ _ HH.out ?h1 HBW.out).mono ?_)
   case h1=>
    rw[Auq];have h5:=HLEN.out;simp only[ByteArray.size,Auw,γ,Ate,Auj]at h5 ⊢;omega
   first|rintro e w2 rfl hd2 hb2 hk2|rintro e w2 ⟨rfl,hd2,hb2,hk2⟩
   have HD2:=κ (show Auh 180 5 B b (At5 (l++[45])) w2 from .inr (by rw[AuA];exact hd2));have HB2:=κ hb2;have HK2:=κ hk2;have HY2:=κ (AtA HBW.out hb2.size);clear hd2 hb2 hk2
   go_wp2_with (go_at_call 225;refine(Cj B b (At5 (l++[45])) _ _ HD2.out ?h1 HY2.out).mono ?_)
   case h1=>
    rw[Auq];have h5:=HLEN.out;simp only[ByteArray.size,Auw,γ,Ate,Auj]at h5 ⊢;omega
   first|rintro e w3 rfl hd3 hb3 hk3|rintro e w3 ⟨rfl,hd3,hb3,hk3⟩
   go_wp2
   go_end0
   refine⟨rfl,?_,HB2.out.trans hb3,λk cs T fr h1 h2 h3=>hk3 k cs T fr (HK2.out k cs T fr h1 h2 h3) h2 h3⟩;rw[hs,AuA];exact hd3
  |false=>
   have hs:GG l Ξ tx=l++tx:=by unfold GG YH;rw[Ac hl,Ad (by decide),List.append_nil]
   go_wp2_with (go_at_call 233;refine HG.out.mono ?_)
   rintro e w1 ⟨rfl,rfl⟩
   go_wp2_with (go_at_call 225;refine(Cj B b (At5 l) _ _ HH.out ?h1 HBW.out).mono ?_)
   case h1=>
    rw[Auq];have h5:=HLEN.out;simp only[ByteArray.size,Auw,γ,Ate,Auj]at h5 ⊢;omega
   first|rintro e w3 rfl hd3 hb3 hk3|rintro e w3 ⟨rfl,hd3,hb3,hk3⟩
   go_wp2
   go_end0
   refine⟨rfl,?_,hb3,hk3⟩;rw[hs,AuA];exact hd3
 .have y0:¬ (c:Int)=0:=by
   have:=AvR.2 hl;omega
  have y1:((c:Int) == 0)=Ξ:=by simpa using y0
  clear hc
  cases neg with
  |true=>
   have hs:GG l U tx=l++[32,45,32]++tx:=by unfold GG YH;rw[Ad hl,Ac rfl]
   go_wp2_with (go_at_call 233;refine HG.out.mono ?_)
   rintro e w1 ⟨rfl,rfl⟩
   go_wp2_with (go_at_call 225;refine(Cj B b (At5 l) _ _ HH.out ?h1 HBW.out).mono ?_)
   case h1=>
    rw[Auq];have h5:=HLEN.out;simp only[ByteArray.size,Auw,γ,Ate,Auj]at h5 ⊢;omega
   first|rintro e w2 rfl hd2 hb2 hk2|rintro e w2 ⟨rfl,hd2,hb2,hk2⟩
   have HD2:=κ (show Auh 180 5 B b (At5 (l++[32,45,32])) w2 from .inr (by rw[AuA];exact hd2));have HB2:=κ hb2;have HK2:=κ hk2;have HY2:=κ (AtA HBW.out hb2.size);clear hd2 hb2 hk2
   go_wp2_with (go_at_call 225;refine(Cj B b (At5 (l++[32,45,32])) _ _ HD2.out ?h1 HY2.out).mono ?_)
   case h1=>
    rw[Auq];have h5:=HLEN.out;simp only[ByteArray.size,Auw,γ,Ate,Auj]at h5 ⊢;omega
   first|rintro e w3 rfl hd3 hb3 hk3|rintro e w3 ⟨rfl,hd3,hb3,hk3⟩
   go_wp2
   go_end0
   refine⟨rfl,?_,HB2.out.trans hb3,λk cs T fr h1 h2 h3=>hk3 k cs T fr (HK2.out k cs T fr h1 h2 h3) h2 h3⟩;rw[hs,AuA];exact hd3
  |false=>
   have hs:GG l Ξ tx=l++[32,43,32]++tx:=by unfold GG YH;rw[Ad hl,Ad (by decide)]
   go_wp2_with (go_at_call 233;refine HG.out.mono ?_)
   rintro e w1 ⟨rfl,rfl⟩
   go_wp2_with (go_at_call 225;refine(Cj B b (At5 l) _ _ HH.out ?h1 HBW.out).mono ?_)
   case h1=>
    rw[Auq];have h5:=HLEN.out;simp only[ByteArray.size,Auw,γ,Ate,Auj]at h5 ⊢;omega
   first|rintro e w2 rfl hd2 hb2 hk2|rintro e w2 ⟨rfl,hd2,hb2,hk2⟩
   have HD2:=κ (show Auh 180 5 B b (At5 (l++[32,43,32])) w2 from .inr (by rw[AuA];exact hd2));have HB2:=κ hb2;have HK2:=κ hk2;have HY2:=κ (AtA HBW.out hb2.size);clear hd2 hb2 hk2
   go_wp2_with (go_at_call 225;refine(Cj B b (At5 (l++[32,43,32])) _ _ HD2.out ?h1 HY2.out).mono ?_)
   case h1=>
    rw[Auq];have h5:=HLEN.out;simp only[ByteArray.size,Auw,γ,Ate,Auj]at h5 ⊢;omega
   first|rintro e w3 rfl hd3 hb3 hk3|rintro e w3 ⟨rfl,hd3,hb3,hk3⟩
   go_wp2
   go_end0
   refine⟨rfl,?_,HB2.out.trans hb3,λk cs T fr h1 h2 h3=>hk3 k cs T fr (HK2.out k cs T fr h1 h2 h3) h2 h3⟩;rw[hs,AuA];exact hd3
structure PartH (dq:Nat->DF) (names:AV) (one:Zi) (p:Pt) (it:Bool × List UInt8) where
 nm:List UInt8
 many:Zi
 c:Int
 s:Int
 name:dq 188 [iv p.v,names] []=Δ (sv (CP nm),[])
 abs:dq 189 [.agg (eZ p.z)] []=Δ (.agg (eZ many),[])
 cmp:dq 155 [.agg (eZ many),.agg (eZ one)] []=Δ (iv c,[])
 sign:dq 64 [.agg (eZ p.z)] []=Δ (iv s,[])
 neg:it.1=decide (s<0)
 text:c=0/\it.2=nm\/c≠0/\∃ tx,dq 190 [.agg (eZ many)] []=Δ (sv (CP tx),[])/\it.2=tx++42::nm
def F6(l:List UInt8)(items:List (Bool × List UInt8)):List UInt8:=items.foldl (λl it=>GG l it.1 it.2) l
theorem X4{μ:Mu}{F:AP}{B:Nat}{w:World}{A:Option Addr}{n c:Nat}{ps:List Pt}(h:Rep μ F w (.ls (ps.map eP)) (.slice A n c))(hF:∀ g o,F g o->g<B)(h0:0<ps.length) :
  ∃ b o,A=Δ ⟨b,o,Θ⟩/\b<B/\∀ i (hi:i<ps.length),w.cell? ⟨b,o+i*3,Θ⟩=Δ (.int .i64 ps[i].v)/\w.cell? ⟨b,o+i*3+1,Θ⟩=Δ (.bool ps[i].z.neg)/\∃ A' c',w.cell? ⟨b,o+i*3+2,Θ⟩=Δ (.slice A' ps[i].z.abs.length c')/\Rep μ F w (eN ps[i].z.abs) (.slice A' ps[i].z.abs.length c'):=by
 simp only[Rep]at h;obtain⟨_,A2,c2,h1,h2,h3,h4⟩:=h;injection h1 with e1 e2 e3
 subst e1;obtain⟨g,o,e,hA,hr⟩:=h4 (by
  intro hh;rw[List.map_eq_nil_iff]at hh;rw[hh]at h0;exact Nat.lt_irrefl _ h0)
 have he:e=3:=by
  have:=hr.get (i:=0) (x:=eP ps[0]) (by rw[AtG,δ h0];rfl);have:=this.1;unfold eP at this;simpa using this.symm
 subst he;have cell:∀ i (hi:i<ps.length),w.cell? ⟨g,o+i*3,Θ⟩=Δ (.int .i64 ps[i].v)/\w.cell? ⟨g,o+i*3+1,Θ⟩=Δ (.bool ps[i].z.neg)/\∃ A' c',w.cell? ⟨g,o+i*3+2,Θ⟩=Δ (.slice A' ps[i].z.abs.length c')/\Rep μ F w (eN ps[i].z.abs) (.slice A' ps[i].z.abs.length c'):=λi hi=>by
  have ha:=(hr.get (i:=i) (x:=eP ps[i]) (by rw[AtG,δ hi];rfl)).2;unfold eP at ha;obtain⟨_,u0,c0,r0⟩:=ha.get (i:=0) (x:=iv ps[i].v) rfl;obtain⟨_,u1,c1,r1⟩:=ha.get (i:=1) (x:=bv ps[i].z.neg) rfl;obtain⟨_,u2,c2,r2⟩:=ha.get (i:=2) (x:=eN ps[i].z.abs) rfl;obtain rfl:=Rp.int_inv (Rep.plain _ _ rfl r0);obtain rfl:=Rp.bool_inv (Rep.plain _ _ rfl r1);obtain⟨A',c',rfl⟩:=Rp.ls_inv (Rep.plain _ _ rfl r2);rw[Atm]at c2 r2;exact⟨c0,c1,A',c',c2,r2⟩
 have ha:=(hr.get (i:=0) (x:=eP ps[0]) (by rw[AtG,δ h0];rfl)).2;unfold eP at ha;obtain⟨hf,_⟩:=ha.get (i:=0) (x:=iv ps[0].v) rfl;exact⟨g,o,hA,hF _ _ hf,cell⟩
structure KiH (dq:Nat->DF) (ps:List Pt) (kz:Zi) (l fin:List UInt8) where
 s:Int
 sign:dq 64 [.agg (eZ kz)] []=Δ (iv s,[])
 text:s=0/\ps≠[]/\fin=l\/(s≠0\/ps=[])/\∃ many tx,dq 189 [.agg (eZ kz)] []=Δ (.agg (eZ many),[])/\dq 190 [.agg (eZ many)] []=Δ (sv (CP tx),[])/\fin=GG l (decide (s<0)) tx/\l.length+3+tx.length<=140737488355328
theorem YT(items:List (Bool × List UInt8))(k:Nat)(h:k<items.length):F6 [] (items.take (k+1))=GG (F6 [] (items.take k)) items[k].1 items[k].2:=by
 unfold F6;rw[List.take_succ_eq_append_getElem h,List.foldl_append];rfl
theorem O6(a:List UInt8):(CP a).size=a.length:=by simp[CP,ByteArray.size]
theorem RL(a b:List UInt8):CP a++CP b=CP (a++b):=by
 unfold CP;apply ByteArray.ext;simp[ByteArray.data_append]
theorem DN{w w':World}{T e:TypeId}{B b:Nat}{bs:AA}(h:Auh T e B b bs w)(hb:Below w.heap.size w w'):Auh T e B b bs w':=by
 rcases h with h|h
 .obtain⟨hB,v,h1,h2,h3⟩:=h
  have hl:=Lib.BuilderAt.lt ⟨hB,v,h1,h2,h3⟩;exact .inl ⟨hB,v,(hb.block b hl).trans h1,S2 h2 hb,h3⟩
 .obtain⟨hB,v,h1,h2,h3⟩:=h
  have hl:=Lib.BuilderAt.lt ⟨hB,v,h1,h2,h3⟩;exact .inr ⟨hB,v,(hb.block b hl).trans h1,S2 h2 hb,h3⟩
set_option maxHeartbeats 4000000 in
set_option maxRecDepth 100000 in
theorem Rr(dq:Nat->DF)(G:∀ f,A1 (Bi ζ f) (dq f))(t0 t1 t2:AV)(names:AV)(ps:List Pt)(kz one:Zi)(items:List (Bool × List UInt8))(l0':items.length=ps.length)
  (hP:dq 62 [.agg [t0,t1,t2]] []=Δ (.agg (eT ⟨ps,kz⟩),[])) (hO:dq 126 [iv 1] []=Δ (.agg (eZ one),[]))
  (hI:∀ i (h:i<ps.length),PartH dq names one ps[i] items[i]) (hL:∀ i (h:i<ps.length),(F6 [] (items.take i)).length+3+items[i].2.length<=140737488355328) (fin:List UInt8) (hK:KiH dq ps kz (F6 [] items) fin) (w:World) (v0 v1 v2 nv:Value) (r0:Rp w t0 v0) (r1:Rp w t1 v1) (r2:Rp w t2 v2) (rn:Rp w names nv) :
  Calls ζ 130 #[.agg #[v0,v1,v2],nv] w λe w'=>e=.returned (.string ⟨fin.toArray⟩)/\Below w.heap.size w w':=by
 have HR:=κ (RpL.cons r0 (RpL.cons r1 (RpL.cons r2 (RpL.nil w))));have HN:=κ rn;clear r0 r1 r2 rn
 go_enter Tryz.func130,Tryz.ntmps130
 go_wp2_with (go_at_call 62;refine(Ns (G _) hP w 28 #[v0,v1,v2] [.agg #[v0,v1,v2]] (RpL.cons (Rp.agg HR.out) (RpL.nil _))).mono ?_)
 rintro e w1 ⟨u,μ',F',c',rfl,hb1,hbk,hsz,hu,hF1,hF2⟩;have hu0:Rp w1 (.agg (eT ⟨ps,kz⟩)) u:=Rep.plain _ _ rfl hu;obtain⟨us,rfl,hus⟩:=Rp.agg_inv hu0;obtain⟨vp,us,rfl,rp,hus⟩:=RpL.cons_inv hus;obtain⟨vk,us,rfl,rk,hus⟩:=RpL.cons_inv hus;obtain⟨va,us,rfl,ra,hus⟩:=RpL.cons_inv hus;obtain rfl:=RpL.nil_inv hus;obtain rfl:=Rp.bool_inv rk;obtain⟨A,ca,rfl⟩:=Rp.ls_inv rp;obtain⟨A2,ca2,rfl⟩:=Rp.ls_inv ra;clear rp ra rk hu0 hus;obtain⟨d0,d1,d2,rfl⟩:∃ d0 d1 d2,c'=#[d0,d1,d2]:=by
  obtain⟨l⟩:=c'
  match l,hsz with
  |[a,b,c],_=>exact⟨a,b,c,rfl⟩
 have HBX:=κ (show Blk w1 w.heap.size 28 #[d0,d1,d2] from hbk);have HU:=κ hu;have HF2:=κ hF2;have HB1:=κ hb1;have HF1:=κ hF1;clear hu hF1 hF2 hsz hbk hb1;have c0:w1.cell? ⟨w.heap.size,0,Θ⟩=Δ d0:=HBX.out.cell 0;have c1:w1.cell? ⟨w.heap.size,1,Θ⟩=Δ d1:=HBX.out.cell 1;have c2:w1.cell? ⟨w.heap.size,2,Θ⟩=Δ d2:=HBX.out.cell 2;have f0:w1.frozen? ⟨w.heap.size,0,Θ⟩=Ξ:=HBX.out.frozen 0;have f1:w1.frozen? ⟨w.heap.size,1,Θ⟩=Ξ:=HBX.out.frozen 1;have f2:w1.frozen? ⟨w.heap.size,2,Θ⟩=Ξ:=HBX.out.frozen 2;have hb2:=(((HBX.out.set_ 0 (.slice A ps.length ca)).set_ 1 (.bool kz.neg)).set_ 2 (.slice A2 kz.abs.length ca2)).alloc (.cells #[.pointer Θ,.slice Θ 0 0] 180);have y0:=hb2.cell 0;have HB2:=κ hb2;clear hb2;simp only[Aui,AuH,AuG,AtF,Aty]at y0;have hu2:=AbW HU.out HBX.out HF1.out HF2.out (.slice A ps.length ca) (.bool kz.neg) (.slice A2 kz.abs.length ca2) (.cells #[.pointer Θ,.slice Θ 0 0] 180);obtain⟨rp,_,ra⟩:=AbV hu2;clear hu2;simp only[Atm]at rp ra;have hml:ps.length<=9223372036854775807:=by
  have h:=rp;simp only[Rep]at h;obtain⟨_,A3,c3,h1,h2,h3,_⟩:=h;rw[Atm]at h2;unfold maxLen at h3;omega
 have RP:=κ rp;have RA:=κ ra;clear rp ra;have hsz2:(((w1.setCell ⟨w.heap.size,0,Θ⟩ (.slice A ps.length ca)).setCell ⟨w.heap.size,1,Θ⟩ (.bool kz.neg)).setCell ⟨w.heap.size,2,Θ⟩ (.slice A2 kz.abs.length ca2)).heap.size=w1.heap.size:=by simp
 have hbld:Auh 180 5 w1.heap.size w1.heap.size (At5 (F6 [] (items.take 0))) ((((w1.setCell ⟨w.heap.size,0,Θ⟩ (.slice A ps.length ca)).setCell ⟨w.heap.size,1,Θ⟩ (.bool kz.neg)).setCell ⟨w.heap.size,2,Θ⟩ (.slice A2 kz.abs.length ca2)).alloc (.cells #[.pointer Θ,.slice Θ 0 0] 180)):=by
  refine .inl ⟨η _,.slice Θ 0 0,?_,World.ownsRow_nil _ _ _ _,by simp[Value.ownBlock]⟩;have:=heap_alloc_new (((w1.setCell ⟨w.heap.size,0,Θ⟩ (.slice A ps.length ca)).setCell ⟨w.heap.size,1,Θ⟩ (.bool kz.neg)).setCell ⟨w.heap.size,2,Θ⟩ (.slice A2 kz.abs.length ca2)) (.cells #[.pointer Θ,.slice Θ 0 0] 180);rw[hsz2]at this;exact this
 have hbw:Below w.heap.size w ((((w1.setCell ⟨w.heap.size,0,Θ⟩ (.slice A ps.length ca)).setCell ⟨w.heap.size,1,Θ⟩ (.bool kz.neg)).setCell ⟨w.heap.size,2,Θ⟩ (.slice A2 kz.abs.length ca2)).alloc (.cells #[.pointer Θ,.slice Θ 0 0] 180)):=
  ((((HB1.out.setCell (p:=⟨w.heap.size,0,Θ⟩) (η _) _).setCell (p:=⟨w.heap.size,1,Θ⟩) (η _) _).setCell (p:=⟨w.heap.size,2,Θ⟩) (η _) _).alloc (by rw[hsz2];exact HB1.out.size) _)
 have HBL:=κ hbld;have HBW:=κ hbw;clear hsz2 hbld hbw
 go_wp2_with fail
 revert y0;have RP:=RP.out;have RA:=RA.out;have HB2:=HB2.out;have HBL:=HBL.out;have HBW:=HBW.out;generalize hW2:((((w1.setCell ⟨w.heap.size,0,Θ⟩ (.slice A ps.length ca)).setCell ⟨w.heap.size,1,Θ⟩ (.bool kz.neg)).setCell ⟨w.heap.size,2,Θ⟩ (.slice A2 kz.abs.length ca2)).alloc (.cells #[.pointer Θ,.slice Θ 0 0] 180))=W2 at *;intro y0
 go_loopw [15] (λq wr=>∃ k:Nat,k<=ps.length/\q=.int .i64 k/\Auh 180 5 w1.heap.size w1.heap.size (At5 (F6 [] (items.take k))) wr/\Below w1.heap.size W2 wr) (λq _=>ps.length-(intOf q).toNat)
 case atStart=>exact⟨0,AtI _,rfl,HBL,Below.refl _ _⟩
 case round=>
  obtain⟨k,hk,rfl,hbld,hb⟩:=hrel;have HBLD:=κ hbld;have HB:=κ hb;have RP:=κ RP;have RA:=κ RA;have HB2:=κ HB2;have HBL:=κ HBL;have HBW:=κ HBW;have HW2:=κ hW2;clear hbld hb c0 c1 c2 f0 f1 f2 y0 hW2
  by_cases hlt:k<ps.length
  .obtain⟨b,o,rfl,hbl,hc⟩:=X4 RP.out HF1.out (Nat.lt_of_le_of_lt (AtI _) hlt)
   obtain⟨d0',d1',A',cc',d2',rz⟩:=hc k hlt;have e0:=(HB.out.cell (p:=⟨b,o+k*3,Θ⟩) hbl).trans d0';have e1:=(HB.out.cell (p:=⟨b,o+k*3+1,Θ⟩) hbl).trans d1';have e2:=(HB.out.cell (p:=⟨b,o+k*3+2,Θ⟩) hbl).trans d2';have l0:b<wr.heap.size:=Aea e0;have z0:(0:Int)<=(k:Int):=by omega
   have z1:(k:Int)<(ps.length:Int):=by omega
   have hih:=hI k hlt;have hlen:=hL k hlt;have htk:=YT items k (l0'▸hlt);have hrn:Rp wr names nv:=HN.out.below (HBW.out.trans (HB.out.mono HB1.out.size));have hrz:Rp wr (eN ps[k].z.abs) (.slice A' ps[k].z.abs.length cc'):=Rep.plain _ _ rfl (Rep.later (μ':=μ') ⟨λ_ _ h=>h,λg o hg=>⟨hg,HB.out.cell (p:=⟨g,o,Θ⟩) (HF1.out g o hg)⟩⟩ _ _ rz);have HRN:=κ hrn;clear hc d0' d1' d2' rz hrn;revert hih hlen htk e0 e1 e2 hrz;generalize ps[k]=p;generalize items[k]'(l0'▸hlt)=it;obtain⟨pv_,pn_,pa_⟩:=p;obtain⟨itn,itx⟩:=it;intro e0 e1 e2 hih hlen htk hrz;have HRZ:=κ hrz;have HLEN:=κ hlen;have HTK:=κ htk;clear hrz hlen htk;simp only at e0 e1 e2;obtain⟨nm,many,cm,sg,gname,gabs,gcmp,gsign,hneg,htext⟩:=hih;have HNEG:=κ hneg;have HTEXT:=κ htext;clear hneg htext
   go_wp2_with (go_at_call 188;refine(BL (G _) gname rfl _ [.int .i64 pv_,nv] (RpL.cons (Rp.int _ _) (RpL.cons (HRN.out.below (Be _ _)) (RpL.nil _)))).mono ?_)
   first|rintro e w3 u3 rfl hb3 hu3|rintro e w3 ⟨u3,rfl,hb3,hu3⟩
   obtain rfl:=Rp.str_inv hu3
   replace hb3:Below (wr.alloc (.cells #[.int .i64 pv_,.bool pn_,.slice A' pa_.length cc'] 84)).heap.size (wr.alloc (.cells #[.int .i64 pv_,.bool pn_,.slice A' pa_.length cc'] 84)) w3:=by rw[World.size_alloc];exact hb3
   have HBX3:=κ ((Blk.new wr 84 #[.int .i64 pv_,.bool pn_,.slice A' pa_.length cc']).call hb3);have HB3:=κ (Cg (Be wr _) hb3);clear hb3 hu3 e0 e1 e2;have x1:=HBX3.out.cell 1;have x2:=HBX3.out.cell 2
   go_wp2_with (go_at_call 189;refine(BL (G _) gabs rfl _ [.agg #[.bool pn_,.slice A' pa_.length cc']] (RpL.cons (Rp.agg (RpL.cons (Rp.bool _ _) (RpL.cons (HRZ.out.below HB3.out) (RpL.nil _)))) (RpL.nil _))).mono ?_)
   first|rintro e w4 u4 rfl hb4 hu4|rintro e w4 ⟨u4,rfl,hb4,hu4⟩
   obtain⟨us,rfl,hus⟩:=Rp.agg_inv hu4;obtain⟨vm0,us,rfl,rm0,hus⟩:=RpL.cons_inv hus;obtain⟨vm1,us,rfl,rm1,hus⟩:=RpL.cons_inv hus;obtain rfl:=RpL.nil_inv hus;obtain rfl:=Rp.bool_inv rm0;obtain⟨Am,cm',rfl⟩:=Rp.ls_inv rm1;simp only[Atm]at rm1;have HBX5:=κ ((HBX3.out.call hb4).alloc (.cells #[.bool many.neg,.slice Am many.abs.length cm'] 26));have HM5:=κ (Blk.new w4 26 #[.bool many.neg,.slice Am many.abs.length cm']);have HB5:=κ (Cg (Cg HB3.out hb4) (Be w4 (.cells #[.bool many.neg,.slice Am many.abs.length cm'] 26)));have HRM:=κ (Rp.agg (RpL.cons (rm0.below (Be w4 (.cells #[.bool many.neg,.slice Am many.abs.length cm'] 26))) (RpL.cons (rm1.below (Be w4 (.cells #[.bool many.neg,.slice Am many.abs.length cm'] 26))) (RpL.nil _))));clear hb4 hu4 x1 x2 rm0 rm1 hus
   go_wp2_with fail
   generalize w4.alloc (.cells #[.bool many.neg,.slice Am many.abs.length cm'] 26)=w5 at *;have x1:=HM5.out.cell 0;have x2:=HM5.out.cell 1;have x3:=HM5.out.lt;simp only[AtF,Aty,Atv]at x1 x2
   go_region_with (first
    | (go_at_call 126
       refine(BL (G _) hO rfl _ [.int .i64 1] (RpL.cons (Rp.int _ _) (RpL.nil _))).mono ?_;rintro e w6 ⟨u6,rfl,hb6,hu6⟩
       replace hb6:=Gd hb6
       obtain⟨us,rfl,hus⟩:=Rp.agg_inv hu6;have x1:=(HM5.out.call hb6).cell 0;have x2:=(HM5.out.call hb6).cell 1;have x3:=(HM5.out.call hb6).lt;simp only[AtF,Aty,Atv]at x1 x2)
    | (go_at_call 155
       refine(BL (G _) gcmp rfl _ [.agg #[.bool many.neg,.slice Am many.abs.length cm'],.agg us.toArray] (RpL.cons (HRM.out.below hb6) (RpL.cons (Rp.agg hus) (RpL.nil _)))).mono ?_;rintro e w7 ⟨u7,rfl,hb7,hu7⟩;obtain rfl:=Rp.int_inv hu7))
   all_goals
    have HB7:=κ (Cg (Cg HB5.out hb6) hb7);have HM7:=κ ((HM5.out.call hb6).call hb7);have HBX7:=κ ((HBX5.out.call hb6).call hb7);have HRM7:=κ ((HRM.out.below hb6).below hb7);have HRZ7:=κ (HRZ.out.below HB7.out);have HBD7:=κ (DN HBLD.out HB7.out);have HLW:=κ (HBLD.out.elim Lib.BuilderAt.lt Lib.BuilderAt.lt);clear hb6 hb7 hu6 hu7 hus x1 x2 x3;have x1:=HM7.out.cell 0;have x2:=HM7.out.cell 1;have x3:=HBX7.out.cell 1;have x4:=HBX7.out.cell 2;simp only[AtF,Aty,Atv]at x1 x2 x3 x4;rcases HTEXT.out with⟨hc,hit⟩|⟨hc,tx,gtext,hit⟩
    .have hcb:(cm != 0)=Ξ:=by simp[hc]
     subst hit
     go_wp2_with (go_at_call 64;refine(BL (G _) gsign rfl _ [.agg #[.bool pn_,.slice A' pa_.length cc']] (RpL.cons (Rp.agg (RpL.cons (Rp.bool _ _) (RpL.cons HRZ7.out (RpL.nil _)))) (RpL.nil _))).mono ?_)
     first|rintro e w8 u8 rfl hb8 hu8|rintro e w8 ⟨u8,rfl,hb8,hu8⟩
     obtain rfl:=Rp.int_inv hu8;have HB8:=κ (Cg HB7.out hb8);have HBD8:=κ (DN HBD7.out hb8);clear hb8 hu8 x3 x4
     go_wp2_with (go_at_call 191;refine(Fq w1.heap.size w1.heap.size (F6 [] (items.take k)) (itx) (decide (sg<0)) _ HBD8.out HLEN.out (AtA (AuK HLW.out) HB8.out.size)).mono ?_)
     first|rintro e w9 rfl hd9 hb9 hk9|rintro e w9 ⟨rfl,hd9,hb9,hk9⟩
     have HD9:=κ hd9;have HB9:=κ (HB.out.trans ((HB8.out.mono (AuK HLW.out)).trans hb9));clear hd9 hb9 hk9
     go_wp2_with fail
     go_roundw
     case rel=>exact⟨k+1,hlt,by go_num,.inr (by have h:=HTK.out;(try simp only at h);rw[h,HNEG.out];exact HD9.out),HB9.out⟩
     case measure=>simp[intOf];omega
    .have hcb:(cm != 0)=U:=by simp[hc]
     subst hit;have hs:=HLEN.out;simp only[γ,Ate]at hs;have s1:(CP tx).size<=140737488355328:=by rw[O6];omega
     have s2:(CP nm).size<=140737488355328:=by rw[O6];omega
     have hcat:CP tx++⟨#[42]⟩++CP nm=CP (tx++42::nm):=by show CP tx++CP [42]++CP nm=_;rw[RL,RL,List.append_assoc];rfl
     have HCAT:=κ hcat;clear hs hcat
     go_wp2_with (go_at_call 190;refine(BL (G _) gtext rfl _ [.agg #[.bool many.neg,.slice Am many.abs.length cm']] (RpL.cons HRM7.out (RpL.nil _))).mono ?_)
     first|rintro e wt ut rfl hbt hut|rintro e wt ⟨ut,rfl,hbt,hut⟩
     obtain rfl:=Rp.str_inv hut
     replace HB7:=κ (Cg HB7.out hbt)
     replace HBX7:=κ (HBX7.out.call hbt)
     replace HRZ7:=κ (HRZ7.out.below hbt)
     replace HBD7:=κ (DN HBD7.out hbt)
     clear hbt hut x1 x2 x3 x4;have x3:=HBX7.out.cell 1;have x4:=HBX7.out.cell 2;simp only[AtF,Aty,Atv]at x3 x4
     go_wp2_with fail
     simp only[HCAT.out]
     go_wp2_with (go_at_call 64;refine(BL (G _) gsign rfl _ [.agg #[.bool pn_,.slice A' pa_.length cc']] (RpL.cons (Rp.agg (RpL.cons (Rp.bool _ _) (RpL.cons HRZ7.out (RpL.nil _)))) (RpL.nil _))).mono ?_)
     first|rintro e w8 u8 rfl hb8 hu8|rintro e w8 ⟨u8,rfl,hb8,hu8⟩
     obtain rfl:=Rp.int_inv hu8;have HB8:=κ (Cg HB7.out hb8);have HBD8:=κ (DN HBD7.out hb8);clear hb8 hu8 x3 x4
     go_wp2_with (go_at_call 191;refine(Fq w1.heap.size w1.heap.size (F6 [] (items.take k)) (tx++42::nm) (decide (sg<0)) _ HBD8.out HLEN.out (AtA (AuK HLW.out) HB8.out.size)).mono ?_)
     first|rintro e w9 rfl hd9 hb9 hk9|rintro e w9 ⟨rfl,hd9,hb9,hk9⟩
     have HD9:=κ hd9;have HB9:=κ (HB.out.trans ((HB8.out.mono (AuK HLW.out)).trans hb9));clear hd9 hb9 hk9
     go_wp2_with fail
     go_roundw
     case rel=>exact⟨k+1,hlt,by go_num,.inr (by have h:=HTK.out;(try simp only at h);rw[h,HNEG.out];exact HD9.out),HB9.out⟩
     case measure=>simp[intOf];omega
  .obtain rfl:k=ps.length:=by omega
   have z1:¬ (ps.length:Int)<(ps.length:Int):=by omega
   have HBX:=κ (HB2.out.below HB.out (HBX.out.lt));have hra:Rp wr (eN kz.abs) (.slice A2 kz.abs.length ca2):=Rep.plain _ _ rfl (Rep.later (μ':=μ') ⟨λ_ _ h=>h,λg o hg=>⟨hg,HB.out.cell (p:=⟨g,o,Θ⟩) (HF1.out g o hg)⟩⟩ _ _ RA.out);have HRK:=κ (Rp.agg (RpL.cons (Rp.bool wr kz.neg) (RpL.cons hra (RpL.nil _))));have HBD:=HBLD.out;rw[←l0',List.take_length]at HBD;have HBD:=κ HBD;have HLW:=κ (HBLD.out.elim Lib.BuilderAt.lt Lib.BuilderAt.lt);have HBW:=κ (HBW.out.trans (HB.out.mono HB1.out.size));clear hra HBLD RP RA HB2 HB;have x0:=HBX.out.cell 0;have x1:=HBX.out.cell 1;have x2:=HBX.out.cell 2;simp only[Aui,AuH,AuG,AtF,Aty,Atv]at x0 x1 x2;obtain⟨s,gsign,htext⟩:=hK;rcases htext with⟨hs0,hp0,hfin⟩|⟨hp,many,tx,gabs,gtext,hfin,hlen⟩
   .subst hs0
    have z2:((ps.length:Int) == 0)=Ξ:=by
     have:=AvR.2 hp0;simp;omega
    go_wp2_with (go_at_call 64;refine(BL (G _) gsign rfl _ [.agg #[.bool kz.neg,.slice A2 kz.abs.length ca2]] (RpL.cons HRK.out (RpL.nil _))).mono ?_)
    first|rintro e w8 u8 rfl hb8 hu8|rintro e w8 ⟨u8,rfl,hb8,hu8⟩
    obtain rfl:=Rp.int_inv hu8;have HBD8:=κ (DN HBD.out hb8);have HB8:=κ (HBW.out.trans (hb8.mono (AtA HB1.out.size (AuK HLW.out))));have HZ8:=κ (AtA (AuK HLW.out) hb8.size)
    replace HBX:=κ (HBX.out.call hb8)
    clear hb8 hu8 x0 x1 x2;have x0:=HBX.out.cell 0;simp only[Aui,AuH,AuG,AtF,Aty,Atv]at x0
    go_wp2_with (go_at_call 192;refine(Tryz.Builder_String_any w1.heap.size _ _ _ HBD8.out HZ8.out).mono ?_)
    first|rintro e w9 rfl hb9|rintro e w9 ⟨rfl,hb9⟩
    have HB9:=κ (HB8.out.trans (hb9.mono HB1.out.size));clear hb9
    go_wp2
    go_ret
    subst hfin;exact⟨rfl,HB9.out⟩
   .subst hfin
    have HLEN:=κ hlen;clear hlen
    by_cases hs:s=0
    .obtain rfl:ps=[]:=by rcases hp with h|h;exact absurd hs h;exact h
     subst hs;have z2:((([]:List Pt).length:Int) == 0)=U:=rfl
     go_wp2_with (go_at_call 64;refine(BL (G _) gsign rfl _ [.agg #[.bool kz.neg,.slice A2 kz.abs.length ca2]] (RpL.cons HRK.out (RpL.nil _))).mono ?_)
     first|rintro e w8 u8 rfl hb8 hu8|rintro e w8 ⟨u8,rfl,hb8,hu8⟩
     obtain rfl:=Rp.int_inv hu8;have HBD8:=κ (DN HBD.out hb8);have HB8:=κ (HBW.out.trans (hb8.mono (AtA HB1.out.size (AuK HLW.out))));have HZ8:=κ (AtA (AuK HLW.out) hb8.size)
     replace HBX:=κ (HBX.out.call hb8)
     replace HRK:=κ (HRK.out.below hb8)
     clear hb8 hu8 x0 x1 x2;have x0:=HBX.out.cell 0;have x1:=HBX.out.cell 1;have x2:=HBX.out.cell 2;simp only[Aui,AuH,AuG,AtF,Aty,Atv]at x0 x1 x2
     go_wp2_with fail
     go_region_with (first
      | (go_at_call 64
         refine(BL (G _) gsign rfl _ [.agg #[.bool kz.neg,.slice A2 kz.abs.length ca2]] (RpL.cons (HRK.out.below (Below.refl _ _).drew) (RpL.nil _))).mono ?_;rintro e w9 ⟨u9,rfl,hb9,hu9⟩
         replace hb9:=Gd hb9
         obtain rfl:=Rp.int_inv hu9;have x1:=(HBX.out.call hb9).cell 1;have x2:=(HBX.out.call hb9).cell 2;have x3:=(HBX.out.call hb9).lt;simp only[Aui,AuH,AuG,AtF,Aty,Atv]at x1 x2)
      | (go_at_call 189
         refine(BL (G _) gabs rfl _ [.agg #[.bool kz.neg,.slice A2 kz.abs.length ca2]] (RpL.cons (HRK.out.below hb9) (RpL.nil _))).mono ?_;rintro e wa ⟨ua,rfl,hba,hua⟩;obtain⟨usa,rfl,hul⟩:=Rp.agg_inv hua)
      | (go_at_call 190
         refine(BL (G _) gtext rfl _ [.agg usa.toArray] (RpL.cons (Rp.agg hul) (RpL.nil _))).mono ?_;rintro e wt ⟨ut,rfl,hbt,hut⟩;obtain rfl:=Rp.str_inv hut;have hx:Below w8.heap.size w8 wt:=Cg (Cg hb9 hba) hbt;have hz:Auh 180 5 w1.heap.size w1.heap.size (At5 (F6 [] items)) wt:=DN HBD8.out hx;have hs:w1.heap.size<=wt.heap.size:=AtA HZ8.out hx.size;have HX:=κ hx;have HZ:=κ hz;have HS:=κ hs;clear hx hz hs hb9 hba hbt x1 x2)
      | (go_at_call 191
         refine(Fq w1.heap.size w1.heap.size (F6 [] items) tx Ξ wt HZ.out HLEN.out HS.out).mono ?_;rintro e wz ⟨rfl,hdz,hbz,hkz⟩))
     all_goals
      have HDZ:=κ hdz;have hx2:Below w.heap.size w8 wt:=HX.out.mono (AtA HB1.out.size HZ8.out);have hx3:Below w.heap.size wt wz:=hbz.mono HB1.out.size;have hx4:Below w.heap.size w wz:=HB8.out.trans (hx2.trans hx3);have HBZ:=κ hx4;have HZZ:=κ (AtA HS.out hbz.size);clear hdz hbz hkz hx2 hx3 hx4
      go_wp2_with (go_at_call 192;refine(Tryz.Builder_String_any w1.heap.size _ (GG (F6 [] items) Ξ tx) _ (.inr HDZ.out) HZZ.out).mono ?_)
      first|rintro e wq rfl hbq|rintro e wq ⟨rfl,hbq⟩
      have HBQ:=κ (HBZ.out.trans (hbq.mono HB1.out.size));clear hbq
      go_wp2
      go_ret
      exact⟨rfl,HBQ.out⟩
    .have z2:(s != 0)=U:=by simp[hs]
     go_wp2_with (go_at_call 64;refine(BL (G _) gsign rfl _ [.agg #[.bool kz.neg,.slice A2 kz.abs.length ca2]] (RpL.cons HRK.out (RpL.nil _))).mono ?_)
     first|rintro e w8 u8 rfl hb8 hu8|rintro e w8 ⟨u8,rfl,hb8,hu8⟩
     obtain rfl:=Rp.int_inv hu8;have HBD8:=κ (DN HBD.out hb8);have HB8:=κ (HBW.out.trans (hb8.mono (AtA HB1.out.size (AuK HLW.out))));have HZ8:=κ (AtA (AuK HLW.out) hb8.size)
     replace HBX:=κ (HBX.out.call hb8)
     replace HRK:=κ (HRK.out.below hb8)
     clear hb8 hu8 x0 x1 x2;have x0:=HBX.out.cell 0;have x1:=HBX.out.cell 1;have x2:=HBX.out.cell 2;simp only[Aui,AuH,AuG,AtF,Aty,Atv]at x0 x1 x2
     go_wp2_with fail
     go_region_with (first
      | (go_at_call 64
         refine(BL (G _) gsign rfl _ [.agg #[.bool kz.neg,.slice A2 kz.abs.length ca2]] (RpL.cons (HRK.out.below (Below.refl _ _).drew) (RpL.nil _))).mono ?_;rintro e w9 ⟨u9,rfl,hb9,hu9⟩
         replace hb9:=Gd hb9
         obtain rfl:=Rp.int_inv hu9;have x1:=(HBX.out.call hb9).cell 1;have x2:=(HBX.out.call hb9).cell 2;have x3:=(HBX.out.call hb9).lt;simp only[Aui,AuH,AuG,AtF,Aty,Atv]at x1 x2)
      | (go_at_call 189
         refine(BL (G _) gabs rfl _ [.agg #[.bool kz.neg,.slice A2 kz.abs.length ca2]] (RpL.cons (HRK.out.below hb9) (RpL.nil _))).mono ?_;rintro e wa ⟨ua,rfl,hba,hua⟩;obtain⟨usa,rfl,hul⟩:=Rp.agg_inv hua)
      | (go_at_call 190
         refine(BL (G _) gtext rfl _ [.agg usa.toArray] (RpL.cons (Rp.agg hul) (RpL.nil _))).mono ?_;rintro e wt ⟨ut,rfl,hbt,hut⟩;obtain rfl:=Rp.str_inv hut;have hx:Below w8.heap.size w8 wt:=Cg (Cg hb9 hba) hbt;have hz:Auh 180 5 w1.heap.size w1.heap.size (At5 (F6 [] items)) wt:=DN HBD8.out hx;have hs:w1.heap.size<=wt.heap.size:=AtA HZ8.out hx.size;have HX:=κ hx;have HZ:=κ hz;have HS:=κ hs;clear hx hz hs hb9 hba hbt x1 x2)
      | (go_at_call 191
         refine(Fq w1.heap.size w1.heap.size (F6 [] items) tx (decide (s<0)) wt HZ.out HLEN.out HS.out).mono ?_;rintro e wz ⟨rfl,hdz,hbz,hkz⟩))
     all_goals
      have HDZ:=κ hdz;have hx2:Below w.heap.size w8 wt:=HX.out.mono (AtA HB1.out.size HZ8.out);have hx3:Below w.heap.size wt wz:=hbz.mono HB1.out.size;have hx4:Below w.heap.size w wz:=HB8.out.trans (hx2.trans hx3);have HBZ:=κ hx4;have HZZ:=κ (AtA HS.out hbz.size);clear hdz hbz hkz hx2 hx3 hx4
      go_wp2_with (go_at_call 192;refine(Tryz.Builder_String_any w1.heap.size _ (GG (F6 [] items) (decide (s<0)) tx) _ (.inr HDZ.out) HZZ.out).mono ?_)
      first|rintro e wq rfl hbq|rintro e wq ⟨rfl,hbq⟩
      have HBQ:=κ (HBZ.out.trans (hbq.mono HB1.out.size));clear hbq
      go_wp2
      go_ret
      exact⟨rfl,HBQ.out⟩
def Gs:Rw->Option (Ae)
 |[]=>Δ []
 |[.v (.int .u32 (.ofNat n))]::r=>(match Gs r with
  |some l=>Δ (n::l)
  |none=>Θ)
 |_::_=>Θ
theorem Fg:∀{xs:Rw} {l:Ae},Gs xs=Δ l->xs=l.map eL
 |[],l,h=>by injection h with h;subst h;rfl
 |x::r,l,h=>by
  unfold Gs at h;split at h
  .rename_i e;cases e
  .rename_i n r' e
   cases hr:Gs r' with
   |none=>rw[hr]at h;cases h
   |some l'=>
    rw[hr]at h;injection h with h
    injection e with e1 e2
    subst h e1 e2;rw[Fg hr];rfl
  .cases h
def ziO:Aa->Option Zi
 |[.v (.bool n),.ls xs]=>(match Gs xs with
  |some l=>Δ ⟨n,l⟩
  |none=>Θ)
 |_=>Θ
theorem Adn{xs:Aa}{z:Zi}(h:ziO xs=Δ z):xs=eZ z:=by
 unfold ziO at h;split at h
 .rename_i n ys
  cases hr:Gs ys with
  |none=>rw[hr]at h;cases h
  |some l=>
   rw[hr]at h;injection h with h
   subst h;rw[Fg hr];rfl
 .cases h
def ptO:Aa->Option Pt
 |[.v (.int .i64 v),.v (.bool n),.ls xs]=>(match Gs xs with
  |some l=>Δ ⟨v,⟨n,l⟩⟩
  |none=>Θ)
 |_=>Θ
theorem AbN{xs:Aa}{p:Pt}(h:ptO xs=Δ p):xs=eP p:=by
 unfold ptO at h;split at h
 .rename_i v n ys
  cases hr:Gs ys with
  |none=>rw[hr]at h;cases h
  |some l=>
   rw[hr]at h;injection h with h
   subst h;rw[Fg hr];rfl
 .cases h
def AhR:Rw->Option (List Pt)
 |[]=>Δ []
 |x::r=>(match ptO x,AhR r with
  |some p,Δ l=>Δ (p::l)
  |_,_=>Θ)
theorem PM:∀{xs:Rw} {l:List Pt},AhR xs=Δ l->xs=l.map eP
 |[],l,h=>by injection h with h;subst h;rfl
 |x::r,l,h=>by
  unfold AhR at h;split at h
  .rename_i p l' h1 h2
   injection h with h
   subst h;rw[Atu,←AbN h1,←PM h2]
  .cases h
def tmO:Aa->Option Tm
 |[.ls ps,.v (.bool n),.ls xs]=>(match AhR ps,Gs xs with
  |some ps,Δ l=>Δ ⟨ps,⟨n,l⟩⟩
  |_,_=>Θ)
 |_=>Θ
theorem AcU{xs:Aa}{t:Tm}(h:tmO xs=Δ t):xs=eT t:=by
 unfold tmO at h;split at h
 .split at h
  .rename_i ps l h1 h2
   injection h with h
   subst h;rw[PM h1,Fg h2];rfl
  .cases h
 .cases h
def Zm:Option (AV × List BO)->Option Zi
 |some (.agg cs,[])=>ziO cs
 |_=>Θ
theorem HM{o:Option (AV × List BO)}{z:Zi}(h:Zm o=Δ z):o=Δ (.agg (eZ z),[]):=by
 unfold Zm at h;split at h
 .rw[Adn h]
 .cases h
def W5:Option (AV × List BO)->Option Int
 |some (.v (.int .i64 n),[])=>Δ n
 |_=>Θ
theorem Dh{o:Option (AV × List BO)}{n:Int}(h:W5 o=Δ n):o=Δ (iv n,[]):=by
 unfold W5 at h;split at h
 .injection h with h;rw[h];rfl
 .cases h
def Zl:Option (AV × List BO)->Option (List UInt8)
 |some (.v (.string s),[])=>Δ s.data.toList
 |_=>Θ
theorem HL{o:Option (AV × List BO)}{l:List UInt8}(h:Zl o=Δ l):o=Δ (sv (CP l),[]):=by
 unfold Zl at h;split at h
 .injection h with h;subst h;rfl
 .cases h
section
variable (dq:Nat->DF)
def AbL(names:AV)(one:Zi)(p:Pt):Option (Bool × List UInt8):=match Zl (dq 188 [iv p.v,names] []),Zm (dq 189 [.agg (eZ p.z)] []),W5 (dq 64 [.agg (eZ p.z)] []) with
 |some nm,Δ many,Δ s=>(match W5 (dq 155 [.agg (eZ many),.agg (eZ one)] []) with
  |some c=>(match decide (c=0) with
   |true=>Δ (decide (s<0),nm)
   |false=>(match Zl (dq 190 [.agg (eZ many)] []) with
    |some tx=>Δ (decide (s<0),tx++42::nm)
    |none=>Θ))
  |none=>Θ)
 |_,_,_=>Θ
theorem U5{names:AV}{one:Zi}{p:Pt}{it:Bool × List UInt8}(h:AbL dq names one p=Δ it):Nonempty (PartH dq names one p it):=by
 unfold AbL at h;split at h
 .rename_i nm many s h1 h2 h3
  split at h
  .rename_i c h4
   split at h
   .rename_i hc
    injection h with h
    subst h;exact⟨⟨nm,many,c,s,HL h1,HM h2,Dh h4,Dh h3,rfl,.inl ⟨of_decide_eq_true hc,rfl⟩⟩⟩
   .rename_i hc
    split at h
    .rename_i tx h5
     injection h with h
     subst h;exact⟨⟨nm,many,c,s,HL h1,HM h2,Dh h4,Dh h3,rfl,.inr ⟨of_decide_eq_false hc,tx,HL h5,rfl⟩⟩⟩
    .cases h
  .cases h
 .cases h
def QC(names:AV)(one:Zi):List Pt->Option (List (Bool × List UInt8))
 |[]=>Δ []
 |p::r=>(match AbL dq names one p,QC names one r with
  |some i,Δ l=>Δ (i::l)
  |_,_=>Θ)
theorem LR{names:AV}{one:Zi}:∀{ps:List Pt} {items:List (Bool × List UInt8)},QC dq names one ps=Δ items->items.length=ps.length/\∀ i (h:i<ps.length) (h':i<items.length),Nonempty (PartH dq names one ps[i] items[i])
 |[],items,h=>by
  injection h with h
  subst h;exact⟨rfl,λi h=>absurd h (Awc _)⟩
 |p::r,items,h=>by
  unfold QC at h;split at h
  .rename_i it l h1 h2
   injection h with h
   subst h;obtain⟨hl,hp⟩:=LR h2;refine⟨by rw[Ate,Ate,hl],λi hi hi'=>?_⟩
   cases i with
   |zero=>exact U5 dq h1
   |succ i=>exact hp i (by simpa using hi) (by simpa using hi')
  .cases h
def kiO(ps:List Pt)(kz:Zi)(l:List UInt8):Option (List UInt8):=match W5 (dq 64 [.agg (eZ kz)] []) with
 |some s=>(match decide (s=0)&&!ps.isEmpty with
  |true=>Δ l
  |false=>(match Zm (dq 189 [.agg (eZ kz)] []) with
   |some many=>(match Zl (dq 190 [.agg (eZ many)] []) with
    |some tx=>(match Nat.ble (l.length+3+tx.length) 140737488355328 with
     |true=>Δ (GG l (decide (s<0)) tx)
     |false=>Θ)
    |none=>Θ)
   |none=>Θ))
 |none=>Θ
theorem Aa3{ps:List Pt}{kz:Zi}{l fin:List UInt8}(h:kiO dq ps kz l=Δ fin):Nonempty (KiH dq ps kz l fin):=by
 unfold kiO at h;split at h
 .rename_i s h1
  split at h
  .rename_i hc
   injection h with h
   subst h;simp only[Atk,decide_eq_true_eq,Bool.not_eq_true',List.isEmpty_eq_false_iff]at hc;exact⟨⟨s,Dh h1,.inl ⟨hc.1,hc.2,rfl⟩⟩⟩
  .rename_i hc
   split at h
   .rename_i many h2
    split at h
    .rename_i tx h3
     split at h
     .rename_i hl
      injection h with h
      subst h;refine⟨⟨s,Dh h1,.inr ⟨?_,many,tx,HM h2,HL h3,rfl,At7 hl⟩⟩⟩;rcases Bool.and_eq_false_iff.1 hc with hc|hc
      .exact .inl (of_decide_eq_false hc)
      .exact .inr (by simpa using hc)
     .cases h
    .cases h
   .cases h
 .cases h
def Rv:List (Bool × List UInt8)->Nat
 |[]=>0
 |it::r=>it.2.length+3+Rv r
theorem Acv(l:List UInt8)(neg:Bool)(tx:List UInt8):(GG l neg tx).length<=l.length+3+tx.length:=by
 unfold GG YH;rw[γ,γ];have:(if l=[] then(if neg then [45] else []) else if neg then [32,45,32] else [32,43,32]:List UInt8).length<=3:=by
  repeat' split
  all_goals decide
 omega
theorem TF:∀(items:List (Bool × List UInt8)) (l:List UInt8),(F6 l items).length<=l.length+Rv items
 |[],l=>by unfold F6 Rv;exact η _
 |it::r,l=>by
  have h1:=TF r (GG l it.1 it.2);have h2:=Acv l it.1 it.2;have h3:F6 l (it::r)=F6 (GG l it.1 it.2) r:=rfl;rw[h3];unfold Rv;omega
theorem P0:∀(items:List (Bool × List UInt8)) (i:Nat) (h:i<items.length),Rv (items.take i)+3+items[i].2.length<=Rv items
 |[],i,h=>absurd h (Awc _)
 |it::r,0,h=>by simp only[List.take_zero,Rv,List.getElem_cons_zero];omega
 |it::r,i+1,h=>by
  have:=P0 r i (by simpa using h);simp only[List.take_succ_cons,Rv,List.getElem_cons_succ];omega
def ML:Aa->Option AV
 |[.agg [t0,t1,t2],names]=>(match AU [t0,t1,t2,names]with
  |true=>(match dq 62 [.agg [t0,t1,t2]] []with
   |some (.agg cs,[])=>(match tmO cs,Zm (dq 126 [iv 1] []) with
    |some t,Δ one=>(match QC dq names one t.ps with
     |some items=>(match Nat.ble (Rv items) 140737488355328 with
      |true=>(match kiO dq t.ps t.k (F6 [] items) with
       |some fin=>Δ (sv (CP fin))
       |none=>Θ)
      |false=>Θ)
     |none=>Θ)
    |_,_=>Θ)
   |_=>Θ)
  |false=>Θ)
 |_=>Θ
theorem YQ(G:∀ f,A1 (Bi ζ f) (dq f)):A1 (Bi ζ 130) (CS (ML dq)):=by
 refine Sa (Ci _ _) _ λargs r hr μ F w us hus=>?_
 unfold ML at hr;split at hr
 .rename_i t0 t1 t2 names
  split at hr
  .rename_i hn
   split at hr
   .rename_i cs hP
    split at hr
    .rename_i t one h1 h2
     split at hr
     .rename_i items h3
      split at hr
      .rename_i h4
       split at hr
       .rename_i fin h5
        injection hr with hr
        subst hr;simp only[AU,Atk]at hn;obtain⟨n0,n1,n2,n3,_⟩:=hn;obtain⟨hl,hi⟩:=LR dq h3;simp only[RepList]at hus;obtain⟨u,ul,rfl,hu,u2,ul2,rfl,hu2,rfl⟩:=hus;simp only[Rep]at hu;obtain⟨us3,rfl,hu⟩:=hu;obtain⟨us3⟩:=us3;simp only[RepList]at hu;obtain⟨v0,l0,e0,r0,v1,l1,e1,r1,v2,l2,e2,r2,e3⟩:=hu;subst e3 e2 e1;have e0:us3=[v0,v1,v2]:=e0;subst e0;rw[AcU h1]at hP;refine Calls.mono (Rr dq G t0 t1 t2 names t.ps t.k one items hl hP (HM h2) (λi h=>Classical.choice (hi i h (by omega))) (λi h=>?_) fin (Classical.choice (Aa3 dq h5)) w v0 v1 v2 u2 (Rep.plain _ _ n0 r0) (Rep.plain _ _ n1 r1) (Rep.plain _ _ n2 r2) (Rep.plain _ _ n3 hu2)) ?_
        .have q1:=P0 items i (by omega)
         have q2:=TF (items.take i) [];have q3:=At7 h4;simp only[Auj,Nat.zero_add]at q2;omega
        .rintro e w' ⟨rfl,hb⟩
         refine⟨_,rfl,hb,?_⟩;unfold sv CP;simp only[Rep];exact⟨trivial,rfl⟩
       .cases hr
      .cases hr
     .cases hr
    .cases hr
   .cases hr
  .cases hr
 .cases hr
end
def rlO:Aa->Option RlA
 |[.ls ps,.v (.bool kn),.ls ka,.v (.bool eq)]=>Δ ⟨ps,kn,ka,eq⟩
 |_=>Θ
theorem Of{x:Aa}{r:RlA}(h:rlO x=Δ r):x=r.c:=by
 unfold rlO at h;split at h
 .injection h with h;subst h;rfl
 .cases h
def AbZ:Rw->Option (List RlA)
 |[]=>Δ []
 |x::r=>(match rlO x,AbZ r with
  |some p,Δ l=>Δ (p::l)
  |_,_=>Θ)
theorem Lc:∀{xs:Rw} {l:List RlA},AbZ xs=Δ l->xs=l.map RlA.c
 |[],l,h=>by injection h with h;subst h;rfl
 |x::r,l,h=>by
  unfold AbZ at h;split at h
  .rename_i p l' h1 h2
   injection h with h
   subst h;rw[Atu,←Of h1,←Lc h2]
  .cases h
section
variable (dq:Nat->DF)
def Adx:Option (AV × List BO)->Option Bool
 |some (.v (.bool b),[])=>Δ b
 |_=>Θ
theorem W4{o:Option (AV × List BO)}{b:Bool}(h:Adx o=Δ b):o=Δ (bv b,[]):=by
 unfold Adx at h;split at h
 .injection h with h;rw[h];rfl
 .cases h
def YI(p z:Aa):Bool:=(Adx (dq 213 [.agg (z.take 3),.agg p] [])).getD Ξ
def Am2(p:Aa)(ls:Rw):Bool:=ls.all λz=>(Adx (dq 213 [.agg (z.take 3),.agg p] [])).isSome
theorem Vv{p:Aa}{ls:Rw}(h:Am2 dq p ls=U):∀ z∈ls,dq 213 [.agg (z.take 3),.agg p] []=Δ (bv (YI dq p z),[]):=λz hz=>by
 have:=List.all_eq_true.1 h z hz;obtain⟨b,hb⟩:=Option.isSome_iff_exists.1 this;unfold YI;rw[hb];exact W4 hb
def SN:Option (AV × List BO)->Option Aa
 |some (.tup [],[.set ⟨y,U,Ξ⟩])=>(match y.all GV&&Nat.beq y.length 9 with
  |true=>Δ y
  |false=>Θ)
 |_=>Θ
theorem I6{o:Option (AV × List BO)}{y:Aa}(h:SN o=Δ y):o=Δ (.tup [],[.set ⟨y,U,Ξ⟩])/\y.all GV=U/\y.length=9:=by
 unfold SN at h;split at h
 .split at h
  .rename_i hc
   injection h with h
   subst h;rw[Atk]at hc;exact⟨rfl,hc.1,Atz hc.2⟩
  .cases h
 .cases h
def AbB(ls:Rw)(r:RlA):Option Rw:=match dq 125 [.agg [bv r.kn,.ls r.ka]] []with
 |some (.agg [.ls k0,.v (.bool k1),.ls k2],[])=>(match dq 127 [.agg [.ls r.ps,bv r.kn,.ls r.ka],.agg [.ls k0,bv k1,.ls k2]] []with
  |some (.agg [.ls ([c0,.v (.bool c1),.ls c2]::row),.v (.bool d1),.ls d2],[])=>(match W5 (dq 64 [.agg [bv c1,.ls c2]] []) with
   |some s=>(match decide (0<s) with
    |true=>(match Am2 dq [.ls ([c0,bv c1,.ls c2]::row),bv d1,.ls d2] ls,dq 161 [.agg [bv r.kn,.ls r.ka]] [],(EQ (YI dq [.ls ([c0,bv c1,.ls c2]::row),bv d1,.ls d2]) ls ([.ls ([c0,bv c1,.ls c2]::row),bv d1,.ls d2]++EW))[ls.findIdx (YI dq [.ls ([c0,bv c1,.ls c2]::row),bv d1,.ls d2])]? with
     |true,Δ (.agg [.v (.bool n0),.ls n1],[]),Δ x=>(match SN (dq 160 [.ptr 0 0,.agg [bv n0,.ls n1]] [⟨x,U,Ξ⟩]) with
      |some y=>(match r.eq with
       |false=>Δ ((EQ (YI dq [.ls ([c0,bv c1,.ls c2]::row),bv d1,.ls d2]) ls ([.ls ([c0,bv c1,.ls c2]::row),bv d1,.ls d2]++EW)).set (ls.findIdx (YI dq [.ls ([c0,bv c1,.ls c2]::row),bv d1,.ls d2])) y)
       |true=>(match SN (dq 162 [.ptr 0 0,.agg [bv n0,.ls n1]] [⟨y,U,Ξ⟩]) with
        |some z=>Δ (((EQ (YI dq [.ls ([c0,bv c1,.ls c2]::row),bv d1,.ls d2]) ls ([.ls ([c0,bv c1,.ls c2]::row),bv d1,.ls d2]++EW)).set (ls.findIdx (YI dq [.ls ([c0,bv c1,.ls c2]::row),bv d1,.ls d2])) y).set (ls.findIdx (YI dq [.ls ([c0,bv c1,.ls c2]::row),bv d1,.ls d2])) z)
        |none=>Θ))
      |none=>Θ)
     |_,_,_=>Θ)
    |false=>(match dq 68 [.agg [.ls ([c0,bv c1,.ls c2]::row),bv d1,.ls d2]] []with
     |some (.agg [.ls q0,.v (.bool q1),.ls q2],[])=>(match Am2 dq [.ls q0,bv q1,.ls q2] ls,(EQ (YI dq [.ls q0,bv q1,.ls q2]) ls ([.ls q0,bv q1,.ls q2]++EW))[ls.findIdx (YI dq [.ls q0,bv q1,.ls q2])]? with
      |true,Δ x=>(match SN (dq 162 [.ptr 0 0,.agg [bv r.kn,.ls r.ka]] [⟨x,U,Ξ⟩]) with
       |some y=>Δ ((EQ (YI dq [.ls q0,bv q1,.ls q2]) ls ([.ls q0,bv q1,.ls q2]++EW)).set (ls.findIdx (YI dq [.ls q0,bv q1,.ls q2])) y)
       |none=>Θ)
      |_,_=>Θ)
     |_=>Θ))
   |none=>Θ)
  |_=>Θ)
 |_=>Θ
theorem U0{ls:Rw}{r:RlA}{ls':Rw}(h:AbB dq ls r=Δ ls'):Nonempty (NoteH dq ls r.ps r.kn r.ka r.eq ls'):=by
 unfold AbB at h;split at h
 .rename_i k0 k1 k2 h1
  split at h
  .rename_i c0 c1 c2 row d1 d2 h2
   split at h
   .rename_i s h3
    split at h
    .rename_i hs
     split at h
     .rename_i n0 n1 x h4 h5 h6
      split at h
      .rename_i y h7
       obtain⟨g1,g2,g3⟩:=I6 h7;split at h
       .rename_i he
        injection h with h
        subst h;exact⟨⟨k0,k1,k2,c0,c1,c2,row,d1,d2,s,h1,h2,Dh h3,.inl ⟨of_decide_eq_true hs,_,n0,n1,x,y,Vv dq h4,h5,h6,g1,g2,g3,.inl ⟨he,rfl⟩⟩⟩⟩
       .rename_i he
        split at h
        .rename_i z h8
         obtain⟨g4,g5,g6⟩:=I6 h8;injection h with h
         subst h;exact⟨⟨k0,k1,k2,c0,c1,c2,row,d1,d2,s,h1,h2,Dh h3,.inl ⟨of_decide_eq_true hs,_,n0,n1,x,y,Vv dq h4,h5,h6,g1,g2,g3,.inr ⟨he,z,g4,g5,g6,rfl⟩⟩⟩⟩
        .cases h
      .cases h
     .cases h
    .rename_i hs
     split at h
     .rename_i q0 q1 q2 h4
      split at h
      .rename_i x h5 h6
       split at h
       .rename_i y h7
        obtain⟨g1,g2,g3⟩:=I6 h7;injection h with h
        subst h;exact⟨⟨k0,k1,k2,c0,c1,c2,row,d1,d2,s,h1,h2,Dh h3,.inr ⟨of_decide_eq_false hs,_,q0,q1,q2,x,y,h4,Vv dq h5,h6,g1,g2,g3,rfl⟩⟩⟩
       .cases h
      .cases h
     .cases h
   .cases h
  .cases h
 .cases h
def AkT:Option (AV × List BO)->Option (RlA × Int)
 |some (.tup [.agg cs,.v (.int .i64 k)],[])=>(match rlO cs with
  |some r=>Δ (r,k)
  |none=>Θ)
 |_=>Θ
theorem W6{o:Option (AV × List BO)}{r:RlA}{k:Int}(h:AkT o=Δ (r,k)):o=Δ (.tup [.agg r.c,iv k],[]):=by
 unfold AkT at h;split at h
 .split at h
  .rename_i hr
   injection h with h
   injection h with h1 h2
   subst h1 h2;rw[Of hr];rfl
  .cases h
 .cases h
def Tl:List RlA->Rw->Option (Option Rw)
 |[],ls=>Δ (Δ ls)
 |r::rs,ls=>(match AkT (dq 17 [.agg r.c] []) with
  |some (r',k)=>(match decide (k=-1),decide (k=0) with
   |true,_=>Δ Θ
   |false,U=>(match AbB dq ls r' with
    |some ls'=>Tl rs ls'
    |none=>Θ)
   |false,Ξ=>Tl rs ls)
  |none=>Θ)
theorem EY:∀{rs:List RlA} {ls:Rw} {o:Option Rw},Tl dq rs ls=Δ o->Run1 dq rs ls o
 |[],ls,o,h=>by
  injection h with h
  subst h;exact .nil ls
 |r::rs,ls,o,h=>by
  unfold Tl at h;split at h
  .rename_i r' k ht
   have ht:=W6 ht;split at h
   .rename_i hk
    have:=of_decide_eq_true hk;subst this;injection h with h
    subst h;exact .never r r' rs ls ht
   .rename_i hk h0
    have:=of_decide_eq_true h0;subst this;split at h
    .rename_i ls' hn
     exact .note r r' rs ls ls' o ht (U0 dq hn) (EY h)
    .cases h
   .rename_i hk h0
    exact .skip r r' rs ls k o ht (of_decide_eq_false hk) (of_decide_eq_false h0) (EY h)
  .cases h
def AkS:Option (AV × List BO)->Option (List RlA × Bool × Aa)
 |some (.tup [.ls more,.v (.bool ok)],[.set ⟨y,U,Ξ⟩])=>(match AbZ more,y.all GV&&Nat.beq y.length 9 with
  |some ms,U=>Δ (ms,ok,y)
  |_,_=>Θ)
 |_=>Θ
theorem KE{o:Option (AV × List BO)}{ms:List RlA}{ok:Bool}{y:Aa}(h:AkS o=Δ (ms,ok,y)):o=Δ (.tup [.ls (ms.map RlA.c),bv ok],[.set ⟨y,U,Ξ⟩])/\y.all GV=U/\y.length=9:=by
 unfold AkS at h;split at h
 .split at h
  .rename_i hr hc
   injection h with h
   injection h with h1 h
   injection h with h2 h3
   subst h1 h2 h3;rw[Atk]at hc;rw[Lc hr];exact⟨rfl,hc.1,Atz hc.2⟩
  .cases h
 .cases h
def Tn:Rw->List RlA->Option (Option (List RlA))
 |[],out=>Δ (Δ out)
 |x::xs,out=>(match AkS (dq 89 [.ptr 0 0] [⟨x,U,Ξ⟩]) with
  |some (_,Ξ,_)=>Δ Θ
  |some ([m0],U,_)=>Tn xs (out++[m0])
  |some ([m0,m1],U,_)=>Tn xs (out++[m0,m1])
  |_=>Θ)
theorem GC:∀{xs:Rw} {out:List RlA} {o:Option (List RlA)},Tn dq xs out=Δ o->Run2 dq xs out o
 |[],out,o,h=>by
  injection h with h
  subst h;exact .nil out
 |x::xs,out,o,h=>by
  unfold Tn at h;split at h
  .rename_i ms y ht
   obtain⟨g1,g2,g3⟩:=KE ht;injection h with h
   subst h;exact .never x y xs out _ g1 g2 g3
  .rename_i m0 y ht
   obtain⟨g1,g2,g3⟩:=KE ht;exact .go x y xs out m0 [] o g1 g2 g3 (by simp) (GC h)
  .rename_i m0 m1 y ht
   obtain⟨g1,g2,g3⟩:=KE ht;exact .go x y xs out m0 [m1] o g1 g2 g3 (by simp) (GC h)
  .cases h
