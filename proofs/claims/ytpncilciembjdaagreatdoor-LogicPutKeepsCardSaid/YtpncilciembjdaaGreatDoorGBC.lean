/- strings.Builder's method -/
import Derived.Test.YtpncilciembjdaaGreatDoorGBB
import Derived.Shelf.Strings.Builder1
import Derived.Deep.RegionWith
import Derived.Test.YtpncilciembjdaaGreatDoorGBA
set_option linter.all false
open Array renaming getElem?_eq_none->Arc
open Bool renaming false->Ξ,true->U,and_eq_true->Aqr
open List renaming getElem?_cons_succ->AqA,getElem?_cons_zero->AqE,getElem?_eq_getElem->θ,getElem?_map->AqD,getElem?_toArray->AqL,length_append->χ,length_cons->ε,length_map->Aqy,length_nil->Aq8,length_pos_iff->As8,map_cons->AqF,setIfInBounds_toArray->Aru,set_cons_succ->ArS,set_cons_zero->ArT,size_toArray->ArE
open Nat renaming eq_of_beq_eq_true->AqG,le_of_ble_eq_true->Ark,le_of_lt->ArW,le_refl->ω,le_trans->AqS,lt_or_ge->AqJ,not_lt_zero->Atv,zero_le->AqR
open Option renaming none->Θ,some->Δ,map_eq_some_iff->AqX
namespace Go.Proofs.YtpncilciembjdaaGreatDoor
open Lib renaming BuilderAt->As5,IsBuilder->Art,byteCells->Arg,byteCells_append->ArK,byteCells_length->ArA,cell_of_heap->Ast,hid->ζ,strCells->AtD
open Tryz renaming prog->η
open Go.RowKit
theorem Wg:(Tryz.prog.info? 5).map (λi=>(i.zero,i.size,i.bytes))=Δ (Δ (.int .u8 0),1,1):=by kernel_rfl
theorem Ri:(Tryz.prog.info? 180).map (·.size)=Δ 2:=by kernel_rfl
theorem Yu:liesAt η Tryz.prog.depth 180 (2 / Tryz.prog.cellsOf 180) 0 180 1=U:=by kernel_rfl
set_option maxHeartbeats 1000000 in
set_option maxRecDepth 100000 in
theorem MQ(b:Nat)(w:World)(h0:w.cell? ⟨b,0,Θ⟩=Δ (.pointer (Δ ⟨b,0,Θ⟩))) :
  Calls η 250 #[.pointer (Δ ⟨b,0,Θ⟩)] w λe w'=>e=.returned (.tuple #[])/\w'=w:=by
 obtain⟨j,hj,_⟩:=AqX.1 Ri
 go_enter Tryz.func250,Tryz.ntmps250
 go_wp2
 rw[Lib.run_neq_ptr_same w _ Tryz.underlying177 hj]
 go_wp2
 go_end0
 exact⟨rfl,rfl⟩
set_option maxHeartbeats 1000000 in
set_option maxRecDepth 100000 in
theorem LX(b:Nat)(w:World)(h0:w.cell? ⟨b,0,Θ⟩=Δ (.pointer Θ))(hsh:w.shape? b=Δ (180,2))(hfz:w.frozen? ⟨b,0,Θ⟩=Ξ) :
  Calls η 250 #[.pointer (Δ ⟨b,0,Θ⟩)] w λe w'=>e=.returned (.tuple #[])/\w'=w.setCell ⟨b,0,Θ⟩ (.pointer (Δ ⟨b,0,Θ⟩)):=by
 obtain⟨j,hj,hjs⟩:=AqX.1 Ri
 go_enter Tryz.func250,Tryz.ntmps250
 go_wp2
 rw[Lib.run_to_unsafe w ⟨b,0,Θ⟩ Tryz.underlying177 Tryz.underlying248 hj (by rw[hjs];decide) hsh (Nat.zero_lt_succ 1)];simp only[Result.andThen];rw[Oper.upon_value]
 go_wp2
 rw[run_callFunc_extern Tryz.func269 (by kernel_rfl) (by kernel_rfl) (by kernel_rfl) (e:=Extern.AbiNoEscape.same) (by kernel_rfl)];rw[Lib.run_noEscape];simp only[Result.andThen];rw[Oper.upon_value]
 go_wp2
 rw[Lib.run_from_unsafe w ⟨b,0,Θ⟩ Tryz.underlying248 Tryz.underlying177 hj hsh Yu];simp only[Result.andThen];rw[Oper.upon_value]
 go_wp2
 go_end0
 exact⟨rfl,rfl⟩
theorem Ol(B b:Nat)(bs:List Value)(w:World)(h:Art 180 5 B b bs w) :
  Calls η 250 #[.pointer (Δ ⟨b,0,Θ⟩)] w λe w'=>e=.returned (.tuple #[])/\(As5 180 5 B b (.pointer (Δ ⟨b,0,Θ⟩)) bs w'/\Below B w w'/\∀ k,k≠b->w'.heap[k]? = w.heap[k]?):=by
 rcases h with h|h
 .refine(LX b w h.cell0 h.shape h.frozen0).mono ?_
  rintro e w' ⟨rfl,rfl⟩;exact⟨rfl,h.used _,(Below.refl B w).setCell (p:=⟨b,0,Θ⟩) h.1 _,λk hk=>Below.heap_setCell _ _ _ _ hk⟩
 .refine(MQ b w h.cell0).mono ?_
  rintro e w' ⟨rfl,rfl⟩;exact⟨rfl,h,Below.refl B _,λ_ _=>rfl⟩
set_option maxHeartbeats 2000000 in
set_option maxRecDepth 100000 in
theorem BW(B b:Nat)(bs:List Value)(s:ByteArray)(w:World)(h:Art 180 5 B b bs w)(hlen:bs.length+s.size<=140737488355328)(hBw:B<=w.heap.size) :
  Calls η 225 #[.pointer (Δ ⟨b,0,Θ⟩),.string s] w λe w'=>e=.returned (.tuple #[.int .i64 s.size,.nilIface])/\(As5 180 5 B b (.pointer (Δ ⟨b,0,Θ⟩)) (bs++AtD s) w'/\Below B w w'/\∀ k cs T fr,w.heap[k]? = Δ (.cells cs T fr)->k≠b->T≠5->w'.heap[k]? = Δ (.cells cs T fr)):=by
 obtain⟨i0,hi,hz0,hz1,hz2⟩:=info_parts Wg
 go_enter Tryz.func225,Tryz.ntmps225
 go_wp2_with (go_at_call 250;refine(Ol B b bs _ h).mono ?_)
 rintro e w1 ⟨rfl,h1,hb1,hk1⟩;obtain⟨hB,v,hbk,hown,hne⟩:=h1;have c0:w1.cell? ⟨b,0,Θ⟩=Δ (.pointer (Δ ⟨b,0,Θ⟩)):=by rw[Ast hbk];rfl
 have c1:w1.cell? ⟨b,1,Θ⟩=Δ v:=by rw[Ast hbk];rfl
 go_wp2_with (at_builtin;refine Lib.wpList_append_own_string _ rfl _ _ 178 9 rfl B 5 i0 Tryz.underlying178 Tryz.underlying9 hi hz0 hz1 hz2 _ _ _ rfl hown s rfl ?c3 ?c4 ?c5 ?_)
 case c3=>unfold maxLen;omega
 case c4=>omega
 case c5=>have:=hb1.size;omega
 intro v' w2 hown' hgrow _;have hlt:b<w1.heap.size:=by
  rcases AqJ b w1.heap.size with h' | h'
  .exact h'
  .simp[Arc h']at hbk
 have hb2:w2.heap[b]? = Δ (.cells #[.pointer (Δ ⟨b,0,Θ⟩),v] 180 (0,0)):=by
  rw[hgrow.block b hlt (λe=>hne e.symm)];exact hbk
 have d0:w2.cell? ⟨b,0,Θ⟩=Δ (.pointer (Δ ⟨b,0,Θ⟩)):=by rw[Ast hb2];rfl
 have d1:w2.cell? ⟨b,1,Θ⟩=Δ v:=by rw[Ast hb2];rfl
 have f1:w2.frozen? ⟨b,1,Θ⟩=Ξ:=Lib.frozen_of_heap hb2 1;obtain⟨ao,n',cap,rfl⟩:∃ ao n' cap,v'=.slice ao n' cap:=by
  rcases hown'.2 with⟨hv,_⟩|⟨g,cap,cur,hv,_⟩
  .exact⟨_,_,_,hv⟩
  .exact⟨_,_,_,hv⟩
 go_wp2
 go_ret2
 refine⟨rfl,?_,?_,?_⟩
 .exact Lib.BuilderAt.put (T:=180) (e:=5) hB hb2 (bs':=bs++AtD s) (by simpa[Lib.strCells_length]using hown') (by decide)
 .exact(hb1.grown hgrow (by have:=hb1.size;omega) (λk hk=>(hown.lt k hk).1)).setCell (p:=⟨b,1,Θ⟩) hB _
 .intro k cs T fr hk hkb hT
  have h1:=(hk1 k hkb).trans hk;have hlk:k<w1.heap.size:=by
   rcases AqJ k w1.heap.size with h' | h'
   .exact h'
   .simp[Arc h']at h1
  have h2:=(hgrow.block k hlk λe=>Lib.ownBlock_ne hown h1 hT e.symm).trans h1;exact(Below.heap_setCell _ _ _ _ hkb).trans h2
def XD(l:List UInt8)(neg:Bool):List UInt8:=if l=[] then(if neg then [45] else []) else if neg then [32,45,32] else [32,43,32]
def Gn(l:List UInt8)(neg:Bool)(tx:List UInt8):List UInt8:=l++XD l neg++tx
set_option maxHeartbeats 2000000 in
set_option maxRecDepth 100000 in
theorem EZ(B b:Nat)(l tx:List UInt8)(neg:Bool)(w:World)(h:Art 180 5 B b (Arg l) w)(hlen:l.length+3+tx.length<=140737488355328)(hBw:B<=w.heap.size) :
  Calls η 191 #[.pointer (Δ ⟨b,0,Θ⟩),.bool neg,.string ⟨tx.toArray⟩] w λe w'=>e=.returned (.tuple #[])/\(As5 180 5 B b (.pointer (Δ ⟨b,0,Θ⟩)) (Arg (Gn l neg tx)) w'/\Below B w w'/\∀ k cs T fr,w.heap[k]? = Δ (.cells cs T fr)->k≠b->T≠5->w'.heap[k]? = Δ (.cells cs T fr)):=by
 have HH:=ζ h;have HLEN:=ζ hlen;have HBW:=ζ hBw;clear h hlen hBw
 go_enter Tryz.func191,Tryz.ntmps191
 have hg:=Tryz.Builder_Len B b _ _ HH.out;obtain⟨c,hc⟩:∃ c,c=(Arg l).length:=⟨_,rfl⟩;rw[←hc]at hg;have HG:=ζ hg;clear hg;rw[ArA]at hc
 by_cases hl:l=[]
 .have y0:(c:Int)=0:=by rw[hc,hl];rfl
  cases neg with
  |true=>
   have hs:Gn l U tx=l++[45]++tx:=by unfold Gn XD;rw[if_pos hl,if_pos rfl]
   go_wp2_with (go_at_call 233;refine HG.out.mono ?_)
   rintro e w1 ⟨rfl,rfl⟩
   go_wp2_with (go_at_call 225;refine(BW B b (Arg l) _ _ HH.out ?h1 HBW.out).mono ?_)
   case h1=>
    rw[ArA];have h5:=HLEN.out;simp only[ByteArray.size,ArE,χ,ε,Aq8]at h5 ⊢;omega
   first|rintro e w2 rfl hd2 hb2 hk2|rintro e w2 ⟨rfl,hd2,hb2,hk2⟩
   have HD2:=ζ (show Art 180 5 B b (Arg (l++[45])) w2 from .inr (by rw[ArK];exact hd2));have HB2:=ζ hb2;have HK2:=ζ hk2;have HY2:=ζ (AqS HBW.out hb2.size);clear hd2 hb2 hk2
   go_wp2_with (go_at_call 225;refine(BW B b (Arg (l++[45])) _ _ HD2.out ?h1 HY2.out).mono ?_)
   case h1=>
    rw[ArA];have h5:=HLEN.out;simp only[ByteArray.size,ArE,χ,ε,Aq8]at h5 ⊢;omega
   first|rintro e w3 rfl hd3 hb3 hk3|rintro e w3 ⟨rfl,hd3,hb3,hk3⟩
   go_wp2
   go_end0
   refine⟨rfl,?_,HB2.out.trans hb3,λk cs T fr h1 h2 h3=>hk3 k cs T fr (HK2.out k cs T fr h1 h2 h3) h2 h3⟩;rw[hs,ArK];exact hd3
  |false=>
   have hs:Gn l Ξ tx=l++tx:=by unfold Gn XD;rw[if_pos hl,if_neg (by decide),List.append_nil]
   go_wp2_with (go_at_call 233;refine HG.out.mono ?_)
   rintro e w1 ⟨rfl,rfl⟩
   go_wp2_with (go_at_call 225;refine(BW B b (Arg l) _ _ HH.out ?h1 HBW.out).mono ?_)
   case h1=>
    rw[ArA];have h5:=HLEN.out;simp only[ByteArray.size,ArE,χ,ε,Aq8]at h5 ⊢;omega
   first|rintro e w3 rfl hd3 hb3 hk3|rintro e w3 ⟨rfl,hd3,hb3,hk3⟩
   go_wp2
   go_end0
   refine⟨rfl,?_,hb3,hk3⟩;rw[hs,ArK];exact hd3
 .have y0:¬ (c:Int)=0:=by
   have:=As8.2 hl;omega
  have y1:((c:Int) == 0)=Ξ:=by simpa using y0
  clear hc
  cases neg with
  |true=>
   have hs:Gn l U tx=l++[32,45,32]++tx:=by unfold Gn XD;rw[if_neg hl,if_pos rfl]
   go_wp2_with (go_at_call 233;refine HG.out.mono ?_)
   rintro e w1 ⟨rfl,rfl⟩
   go_wp2_with (go_at_call 225;refine(BW B b (Arg l) _ _ HH.out ?h1 HBW.out).mono ?_)
   case h1=>
    rw[ArA];have h5:=HLEN.out;simp only[ByteArray.size,ArE,χ,ε,Aq8]at h5 ⊢;omega
   first|rintro e w2 rfl hd2 hb2 hk2|rintro e w2 ⟨rfl,hd2,hb2,hk2⟩
   have HD2:=ζ (show Art 180 5 B b (Arg (l++[32,45,32])) w2 from .inr (by rw[ArK];exact hd2));have HB2:=ζ hb2;have HK2:=ζ hk2;have HY2:=ζ (AqS HBW.out hb2.size);clear hd2 hb2 hk2
   go_wp2_with (go_at_call 225;refine(BW B b (Arg (l++[32,45,32])) _ _ HD2.out ?h1 HY2.out).mono ?_)
   case h1=>
    rw[ArA];have h5:=HLEN.out;simp only[ByteArray.size,ArE,χ,ε,Aq8]at h5 ⊢;omega
   first|rintro e w3 rfl hd3 hb3 hk3|rintro e w3 ⟨rfl,hd3,hb3,hk3⟩
   go_wp2
   go_end0
   refine⟨rfl,?_,HB2.out.trans hb3,λk cs T fr h1 h2 h3=>hk3 k cs T fr (HK2.out k cs T fr h1 h2 h3) h2 h3⟩;rw[hs,ArK];exact hd3
  |false=>
   have hs:Gn l Ξ tx=l++[32,43,32]++tx:=by unfold Gn XD;rw[if_neg hl,if_neg (by decide)]
   go_wp2_with (go_at_call 233;refine HG.out.mono ?_)
   rintro e w1 ⟨rfl,rfl⟩
   go_wp2_with (go_at_call 225;refine(BW B b (Arg l) _ _ HH.out ?h1 HBW.out).mono ?_)
   case h1=>
    rw[ArA];have h5:=HLEN.out;simp only[ByteArray.size,ArE,χ,ε,Aq8]at h5 ⊢;omega
   first|rintro e w2 rfl hd2 hb2 hk2|rintro e w2 ⟨rfl,hd2,hb2,hk2⟩
   have HD2:=ζ (show Art 180 5 B b (Arg (l++[32,43,32])) w2 from .inr (by rw[ArK];exact hd2));have HB2:=ζ hb2;have HK2:=ζ hk2;have HY2:=ζ (AqS HBW.out hb2.size);clear hd2 hb2 hk2
   go_wp2_with (go_at_call 225;refine(BW B b (Arg (l++[32,43,32])) _ _ HD2.out ?h1 HY2.out).mono ?_)
   case h1=>
    rw[ArA];have h5:=HLEN.out;simp only[ByteArray.size,ArE,χ,ε,Aq8]at h5 ⊢;omega
   first|rintro e w3 rfl hd3 hb3 hk3|rintro e w3 ⟨rfl,hd3,hb3,hk3⟩
   go_wp2
   go_end0
   refine⟨rfl,?_,HB2.out.trans hb3,λk cs T fr h1 h2 h3=>hk3 k cs T fr (HK2.out k cs T fr h1 h2 h3) h2 h3⟩;rw[hs,ArK];exact hd3
structure PartH (dq:Nat->DF) (names:AV) (one:Zi) (p:Pt) (it:Bool × List UInt8) where
 nm:List UInt8
 many:Zi
 c:Int
 s:Int
 name:dq 188 [iv p.v,names] []=Δ (sv (Cw nm),[])
 abs:dq 189 [.agg (eZ p.z)] []=Δ (.agg (eZ many),[])
 cmp:dq 155 [.agg (eZ many),.agg (eZ one)] []=Δ (iv c,[])
 sign:dq 64 [.agg (eZ p.z)] []=Δ (iv s,[])
 neg:it.1=decide (s<0)
 text:c=0/\it.2=nm\/c≠0/\∃ tx,dq 190 [.agg (eZ many)] []=Δ (sv (Cw tx),[])/\it.2=tx++42::nm
def FM(l:List UInt8)(items:List (Bool × List UInt8)):List UInt8:=items.foldl (λl it=>Gn l it.1 it.2) l
theorem Xb{μ:Mu}{F:Az}{B:Nat}{w:World}{A:Option Addr}{n c:Nat}{ps:List Pt}(h:Rep μ F w (.ls (ps.map eP)) (.slice A n c))(hF:∀ g o,F g o->g<B)(h0:0<ps.length) :
  ∃ b o,A=Δ ⟨b,o,Θ⟩/\b<B/\∀ i (hi:i<ps.length),w.cell? ⟨b,o+i*3,Θ⟩=Δ (.int .i64 ps[i].v)/\w.cell? ⟨b,o+i*3+1,Θ⟩=Δ (.bool ps[i].z.neg)/\∃ A' c',w.cell? ⟨b,o+i*3+2,Θ⟩=Δ (.slice A' ps[i].z.abs.length c')/\Rep μ F w (eN ps[i].z.abs) (.slice A' ps[i].z.abs.length c'):=by
 simp only[Rep]at h;obtain⟨_,A2,c2,h1,h2,h3,h4⟩:=h;injection h1 with e1 e2 e3
 subst e1;obtain⟨g,o,e,hA,hr⟩:=h4 (by
  intro hh;rw[List.map_eq_nil_iff]at hh;rw[hh]at h0;exact Nat.lt_irrefl _ h0)
 have he:e=3:=by
  have:=hr.get (i:=0) (x:=eP ps[0]) (by rw[AqD,θ h0];rfl);have:=this.1;unfold eP at this;simpa using this.symm
 subst he;have cell:∀ i (hi:i<ps.length),w.cell? ⟨g,o+i*3,Θ⟩=Δ (.int .i64 ps[i].v)/\w.cell? ⟨g,o+i*3+1,Θ⟩=Δ (.bool ps[i].z.neg)/\∃ A' c',w.cell? ⟨g,o+i*3+2,Θ⟩=Δ (.slice A' ps[i].z.abs.length c')/\Rep μ F w (eN ps[i].z.abs) (.slice A' ps[i].z.abs.length c'):=λi hi=>by
  have ha:=(hr.get (i:=i) (x:=eP ps[i]) (by rw[AqD,θ hi];rfl)).2;unfold eP at ha;obtain⟨_,u0,c0,r0⟩:=ha.get (i:=0) (x:=iv ps[i].v) rfl;obtain⟨_,u1,c1,r1⟩:=ha.get (i:=1) (x:=bv ps[i].z.neg) rfl;obtain⟨_,u2,c2,r2⟩:=ha.get (i:=2) (x:=eN ps[i].z.abs) rfl;obtain rfl:=Rp.int_inv (Rep.plain _ _ rfl r0);obtain rfl:=Rp.bool_inv (Rep.plain _ _ rfl r1);obtain⟨A',c',rfl⟩:=Rp.ls_inv (Rep.plain _ _ rfl r2);rw[Aqy]at c2 r2;exact⟨c0,c1,A',c',c2,r2⟩
 have ha:=(hr.get (i:=0) (x:=eP ps[0]) (by rw[AqD,θ h0];rfl)).2;unfold eP at ha;obtain⟨hf,_⟩:=ha.get (i:=0) (x:=iv ps[0].v) rfl;exact⟨g,o,hA,hF _ _ hf,cell⟩
structure KiH (dq:Nat->DF) (ps:List Pt) (kz:Zi) (l fin:List UInt8) where
 s:Int
 sign:dq 64 [.agg (eZ kz)] []=Δ (iv s,[])
 text:s=0/\ps≠[]/\fin=l\/(s≠0\/ps=[])/\∃ many tx,dq 189 [.agg (eZ kz)] []=Δ (.agg (eZ many),[])/\dq 190 [.agg (eZ many)] []=Δ (sv (Cw tx),[])/\fin=Gn l (decide (s<0)) tx/\l.length+3+tx.length<=140737488355328
theorem XP(items:List (Bool × List UInt8))(k:Nat)(h:k<items.length):FM [] (items.take (k+1))=Gn (FM [] (items.take k)) items[k].1 items[k].2:=by
 unfold FM;rw[List.take_succ_eq_append_getElem h,List.foldl_append];rfl
theorem OG(a:List UInt8):(Cw a).size=a.length:=by simp[Cw,ByteArray.size]
theorem Rl(a b:List UInt8):Cw a++Cw b=Cw (a++b):=by
 unfold Cw;apply ByteArray.ext;simp[ByteArray.data_append]
theorem Dp{w w':World}{T e:TypeId}{B b:Nat}{bs:List Value}(h:Art T e B b bs w)(hb:Below w.heap.size w w'):Art T e B b bs w':=by
 rcases h with h|h
 .obtain⟨hB,v,h1,h2,h3⟩:=h
  have hl:=Lib.BuilderAt.lt ⟨hB,v,h1,h2,h3⟩;exact .inl ⟨hB,v,(hb.block b hl).trans h1,SC h2 hb,h3⟩
 .obtain⟨hB,v,h1,h2,h3⟩:=h
  have hl:=Lib.BuilderAt.lt ⟨hB,v,h1,h2,h3⟩;exact .inr ⟨hB,v,(hb.block b hl).trans h1,SC h2 hb,h3⟩
set_option maxHeartbeats 4000000 in
set_option maxRecDepth 100000 in
theorem Q2(dq:Nat->DF)(G:∀ f,AN (AT η f) (dq f))(t0 t1 t2:AV)(names:AV)(ps:List Pt)(kz one:Zi)(items:List (Bool × List UInt8))(l0':items.length=ps.length)
  (hP:dq 62 [.agg [t0,t1,t2]] []=Δ (.agg (eT ⟨ps,kz⟩),[])) (hO:dq 126 [iv 1] []=Δ (.agg (eZ one),[]))
  (hI:∀ i (h:i<ps.length),PartH dq names one ps[i] items[i]) (hL:∀ i (h:i<ps.length),(FM [] (items.take i)).length+3+items[i].2.length<=140737488355328) (fin:List UInt8) (hK:KiH dq ps kz (FM [] items) fin) (w:World) (v0 v1 v2 nv:Value) (r0:Rp w t0 v0) (r1:Rp w t1 v1) (r2:Rp w t2 v2) (rn:Rp w names nv) :
  Calls η 130 #[.agg #[v0,v1,v2],nv] w λe w'=>e=.returned (.string ⟨fin.toArray⟩)/\Below w.heap.size w w':=by
 have HR:=ζ (RpL.cons r0 (RpL.cons r1 (RpL.cons r2 (RpL.nil w))));have HN:=ζ rn;clear r0 r1 r2 rn
 go_enter Tryz.func130,Tryz.ntmps130
 go_wp2_with (go_at_call 62;refine(M3 (G _) hP w 28 #[v0,v1,v2] [.agg #[v0,v1,v2]] (RpL.cons (Rp.agg HR.out) (RpL.nil _))).mono ?_)
 rintro e w1 ⟨u,μ',F',c',rfl,hb1,hbk,hsz,hu,hF1,hF2⟩;have hu0:Rp w1 (.agg (eT ⟨ps,kz⟩)) u:=Rep.plain _ _ rfl hu;obtain⟨us,rfl,hus⟩:=Rp.agg_inv hu0;obtain⟨vp,us,rfl,rp,hus⟩:=RpL.cons_inv hus;obtain⟨vk,us,rfl,rk,hus⟩:=RpL.cons_inv hus;obtain⟨va,us,rfl,ra,hus⟩:=RpL.cons_inv hus;obtain rfl:=RpL.nil_inv hus;obtain rfl:=Rp.bool_inv rk;obtain⟨A,ca,rfl⟩:=Rp.ls_inv rp;obtain⟨A2,ca2,rfl⟩:=Rp.ls_inv ra;clear rp ra rk hu0 hus;obtain⟨d0,d1,d2,rfl⟩:∃ d0 d1 d2,c'=#[d0,d1,d2]:=by
  obtain⟨l⟩:=c'
  match l,hsz with
  |[a,b,c],_=>exact⟨a,b,c,rfl⟩
 have HBX:=ζ (show Blk w1 w.heap.size 28 #[d0,d1,d2] from hbk);have HU:=ζ hu;have HF2:=ζ hF2;have HB1:=ζ hb1;have HF1:=ζ hF1;clear hu hF1 hF2 hsz hbk hb1;have c0:w1.cell? ⟨w.heap.size,0,Θ⟩=Δ d0:=HBX.out.cell 0;have c1:w1.cell? ⟨w.heap.size,1,Θ⟩=Δ d1:=HBX.out.cell 1;have c2:w1.cell? ⟨w.heap.size,2,Θ⟩=Δ d2:=HBX.out.cell 2;have f0:w1.frozen? ⟨w.heap.size,0,Θ⟩=Ξ:=HBX.out.frozen 0;have f1:w1.frozen? ⟨w.heap.size,1,Θ⟩=Ξ:=HBX.out.frozen 1;have f2:w1.frozen? ⟨w.heap.size,2,Θ⟩=Ξ:=HBX.out.frozen 2;have hb2:=(((HBX.out.set_ 0 (.slice A ps.length ca)).set_ 1 (.bool kz.neg)).set_ 2 (.slice A2 kz.abs.length ca2)).alloc (.cells #[.pointer Θ,.slice Θ 0 0] 180);have y0:=hb2.cell 0;have HB2:=ζ hb2;clear hb2;simp only[Aru,ArT,ArS,AqL,AqE]at y0;have hu2:=Aax HU.out HBX.out HF1.out HF2.out (.slice A ps.length ca) (.bool kz.neg) (.slice A2 kz.abs.length ca2) (.cells #[.pointer Θ,.slice Θ 0 0] 180);obtain⟨rp,_,ra⟩:=Aau hu2;clear hu2;simp only[Aqy]at rp ra;have hml:ps.length<=9223372036854775807:=by
  have h:=rp;simp only[Rep]at h;obtain⟨_,A3,c3,h1,h2,h3,_⟩:=h;rw[Aqy]at h2;unfold maxLen at h3;omega
 have RP:=ζ rp;have RA:=ζ ra;clear rp ra;have hsz2:(((w1.setCell ⟨w.heap.size,0,Θ⟩ (.slice A ps.length ca)).setCell ⟨w.heap.size,1,Θ⟩ (.bool kz.neg)).setCell ⟨w.heap.size,2,Θ⟩ (.slice A2 kz.abs.length ca2)).heap.size=w1.heap.size:=by simp
 have hbld:Art 180 5 w1.heap.size w1.heap.size (Arg (FM [] (items.take 0))) ((((w1.setCell ⟨w.heap.size,0,Θ⟩ (.slice A ps.length ca)).setCell ⟨w.heap.size,1,Θ⟩ (.bool kz.neg)).setCell ⟨w.heap.size,2,Θ⟩ (.slice A2 kz.abs.length ca2)).alloc (.cells #[.pointer Θ,.slice Θ 0 0] 180)):=by
  refine .inl ⟨ω _,.slice Θ 0 0,?_,World.ownsRow_nil _ _ _ _,by simp[Value.ownBlock]⟩;have:=heap_alloc_new (((w1.setCell ⟨w.heap.size,0,Θ⟩ (.slice A ps.length ca)).setCell ⟨w.heap.size,1,Θ⟩ (.bool kz.neg)).setCell ⟨w.heap.size,2,Θ⟩ (.slice A2 kz.abs.length ca2)) (.cells #[.pointer Θ,.slice Θ 0 0] 180);rw[hsz2]at this;exact this
 have hbw:Below w.heap.size w ((((w1.setCell ⟨w.heap.size,0,Θ⟩ (.slice A ps.length ca)).setCell ⟨w.heap.size,1,Θ⟩ (.bool kz.neg)).setCell ⟨w.heap.size,2,Θ⟩ (.slice A2 kz.abs.length ca2)).alloc (.cells #[.pointer Θ,.slice Θ 0 0] 180)):=
  ((((HB1.out.setCell (p:=⟨w.heap.size,0,Θ⟩) (ω _) _).setCell (p:=⟨w.heap.size,1,Θ⟩) (ω _) _).setCell (p:=⟨w.heap.size,2,Θ⟩) (ω _) _).alloc (by rw[hsz2];exact HB1.out.size) _)
 have HBL:=ζ hbld;have HBW:=ζ hbw;clear hsz2 hbld hbw
 go_wp2_with fail
 revert y0;have RP:=RP.out;have RA:=RA.out;have HB2:=HB2.out;have HBL:=HBL.out;have HBW:=HBW.out;generalize hW2:((((w1.setCell ⟨w.heap.size,0,Θ⟩ (.slice A ps.length ca)).setCell ⟨w.heap.size,1,Θ⟩ (.bool kz.neg)).setCell ⟨w.heap.size,2,Θ⟩ (.slice A2 kz.abs.length ca2)).alloc (.cells #[.pointer Θ,.slice Θ 0 0] 180))=W2 at *;intro y0
 go_loopw [15] (λq wr=>∃ k:Nat,k<=ps.length/\q=.int .i64 k/\Art 180 5 w1.heap.size w1.heap.size (Arg (FM [] (items.take k))) wr/\Below w1.heap.size W2 wr) (λq _=>ps.length-(intOf q).toNat)
 case atStart=>exact⟨0,AqR _,rfl,HBL,Below.refl _ _⟩
 case round=>
  obtain⟨k,hk,rfl,hbld,hb⟩:=hrel;have HBLD:=ζ hbld;have HB:=ζ hb;have RP:=ζ RP;have RA:=ζ RA;have HB2:=ζ HB2;have HBL:=ζ HBL;have HBW:=ζ HBW;have HW2:=ζ hW2;clear hbld hb c0 c1 c2 f0 f1 f2 y0 hW2
  by_cases hlt:k<ps.length
  .obtain⟨b,o,rfl,hbl,hc⟩:=Xb RP.out HF1.out (Nat.lt_of_le_of_lt (AqR _) hlt)
   obtain⟨d0',d1',A',cc',d2',rz⟩:=hc k hlt;have e0:=(HB.out.cell (p:=⟨b,o+k*3,Θ⟩) hbl).trans d0';have e1:=(HB.out.cell (p:=⟨b,o+k*3+1,Θ⟩) hbl).trans d1';have e2:=(HB.out.cell (p:=⟨b,o+k*3+2,Θ⟩) hbl).trans d2';have l0:b<wr.heap.size:=AcC e0;have z0:(0:Int)<=(k:Int):=by omega
   have z1:(k:Int)<(ps.length:Int):=by omega
   have hih:=hI k hlt;have hlen:=hL k hlt;have htk:=XP items k (l0'▸hlt);have hrn:Rp wr names nv:=HN.out.below (HBW.out.trans (HB.out.mono HB1.out.size));have hrz:Rp wr (eN ps[k].z.abs) (.slice A' ps[k].z.abs.length cc'):=Rep.plain _ _ rfl (Rep.later (μ':=μ') ⟨λ_ _ h=>h,λg o hg=>⟨hg,HB.out.cell (p:=⟨g,o,Θ⟩) (HF1.out g o hg)⟩⟩ _ _ rz);have HRN:=ζ hrn;clear hc d0' d1' d2' rz hrn;revert hih hlen htk e0 e1 e2 hrz;generalize ps[k]=p;generalize items[k]'(l0'▸hlt)=it;obtain⟨pv_,pn_,pa_⟩:=p;obtain⟨itn,itx⟩:=it;intro e0 e1 e2 hih hlen htk hrz;have HRZ:=ζ hrz;have HLEN:=ζ hlen;have HTK:=ζ htk;clear hrz hlen htk;simp only at e0 e1 e2;obtain⟨nm,many,cm,sg,gname,gabs,gcmp,gsign,hneg,htext⟩:=hih;have HNEG:=ζ hneg;have HTEXT:=ζ htext;clear hneg htext
   go_wp2_with (go_at_call 188;refine(Bw (G _) gname rfl _ [.int .i64 pv_,nv] (RpL.cons (Rp.int _ _) (RpL.cons (HRN.out.below (AJ _ _)) (RpL.nil _)))).mono ?_)
   first|rintro e w3 u3 rfl hb3 hu3|rintro e w3 ⟨u3,rfl,hb3,hu3⟩
   obtain rfl:=Rp.str_inv hu3
   replace hb3:Below (wr.alloc (.cells #[.int .i64 pv_,.bool pn_,.slice A' pa_.length cc'] 84)).heap.size (wr.alloc (.cells #[.int .i64 pv_,.bool pn_,.slice A' pa_.length cc'] 84)) w3:=by rw[World.size_alloc];exact hb3
   have HBX3:=ζ ((Blk.new wr 84 #[.int .i64 pv_,.bool pn_,.slice A' pa_.length cc']).call hb3);have HB3:=ζ (BT (AJ wr _) hb3);clear hb3 hu3 e0 e1 e2;have x1:=HBX3.out.cell 1;have x2:=HBX3.out.cell 2
   go_wp2_with (go_at_call 189;refine(Bw (G _) gabs rfl _ [.agg #[.bool pn_,.slice A' pa_.length cc']] (RpL.cons (Rp.agg (RpL.cons (Rp.bool _ _) (RpL.cons (HRZ.out.below HB3.out) (RpL.nil _)))) (RpL.nil _))).mono ?_)
   first|rintro e w4 u4 rfl hb4 hu4|rintro e w4 ⟨u4,rfl,hb4,hu4⟩
   obtain⟨us,rfl,hus⟩:=Rp.agg_inv hu4;obtain⟨vm0,us,rfl,rm0,hus⟩:=RpL.cons_inv hus;obtain⟨vm1,us,rfl,rm1,hus⟩:=RpL.cons_inv hus;obtain rfl:=RpL.nil_inv hus;obtain rfl:=Rp.bool_inv rm0;obtain⟨Am,cm',rfl⟩:=Rp.ls_inv rm1;simp only[Aqy]at rm1;have HBX5:=ζ ((HBX3.out.call hb4).alloc (.cells #[.bool many.neg,.slice Am many.abs.length cm'] 26));have HM5:=ζ (Blk.new w4 26 #[.bool many.neg,.slice Am many.abs.length cm']);have HB5:=ζ (BT (BT HB3.out hb4) (AJ w4 (.cells #[.bool many.neg,.slice Am many.abs.length cm'] 26)));have HRM:=ζ (Rp.agg (RpL.cons (rm0.below (AJ w4 (.cells #[.bool many.neg,.slice Am many.abs.length cm'] 26))) (RpL.cons (rm1.below (AJ w4 (.cells #[.bool many.neg,.slice Am many.abs.length cm'] 26))) (RpL.nil _))));clear hb4 hu4 x1 x2 rm0 rm1 hus
   go_wp2_with fail
   generalize w4.alloc (.cells #[.bool many.neg,.slice Am many.abs.length cm'] 26)=w5 at *;have x1:=HM5.out.cell 0;have x2:=HM5.out.cell 1;have x3:=HM5.out.lt;simp only[AqL,AqE,AqA]at x1 x2
   go_region_with (first
    | (go_at_call 126
       refine(Bw (G _) hO rfl _ [.int .i64 1] (RpL.cons (Rp.int _ _) (RpL.nil _))).mono ?_;rintro e w6 ⟨u6,rfl,hb6,hu6⟩
       replace hb6:=FU hb6
       obtain⟨us,rfl,hus⟩:=Rp.agg_inv hu6;have x1:=(HM5.out.call hb6).cell 0;have x2:=(HM5.out.call hb6).cell 1;have x3:=(HM5.out.call hb6).lt;simp only[AqL,AqE,AqA]at x1 x2)
    | (go_at_call 155
       refine(Bw (G _) gcmp rfl _ [.agg #[.bool many.neg,.slice Am many.abs.length cm'],.agg us.toArray] (RpL.cons (HRM.out.below hb6) (RpL.cons (Rp.agg hus) (RpL.nil _)))).mono ?_;rintro e w7 ⟨u7,rfl,hb7,hu7⟩;obtain rfl:=Rp.int_inv hu7))
   all_goals
    have HB7:=ζ (BT (BT HB5.out hb6) hb7);have HM7:=ζ ((HM5.out.call hb6).call hb7);have HBX7:=ζ ((HBX5.out.call hb6).call hb7);have HRM7:=ζ ((HRM.out.below hb6).below hb7);have HRZ7:=ζ (HRZ.out.below HB7.out);have HBD7:=ζ (Dp HBLD.out HB7.out);have HLW:=ζ (HBLD.out.elim Lib.BuilderAt.lt Lib.BuilderAt.lt);clear hb6 hb7 hu6 hu7 hus x1 x2 x3;have x1:=HM7.out.cell 0;have x2:=HM7.out.cell 1;have x3:=HBX7.out.cell 1;have x4:=HBX7.out.cell 2;simp only[AqL,AqE,AqA]at x1 x2 x3 x4;rcases HTEXT.out with⟨hc,hit⟩|⟨hc,tx,gtext,hit⟩
    .have hcb:(cm != 0)=Ξ:=by simp[hc]
     subst hit
     go_wp2_with (go_at_call 64;refine(Bw (G _) gsign rfl _ [.agg #[.bool pn_,.slice A' pa_.length cc']] (RpL.cons (Rp.agg (RpL.cons (Rp.bool _ _) (RpL.cons HRZ7.out (RpL.nil _)))) (RpL.nil _))).mono ?_)
     first|rintro e w8 u8 rfl hb8 hu8|rintro e w8 ⟨u8,rfl,hb8,hu8⟩
     obtain rfl:=Rp.int_inv hu8;have HB8:=ζ (BT HB7.out hb8);have HBD8:=ζ (Dp HBD7.out hb8);clear hb8 hu8 x3 x4
     go_wp2_with (go_at_call 191;refine(EZ w1.heap.size w1.heap.size (FM [] (items.take k)) (itx) (decide (sg<0)) _ HBD8.out HLEN.out (AqS (ArW HLW.out) HB8.out.size)).mono ?_)
     first|rintro e w9 rfl hd9 hb9 hk9|rintro e w9 ⟨rfl,hd9,hb9,hk9⟩
     have HD9:=ζ hd9;have HB9:=ζ (HB.out.trans ((HB8.out.mono (ArW HLW.out)).trans hb9));clear hd9 hb9 hk9
     go_wp2_with fail
     go_roundw
     case rel=>exact⟨k+1,hlt,by go_num,.inr (by have h:=HTK.out;(try simp only at h);rw[h,HNEG.out];exact HD9.out),HB9.out⟩
     case measure=>simp[intOf];omega
    .have hcb:(cm != 0)=U:=by simp[hc]
     subst hit;have hs:=HLEN.out;simp only[χ,ε]at hs;have s1:(Cw tx).size<=140737488355328:=by rw[OG];omega
     have s2:(Cw nm).size<=140737488355328:=by rw[OG];omega
     have hcat:Cw tx++⟨#[42]⟩++Cw nm=Cw (tx++42::nm):=by show Cw tx++Cw [42]++Cw nm=_;rw[Rl,Rl,List.append_assoc];rfl
     have HCAT:=ζ hcat;clear hs hcat
     go_wp2_with (go_at_call 190;refine(Bw (G _) gtext rfl _ [.agg #[.bool many.neg,.slice Am many.abs.length cm']] (RpL.cons HRM7.out (RpL.nil _))).mono ?_)
     first|rintro e wt ut rfl hbt hut|rintro e wt ⟨ut,rfl,hbt,hut⟩
     obtain rfl:=Rp.str_inv hut
     replace HB7:=ζ (BT HB7.out hbt)
     replace HBX7:=ζ (HBX7.out.call hbt)
     replace HRZ7:=ζ (HRZ7.out.below hbt)
     replace HBD7:=ζ (Dp HBD7.out hbt)
     clear hbt hut x1 x2 x3 x4;have x3:=HBX7.out.cell 1;have x4:=HBX7.out.cell 2;simp only[AqL,AqE,AqA]at x3 x4
     go_wp2_with fail
     simp only[HCAT.out]
     go_wp2_with (go_at_call 64;refine(Bw (G _) gsign rfl _ [.agg #[.bool pn_,.slice A' pa_.length cc']] (RpL.cons (Rp.agg (RpL.cons (Rp.bool _ _) (RpL.cons HRZ7.out (RpL.nil _)))) (RpL.nil _))).mono ?_)
     first|rintro e w8 u8 rfl hb8 hu8|rintro e w8 ⟨u8,rfl,hb8,hu8⟩
     obtain rfl:=Rp.int_inv hu8;have HB8:=ζ (BT HB7.out hb8);have HBD8:=ζ (Dp HBD7.out hb8);clear hb8 hu8 x3 x4
     go_wp2_with (go_at_call 191;refine(EZ w1.heap.size w1.heap.size (FM [] (items.take k)) (tx++42::nm) (decide (sg<0)) _ HBD8.out HLEN.out (AqS (ArW HLW.out) HB8.out.size)).mono ?_)
     first|rintro e w9 rfl hd9 hb9 hk9|rintro e w9 ⟨rfl,hd9,hb9,hk9⟩
     have HD9:=ζ hd9;have HB9:=ζ (HB.out.trans ((HB8.out.mono (ArW HLW.out)).trans hb9));clear hd9 hb9 hk9
     go_wp2_with fail
     go_roundw
     case rel=>exact⟨k+1,hlt,by go_num,.inr (by have h:=HTK.out;(try simp only at h);rw[h,HNEG.out];exact HD9.out),HB9.out⟩
     case measure=>simp[intOf];omega
  .obtain rfl:k=ps.length:=by omega
   have z1:¬ (ps.length:Int)<(ps.length:Int):=by omega
   have HBX:=ζ (HB2.out.below HB.out (HBX.out.lt));have hra:Rp wr (eN kz.abs) (.slice A2 kz.abs.length ca2):=Rep.plain _ _ rfl (Rep.later (μ':=μ') ⟨λ_ _ h=>h,λg o hg=>⟨hg,HB.out.cell (p:=⟨g,o,Θ⟩) (HF1.out g o hg)⟩⟩ _ _ RA.out);have HRK:=ζ (Rp.agg (RpL.cons (Rp.bool wr kz.neg) (RpL.cons hra (RpL.nil _))));have HBD:=HBLD.out;rw[←l0',List.take_length]at HBD;have HBD:=ζ HBD;have HLW:=ζ (HBLD.out.elim Lib.BuilderAt.lt Lib.BuilderAt.lt);have HBW:=ζ (HBW.out.trans (HB.out.mono HB1.out.size));clear hra HBLD RP RA HB2 HB;have x0:=HBX.out.cell 0;have x1:=HBX.out.cell 1;have x2:=HBX.out.cell 2;simp only[Aru,ArT,ArS,AqL,AqE,AqA]at x0 x1 x2;obtain⟨s,gsign,htext⟩:=hK;rcases htext with⟨hs0,hp0,hfin⟩|⟨hp,many,tx,gabs,gtext,hfin,hlen⟩
   .subst hs0
    have z2:((ps.length:Int) == 0)=Ξ:=by
     have:=As8.2 hp0;simp;omega
    go_wp2_with (go_at_call 64;refine(Bw (G _) gsign rfl _ [.agg #[.bool kz.neg,.slice A2 kz.abs.length ca2]] (RpL.cons HRK.out (RpL.nil _))).mono ?_)
    first|rintro e w8 u8 rfl hb8 hu8|rintro e w8 ⟨u8,rfl,hb8,hu8⟩
    obtain rfl:=Rp.int_inv hu8;have HBD8:=ζ (Dp HBD.out hb8);have HB8:=ζ (HBW.out.trans (hb8.mono (AqS HB1.out.size (ArW HLW.out))));have HZ8:=ζ (AqS (ArW HLW.out) hb8.size)
    replace HBX:=ζ (HBX.out.call hb8)
    clear hb8 hu8 x0 x1 x2;have x0:=HBX.out.cell 0;simp only[Aru,ArT,ArS,AqL,AqE,AqA]at x0
    go_wp2_with (go_at_call 192;refine(Tryz.Builder_String_any w1.heap.size _ _ _ HBD8.out HZ8.out).mono ?_)
    first|rintro e w9 rfl hb9|rintro e w9 ⟨rfl,hb9⟩
    have HB9:=ζ (HB8.out.trans (hb9.mono HB1.out.size));clear hb9
    go_wp2
    go_ret
    subst hfin;exact⟨rfl,HB9.out⟩
   .subst hfin
    have HLEN:=ζ hlen;clear hlen
    by_cases hs:s=0
    .obtain rfl:ps=[]:=by rcases hp with h|h;exact absurd hs h;exact h
     subst hs;have z2:((([]:List Pt).length:Int) == 0)=U:=rfl
     go_wp2_with (go_at_call 64;refine(Bw (G _) gsign rfl _ [.agg #[.bool kz.neg,.slice A2 kz.abs.length ca2]] (RpL.cons HRK.out (RpL.nil _))).mono ?_)
     first|rintro e w8 u8 rfl hb8 hu8|rintro e w8 ⟨u8,rfl,hb8,hu8⟩
     obtain rfl:=Rp.int_inv hu8;have HBD8:=ζ (Dp HBD.out hb8);have HB8:=ζ (HBW.out.trans (hb8.mono (AqS HB1.out.size (ArW HLW.out))));have HZ8:=ζ (AqS (ArW HLW.out) hb8.size)
     replace HBX:=ζ (HBX.out.call hb8)
     replace HRK:=ζ (HRK.out.below hb8)
     clear hb8 hu8 x0 x1 x2;have x0:=HBX.out.cell 0;have x1:=HBX.out.cell 1;have x2:=HBX.out.cell 2;simp only[Aru,ArT,ArS,AqL,AqE,AqA]at x0 x1 x2
     go_wp2_with fail
     go_region_with (first
      | (go_at_call 64
         refine(Bw (G _) gsign rfl _ [.agg #[.bool kz.neg,.slice A2 kz.abs.length ca2]] (RpL.cons (HRK.out.below (Below.refl _ _).drew) (RpL.nil _))).mono ?_;rintro e w9 ⟨u9,rfl,hb9,hu9⟩
         replace hb9:=FU hb9
         obtain rfl:=Rp.int_inv hu9;have x1:=(HBX.out.call hb9).cell 1;have x2:=(HBX.out.call hb9).cell 2;have x3:=(HBX.out.call hb9).lt;simp only[Aru,ArT,ArS,AqL,AqE,AqA]at x1 x2)
      | (go_at_call 189
         refine(Bw (G _) gabs rfl _ [.agg #[.bool kz.neg,.slice A2 kz.abs.length ca2]] (RpL.cons (HRK.out.below hb9) (RpL.nil _))).mono ?_;rintro e wa ⟨ua,rfl,hba,hua⟩;obtain⟨usa,rfl,hul⟩:=Rp.agg_inv hua)
      | (go_at_call 190
         refine(Bw (G _) gtext rfl _ [.agg usa.toArray] (RpL.cons (Rp.agg hul) (RpL.nil _))).mono ?_;rintro e wt ⟨ut,rfl,hbt,hut⟩;obtain rfl:=Rp.str_inv hut;have hx:Below w8.heap.size w8 wt:=BT (BT hb9 hba) hbt;have hz:Art 180 5 w1.heap.size w1.heap.size (Arg (FM [] items)) wt:=Dp HBD8.out hx;have hs:w1.heap.size<=wt.heap.size:=AqS HZ8.out hx.size;have HX:=ζ hx;have HZ:=ζ hz;have HS:=ζ hs;clear hx hz hs hb9 hba hbt x1 x2)
      | (go_at_call 191
         refine(EZ w1.heap.size w1.heap.size (FM [] items) tx Ξ wt HZ.out HLEN.out HS.out).mono ?_;rintro e wz ⟨rfl,hdz,hbz,hkz⟩))
     all_goals
      have HDZ:=ζ hdz;have hx2:Below w.heap.size w8 wt:=HX.out.mono (AqS HB1.out.size HZ8.out);have hx3:Below w.heap.size wt wz:=hbz.mono HB1.out.size;have hx4:Below w.heap.size w wz:=HB8.out.trans (hx2.trans hx3);have HBZ:=ζ hx4;have HZZ:=ζ (AqS HS.out hbz.size);clear hdz hbz hkz hx2 hx3 hx4
      go_wp2_with (go_at_call 192;refine(Tryz.Builder_String_any w1.heap.size _ (Gn (FM [] items) Ξ tx) _ (.inr HDZ.out) HZZ.out).mono ?_)
      first|rintro e wq rfl hbq|rintro e wq ⟨rfl,hbq⟩
      have HBQ:=ζ (HBZ.out.trans (hbq.mono HB1.out.size));clear hbq
      go_wp2
      go_ret
      exact⟨rfl,HBQ.out⟩
    .have z2:(s != 0)=U:=by simp[hs]
     go_wp2_with (go_at_call 64;refine(Bw (G _) gsign rfl _ [.agg #[.bool kz.neg,.slice A2 kz.abs.length ca2]] (RpL.cons HRK.out (RpL.nil _))).mono ?_)
     first|rintro e w8 u8 rfl hb8 hu8|rintro e w8 ⟨u8,rfl,hb8,hu8⟩
     obtain rfl:=Rp.int_inv hu8;have HBD8:=ζ (Dp HBD.out hb8);have HB8:=ζ (HBW.out.trans (hb8.mono (AqS HB1.out.size (ArW HLW.out))));have HZ8:=ζ (AqS (ArW HLW.out) hb8.size)
     replace HBX:=ζ (HBX.out.call hb8)
     replace HRK:=ζ (HRK.out.below hb8)
     clear hb8 hu8 x0 x1 x2;have x0:=HBX.out.cell 0;have x1:=HBX.out.cell 1;have x2:=HBX.out.cell 2;simp only[Aru,ArT,ArS,AqL,AqE,AqA]at x0 x1 x2
     go_wp2_with fail
     go_region_with (first
      | (go_at_call 64
         refine(Bw (G _) gsign rfl _ [.agg #[.bool kz.neg,.slice A2 kz.abs.length ca2]] (RpL.cons (HRK.out.below (Below.refl _ _).drew) (RpL.nil _))).mono ?_;rintro e w9 ⟨u9,rfl,hb9,hu9⟩
         replace hb9:=FU hb9
         obtain rfl:=Rp.int_inv hu9;have x1:=(HBX.out.call hb9).cell 1;have x2:=(HBX.out.call hb9).cell 2;have x3:=(HBX.out.call hb9).lt;simp only[Aru,ArT,ArS,AqL,AqE,AqA]at x1 x2)
      | (go_at_call 189
         refine(Bw (G _) gabs rfl _ [.agg #[.bool kz.neg,.slice A2 kz.abs.length ca2]] (RpL.cons (HRK.out.below hb9) (RpL.nil _))).mono ?_;rintro e wa ⟨ua,rfl,hba,hua⟩;obtain⟨usa,rfl,hul⟩:=Rp.agg_inv hua)
      | (go_at_call 190
         refine(Bw (G _) gtext rfl _ [.agg usa.toArray] (RpL.cons (Rp.agg hul) (RpL.nil _))).mono ?_;rintro e wt ⟨ut,rfl,hbt,hut⟩;obtain rfl:=Rp.str_inv hut;have hx:Below w8.heap.size w8 wt:=BT (BT hb9 hba) hbt;have hz:Art 180 5 w1.heap.size w1.heap.size (Arg (FM [] items)) wt:=Dp HBD8.out hx;have hs:w1.heap.size<=wt.heap.size:=AqS HZ8.out hx.size;have HX:=ζ hx;have HZ:=ζ hz;have HS:=ζ hs;clear hx hz hs hb9 hba hbt x1 x2)
      | (go_at_call 191
         refine(EZ w1.heap.size w1.heap.size (FM [] items) tx (decide (s<0)) wt HZ.out HLEN.out HS.out).mono ?_;rintro e wz ⟨rfl,hdz,hbz,hkz⟩))
     all_goals
      have HDZ:=ζ hdz;have hx2:Below w.heap.size w8 wt:=HX.out.mono (AqS HB1.out.size HZ8.out);have hx3:Below w.heap.size wt wz:=hbz.mono HB1.out.size;have hx4:Below w.heap.size w wz:=HB8.out.trans (hx2.trans hx3);have HBZ:=ζ hx4;have HZZ:=ζ (AqS HS.out hbz.size);clear hdz hbz hkz hx2 hx3 hx4
      go_wp2_with (go_at_call 192;refine(Tryz.Builder_String_any w1.heap.size _ (Gn (FM [] items) (decide (s<0)) tx) _ (.inr HDZ.out) HZZ.out).mono ?_)
      first|rintro e wq rfl hbq|rintro e wq ⟨rfl,hbq⟩
      have HBQ:=ζ (HBZ.out.trans (hbq.mono HB1.out.size));clear hbq
      go_wp2
      go_ret
      exact⟨rfl,HBQ.out⟩
def Gc:List (List AV)->Option (List Nat)
 |[]=>Δ []
 |[.v (.int .u32 (.ofNat n))]::r=>(match Gc r with
  |some l=>Δ (n::l)
  |none=>Θ)
 |_::_=>Θ
theorem ET:∀{xs:List (List AV)} {l:List Nat},Gc xs=Δ l->xs=l.map eL
 |[],l,h=>by injection h with h;subst h;rfl
 |x::r,l,h=>by
  unfold Gc at h;split at h
  .rename_i e;cases e
  .rename_i n r' e
   cases hr:Gc r' with
   |none=>rw[hr]at h;cases h
   |some l'=>
    rw[hr]at h;injection h with h
    injection e with e1 e2
    subst h e1 e2;rw[ET hr];rfl
  .cases h
def ziO:List AV->Option Zi
 |[.v (.bool n),.ls xs]=>(match Gc xs with
  |some l=>Δ ⟨n,l⟩
  |none=>Θ)
 |_=>Θ
theorem AbM{xs:List AV}{z:Zi}(h:ziO xs=Δ z):xs=eZ z:=by
 unfold ziO at h;split at h
 .rename_i n ys
  cases hr:Gc ys with
  |none=>rw[hr]at h;cases h
  |some l=>
   rw[hr]at h;injection h with h
   subst h;rw[ET hr];rfl
 .cases h
def ptO:List AV->Option Pt
 |[.v (.int .i64 v),.v (.bool n),.ls xs]=>(match Gc xs with
  |some l=>Δ ⟨v,⟨n,l⟩⟩
  |none=>Θ)
 |_=>Θ
theorem Aal{xs:List AV}{p:Pt}(h:ptO xs=Δ p):xs=eP p:=by
 unfold ptO at h;split at h
 .rename_i v n ys
  cases hr:Gc ys with
  |none=>rw[hr]at h;cases h
  |some l=>
   rw[hr]at h;injection h with h
   subst h;rw[ET hr];rfl
 .cases h
def Agc:List (List AV)->Option (List Pt)
 |[]=>Δ []
 |x::r=>(match ptO x,Agc r with
  |some p,Δ l=>Δ (p::l)
  |_,_=>Θ)
theorem Pk:∀{xs:List (List AV)} {l:List Pt},Agc xs=Δ l->xs=l.map eP
 |[],l,h=>by injection h with h;subst h;rfl
 |x::r,l,h=>by
  unfold Agc at h;split at h
  .rename_i p l' h1 h2
   injection h with h
   subst h;rw[AqF,←Aal h1,←Pk h2]
  .cases h
def tmO:List AV->Option Tm
 |[.ls ps,.v (.bool n),.ls xs]=>(match Agc ps,Gc xs with
  |some ps,Δ l=>Δ ⟨ps,⟨n,l⟩⟩
  |_,_=>Θ)
 |_=>Θ
theorem Abo{xs:List AV}{t:Tm}(h:tmO xs=Δ t):xs=eT t:=by
 unfold tmO at h;split at h
 .split at h
  .rename_i ps l h1 h2
   injection h with h
   subst h;rw[Pk h1,ET h2];rfl
  .cases h
 .cases h
def Ym:Option (AV × List BO)->Option Zi
 |some (.agg cs,[])=>ziO cs
 |_=>Θ
theorem HD{o:Option (AV × List BO)}{z:Zi}(h:Ym o=Δ z):o=Δ (.agg (eZ z),[]):=by
 unfold Ym at h;split at h
 .rw[AbM h]
 .cases h
def V7:Option (AV × List BO)->Option Int
 |some (.v (.int .i64 n),[])=>Δ n
 |_=>Θ
theorem CS{o:Option (AV × List BO)}{n:Int}(h:V7 o=Δ n):o=Δ (iv n,[]):=by
 unfold V7 at h;split at h
 .injection h with h;rw[h];rfl
 .cases h
def Yl:Option (AV × List BO)->Option (List UInt8)
 |some (.v (.string s),[])=>Δ s.data.toList
 |_=>Θ
theorem Hz{o:Option (AV × List BO)}{l:List UInt8}(h:Yl o=Δ l):o=Δ (sv (Cw l),[]):=by
 unfold Yl at h;split at h
 .injection h with h;subst h;rfl
 .cases h
section
variable (dq:Nat->DF)
def Aaj(names:AV)(one:Zi)(p:Pt):Option (Bool × List UInt8):=match Yl (dq 188 [iv p.v,names] []),Ym (dq 189 [.agg (eZ p.z)] []),V7 (dq 64 [.agg (eZ p.z)] []) with
 |some nm,Δ many,Δ s=>(match V7 (dq 155 [.agg (eZ many),.agg (eZ one)] []) with
  |some c=>(match decide (c=0) with
   |true=>Δ (decide (s<0),nm)
   |false=>(match Yl (dq 190 [.agg (eZ many)] []) with
    |some tx=>Δ (decide (s<0),tx++42::nm)
    |none=>Θ))
  |none=>Θ)
 |_,_,_=>Θ
theorem Uw{names:AV}{one:Zi}{p:Pt}{it:Bool × List UInt8}(h:Aaj dq names one p=Δ it):Nonempty (PartH dq names one p it):=by
 unfold Aaj at h;split at h
 .rename_i nm many s h1 h2 h3
  split at h
  .rename_i c h4
   split at h
   .rename_i hc
    injection h with h
    subst h;exact⟨⟨nm,many,c,s,Hz h1,HD h2,CS h4,CS h3,rfl,.inl ⟨of_decide_eq_true hc,rfl⟩⟩⟩
   .rename_i hc
    split at h
    .rename_i tx h5
     injection h with h
     subst h;exact⟨⟨nm,many,c,s,Hz h1,HD h2,CS h4,CS h3,rfl,.inr ⟨of_decide_eq_false hc,tx,Hz h5,rfl⟩⟩⟩
    .cases h
  .cases h
 .cases h
def Qi(names:AV)(one:Zi):List Pt->Option (List (Bool × List UInt8))
 |[]=>Δ []
 |p::r=>(match Aaj dq names one p,Qi names one r with
  |some i,Δ l=>Δ (i::l)
  |_,_=>Θ)
theorem Lv{names:AV}{one:Zi}:∀{ps:List Pt} {items:List (Bool × List UInt8)},Qi dq names one ps=Δ items->items.length=ps.length/\∀ i (h:i<ps.length) (h':i<items.length),Nonempty (PartH dq names one ps[i] items[i])
 |[],items,h=>by
  injection h with h
  subst h;exact⟨rfl,λi h=>absurd h (Atv _)⟩
 |p::r,items,h=>by
  unfold Qi at h;split at h
  .rename_i it l h1 h2
   injection h with h
   subst h;obtain⟨hl,hp⟩:=Lv h2;refine⟨by rw[ε,ε,hl],λi hi hi'=>?_⟩
   cases i with
   |zero=>exact Uw dq h1
   |succ i=>exact hp i (by simpa using hi) (by simpa using hi')
  .cases h
def kiO(ps:List Pt)(kz:Zi)(l:List UInt8):Option (List UInt8):=match V7 (dq 64 [.agg (eZ kz)] []) with
 |some s=>(match decide (s=0)&&!ps.isEmpty with
  |true=>Δ l
  |false=>(match Ym (dq 189 [.agg (eZ kz)] []) with
   |some many=>(match Yl (dq 190 [.agg (eZ many)] []) with
    |some tx=>(match Nat.ble (l.length+3+tx.length) 140737488355328 with
     |true=>Δ (Gn l (decide (s<0)) tx)
     |false=>Θ)
    |none=>Θ)
   |none=>Θ))
 |none=>Θ
theorem ZN{ps:List Pt}{kz:Zi}{l fin:List UInt8}(h:kiO dq ps kz l=Δ fin):Nonempty (KiH dq ps kz l fin):=by
 unfold kiO at h;split at h
 .rename_i s h1
  split at h
  .rename_i hc
   injection h with h
   subst h;simp only[Aqr,decide_eq_true_eq,Bool.not_eq_true',List.isEmpty_eq_false_iff]at hc;exact⟨⟨s,CS h1,.inl ⟨hc.1,hc.2,rfl⟩⟩⟩
  .rename_i hc
   split at h
   .rename_i many h2
    split at h
    .rename_i tx h3
     split at h
     .rename_i hl
      injection h with h
      subst h;refine⟨⟨s,CS h1,.inr ⟨?_,many,tx,HD h2,Hz h3,rfl,Ark hl⟩⟩⟩;rcases Bool.and_eq_false_iff.1 hc with hc|hc
      .exact .inl (of_decide_eq_false hc)
      .exact .inr (by simpa using hc)
     .cases h
    .cases h
   .cases h
 .cases h
def Q5:List (Bool × List UInt8)->Nat
 |[]=>0
 |it::r=>it.2.length+3+Q5 r
theorem Aa2(l:List UInt8)(neg:Bool)(tx:List UInt8):(Gn l neg tx).length<=l.length+3+tx.length:=by
 unfold Gn XD;rw[χ,χ];have:(if l=[] then(if neg then [45] else []) else if neg then [32,45,32] else [32,43,32]:List UInt8).length<=3:=by
  repeat' split
  all_goals decide
 omega
theorem S7:∀(items:List (Bool × List UInt8)) (l:List UInt8),(FM l items).length<=l.length+Q5 items
 |[],l=>by unfold FM Q5;exact ω _
 |it::r,l=>by
  have h1:=S7 r (Gn l it.1 it.2);have h2:=Aa2 l it.1 it.2;have h3:FM l (it::r)=FM (Gn l it.1 it.2) r:=rfl;rw[h3];unfold Q5;omega
theorem PE:∀(items:List (Bool × List UInt8)) (i:Nat) (h:i<items.length),Q5 (items.take i)+3+items[i].2.length<=Q5 items
 |[],i,h=>absurd h (Atv _)
 |it::r,0,h=>by simp only[List.take_zero,Q5,List.getElem_cons_zero];omega
 |it::r,i+1,h=>by
  have:=PE r i (by simpa using h);simp only[List.take_succ_cons,Q5,List.getElem_cons_succ];omega
def Mn:List AV->Option AV
 |[.agg [t0,t1,t2],names]=>(match AA [t0,t1,t2,names]with
  |true=>(match dq 62 [.agg [t0,t1,t2]] []with
   |some (.agg cs,[])=>(match tmO cs,Ym (dq 126 [iv 1] []) with
    |some t,Δ one=>(match Qi dq names one t.ps with
     |some items=>(match Nat.ble (Q5 items) 140737488355328 with
      |true=>(match kiO dq t.ps t.k (FM [] items) with
       |some fin=>Δ (sv (Cw fin))
       |none=>Θ)
      |false=>Θ)
     |none=>Θ)
    |_,_=>Θ)
   |_=>Θ)
  |false=>Θ)
 |_=>Θ
theorem XL(G:∀ f,AN (AT η f) (dq f)):AN (AT η 130) (CA (Mn dq)):=by
 refine RO (B8 _ _) _ λargs r hr μ F w us hus=>?_
 unfold Mn at hr;split at hr
 .rename_i t0 t1 t2 names
  split at hr
  .rename_i hn
   split at hr
   .rename_i cs hP
    split at hr
    .rename_i t one h1 h2
     split at hr
     .rename_i items h3
      split at hr
      .rename_i h4
       split at hr
       .rename_i fin h5
        injection hr with hr
        subst hr;simp only[AA,Aqr]at hn;obtain⟨n0,n1,n2,n3,_⟩:=hn;obtain⟨hl,hi⟩:=Lv dq h3;simp only[RepList]at hus;obtain⟨u,ul,rfl,hu,u2,ul2,rfl,hu2,rfl⟩:=hus;simp only[Rep]at hu;obtain⟨us3,rfl,hu⟩:=hu;obtain⟨us3⟩:=us3;simp only[RepList]at hu;obtain⟨v0,l0,e0,r0,v1,l1,e1,r1,v2,l2,e2,r2,e3⟩:=hu;subst e3 e2 e1;have e0:us3=[v0,v1,v2]:=e0;subst e0;rw[Abo h1]at hP;refine Calls.mono (Q2 dq G t0 t1 t2 names t.ps t.k one items hl hP (HD h2) (λi h=>Classical.choice (hi i h (by omega))) (λi h=>?_) fin (Classical.choice (ZN dq h5)) w v0 v1 v2 u2 (Rep.plain _ _ n0 r0) (Rep.plain _ _ n1 r1) (Rep.plain _ _ n2 r2) (Rep.plain _ _ n3 hu2)) ?_
        .have q1:=PE items i (by omega)
         have q2:=S7 (items.take i) [];have q3:=Ark h4;simp only[Aq8,Nat.zero_add]at q2;omega
        .rintro e w' ⟨rfl,hb⟩
         refine⟨_,rfl,hb,?_⟩;unfold sv Cw;simp only[Rep];exact⟨trivial,rfl⟩
       .cases hr
      .cases hr
     .cases hr
    .cases hr
   .cases hr
  .cases hr
 .cases hr
end
def rlO:List AV->Option RlA
 |[.ls ps,.v (.bool kn),.ls ka,.v (.bool eq)]=>Δ ⟨ps,kn,ka,eq⟩
 |_=>Θ
theorem NL{x:List AV}{r:RlA}(h:rlO x=Δ r):x=r.c:=by
 unfold rlO at h;split at h
 .injection h with h;subst h;rfl
 .cases h
def Aaz:List (List AV)->Option (List RlA)
 |[]=>Δ []
 |x::r=>(match rlO x,Aaz r with
  |some p,Δ l=>Δ (p::l)
  |_,_=>Θ)
theorem KT:∀{xs:List (List AV)} {l:List RlA},Aaz xs=Δ l->xs=l.map RlA.c
 |[],l,h=>by injection h with h;subst h;rfl
 |x::r,l,h=>by
  unfold Aaz at h;split at h
  .rename_i p l' h1 h2
   injection h with h
   subst h;rw[AqF,←NL h1,←KT h2]
  .cases h
section
variable (dq:Nat->DF)
def AbW:Option (AV × List BO)->Option Bool
 |some (.v (.bool b),[])=>Δ b
 |_=>Θ
theorem V6{o:Option (AV × List BO)}{b:Bool}(h:AbW o=Δ b):o=Δ (bv b,[]):=by
 unfold AbW at h;split at h
 .injection h with h;rw[h];rfl
 .cases h
def XE(p z:List AV):Bool:=(AbW (dq 213 [.agg (z.take 3),.agg p] [])).getD Ξ
def AkX(p:List AV)(ls:List (List AV)):Bool:=ls.all λz=>(AbW (dq 213 [.agg (z.take 3),.agg p] [])).isSome
theorem UM{p:List AV}{ls:List (List AV)}(h:AkX dq p ls=U):∀ z∈ls,dq 213 [.agg (z.take 3),.agg p] []=Δ (bv (XE dq p z),[]):=λz hz=>by
 have:=List.all_eq_true.1 h z hz;obtain⟨b,hb⟩:=Option.isSome_iff_exists.1 this;unfold XE;rw[hb];exact V6 hb
def Sr:Option (AV × List BO)->Option (List AV)
 |some (.tup [],[.set ⟨y,U,Ξ⟩])=>(match y.all GD&&Nat.beq y.length 9 with
  |true=>Δ y
  |false=>Θ)
 |_=>Θ
theorem IY{o:Option (AV × List BO)}{y:List AV}(h:Sr o=Δ y):o=Δ (.tup [],[.set ⟨y,U,Ξ⟩])/\y.all GD=U/\y.length=9:=by
 unfold Sr at h;split at h
 .split at h
  .rename_i hc
   injection h with h
   subst h;rw[Aqr]at hc;exact⟨rfl,hc.1,AqG hc.2⟩
  .cases h
 .cases h
def Z9(ls:List (List AV))(r:RlA):Option (List (List AV)):=match dq 125 [.agg [bv r.kn,.ls r.ka]] []with
 |some (.agg [.ls k0,.v (.bool k1),.ls k2],[])=>(match dq 127 [.agg [.ls r.ps,bv r.kn,.ls r.ka],.agg [.ls k0,bv k1,.ls k2]] []with
  |some (.agg [.ls ([c0,.v (.bool c1),.ls c2]::row),.v (.bool d1),.ls d2],[])=>(match V7 (dq 64 [.agg [bv c1,.ls c2]] []) with
   |some s=>(match decide (0<s) with
    |true=>(match AkX dq [.ls ([c0,bv c1,.ls c2]::row),bv d1,.ls d2] ls,dq 161 [.agg [bv r.kn,.ls r.ka]] [],(Ex (XE dq [.ls ([c0,bv c1,.ls c2]::row),bv d1,.ls d2]) ls ([.ls ([c0,bv c1,.ls c2]::row),bv d1,.ls d2]++ED))[ls.findIdx (XE dq [.ls ([c0,bv c1,.ls c2]::row),bv d1,.ls d2])]? with
     |true,Δ (.agg [.v (.bool n0),.ls n1],[]),Δ x=>(match Sr (dq 160 [.ptr 0 0,.agg [bv n0,.ls n1]] [⟨x,U,Ξ⟩]) with
      |some y=>(match r.eq with
       |false=>Δ ((Ex (XE dq [.ls ([c0,bv c1,.ls c2]::row),bv d1,.ls d2]) ls ([.ls ([c0,bv c1,.ls c2]::row),bv d1,.ls d2]++ED)).set (ls.findIdx (XE dq [.ls ([c0,bv c1,.ls c2]::row),bv d1,.ls d2])) y)
       |true=>(match Sr (dq 162 [.ptr 0 0,.agg [bv n0,.ls n1]] [⟨y,U,Ξ⟩]) with
        |some z=>Δ (((Ex (XE dq [.ls ([c0,bv c1,.ls c2]::row),bv d1,.ls d2]) ls ([.ls ([c0,bv c1,.ls c2]::row),bv d1,.ls d2]++ED)).set (ls.findIdx (XE dq [.ls ([c0,bv c1,.ls c2]::row),bv d1,.ls d2])) y).set (ls.findIdx (XE dq [.ls ([c0,bv c1,.ls c2]::row),bv d1,.ls d2])) z)
        |none=>Θ))
      |none=>Θ)
     |_,_,_=>Θ)
    |false=>(match dq 68 [.agg [.ls ([c0,bv c1,.ls c2]::row),bv d1,.ls d2]] []with
     |some (.agg [.ls q0,.v (.bool q1),.ls q2],[])=>(match AkX dq [.ls q0,bv q1,.ls q2] ls,(Ex (XE dq [.ls q0,bv q1,.ls q2]) ls ([.ls q0,bv q1,.ls q2]++ED))[ls.findIdx (XE dq [.ls q0,bv q1,.ls q2])]? with
      |true,Δ x=>(match Sr (dq 162 [.ptr 0 0,.agg [bv r.kn,.ls r.ka]] [⟨x,U,Ξ⟩]) with
       |some y=>Δ ((Ex (XE dq [.ls q0,bv q1,.ls q2]) ls ([.ls q0,bv q1,.ls q2]++ED)).set (ls.findIdx (XE dq [.ls q0,bv q1,.ls q2])) y)
       |none=>Θ)
      |_,_=>Θ)
     |_=>Θ))
   |none=>Θ)
  |_=>Θ)
 |_=>Θ
theorem Ur{ls:List (List AV)}{r:RlA}{ls':List (List AV)}(h:Z9 dq ls r=Δ ls'):Nonempty (NoteH dq ls r.ps r.kn r.ka r.eq ls'):=by
 unfold Z9 at h;split at h
 .rename_i k0 k1 k2 h1
  split at h
  .rename_i c0 c1 c2 row d1 d2 h2
   split at h
   .rename_i s h3
    split at h
    .rename_i hs
     split at h
     .rename_i n0 n1 x h4 h5 h6
      split at h
      .rename_i y h7
       obtain⟨g1,g2,g3⟩:=IY h7;split at h
       .rename_i he
        injection h with h
        subst h;exact⟨⟨k0,k1,k2,c0,c1,c2,row,d1,d2,s,h1,h2,CS h3,.inl ⟨of_decide_eq_true hs,_,n0,n1,x,y,UM dq h4,h5,h6,g1,g2,g3,.inl ⟨he,rfl⟩⟩⟩⟩
       .rename_i he
        split at h
        .rename_i z h8
         obtain⟨g4,g5,g6⟩:=IY h8;injection h with h
         subst h;exact⟨⟨k0,k1,k2,c0,c1,c2,row,d1,d2,s,h1,h2,CS h3,.inl ⟨of_decide_eq_true hs,_,n0,n1,x,y,UM dq h4,h5,h6,g1,g2,g3,.inr ⟨he,z,g4,g5,g6,rfl⟩⟩⟩⟩
        .cases h
      .cases h
     .cases h
    .rename_i hs
     split at h
     .rename_i q0 q1 q2 h4
      split at h
      .rename_i x h5 h6
       split at h
       .rename_i y h7
        obtain⟨g1,g2,g3⟩:=IY h7;injection h with h
        subst h;exact⟨⟨k0,k1,k2,c0,c1,c2,row,d1,d2,s,h1,h2,CS h3,.inr ⟨of_decide_eq_false hs,_,q0,q1,q2,x,y,h4,UM dq h5,h6,g1,g2,g3,rfl⟩⟩⟩
       .cases h
      .cases h
     .cases h
   .cases h
  .cases h
 .cases h
def AiP:Option (AV × List BO)->Option (RlA × Int)
 |some (.tup [.agg cs,.v (.int .i64 k)],[])=>(match rlO cs with
  |some r=>Δ (r,k)
  |none=>Θ)
 |_=>Θ
theorem V8{o:Option (AV × List BO)}{r:RlA}{k:Int}(h:AiP o=Δ (r,k)):o=Δ (.tup [.agg r.c,iv k],[]):=by
 unfold AiP at h;split at h
 .split at h
  .rename_i hr
   injection h with h
   injection h with h1 h2
   subst h1 h2;rw[NL hr];rfl
  .cases h
 .cases h
def SN:List RlA->List (List AV)->Option (Option (List (List AV)))
 |[],ls=>Δ (Δ ls)
 |r::rs,ls=>(match AiP (dq 17 [.agg r.c] []) with
  |some (r',k)=>(match decide (k=-1),decide (k=0) with
   |true,_=>Δ Θ
   |false,U=>(match Z9 dq ls r' with
    |some ls'=>SN rs ls'
    |none=>Θ)
   |false,Ξ=>SN rs ls)
  |none=>Θ)
theorem EE:∀{rs:List RlA} {ls:List (List AV)} {o:Option (List (List AV))},SN dq rs ls=Δ o->Run1 dq rs ls o
 |[],ls,o,h=>by
  injection h with h
  subst h;exact .nil ls
 |r::rs,ls,o,h=>by
  unfold SN at h;split at h
  .rename_i r' k ht
   have ht:=V8 ht;split at h
   .rename_i hk
    have:=of_decide_eq_true hk;subst this;injection h with h
    subst h;exact .never r r' rs ls ht
   .rename_i hk h0
    have:=of_decide_eq_true h0;subst this;split at h
    .rename_i ls' hn
     exact .note r r' rs ls ls' o ht (Ur dq hn) (EE h)
    .cases h
   .rename_i hk h0
    exact .skip r r' rs ls k o ht (of_decide_eq_false hk) (of_decide_eq_false h0) (EE h)
  .cases h
def AiO:Option (AV × List BO)->Option (List RlA × Bool × List AV)
 |some (.tup [.ls more,.v (.bool ok)],[.set ⟨y,U,Ξ⟩])=>(match Aaz more,y.all GD&&Nat.beq y.length 9 with
  |some ms,U=>Δ (ms,ok,y)
  |_,_=>Θ)
 |_=>Θ
theorem J9{o:Option (AV × List BO)}{ms:List RlA}{ok:Bool}{y:List AV}(h:AiO o=Δ (ms,ok,y)):o=Δ (.tup [.ls (ms.map RlA.c),bv ok],[.set ⟨y,U,Ξ⟩])/\y.all GD=U/\y.length=9:=by
 unfold AiO at h;split at h
 .split at h
  .rename_i hr hc
   injection h with h
   injection h with h1 h
   injection h with h2 h3
   subst h1 h2 h3;rw[Aqr]at hc;rw[KT hr];exact⟨rfl,hc.1,AqG hc.2⟩
  .cases h
 .cases h
def SO:List (List AV)->List RlA->Option (Option (List RlA))
 |[],out=>Δ (Δ out)
 |x::xs,out=>(match AiO (dq 89 [.ptr 0 0] [⟨x,U,Ξ⟩]) with
  |some (_,Ξ,_)=>Δ Θ
  |some ([m0],U,_)=>SO xs (out++[m0])
  |some ([m0,m1],U,_)=>SO xs (out++[m0,m1])
  |_=>Θ)
theorem Gk:∀{xs:List (List AV)} {out:List RlA} {o:Option (List RlA)},SO dq xs out=Δ o->Run2 dq xs out o
 |[],out,o,h=>by
  injection h with h
  subst h;exact .nil out
 |x::xs,out,o,h=>by
  unfold SO at h;split at h
  .rename_i ms y ht
   obtain⟨g1,g2,g3⟩:=J9 ht;injection h with h
   subst h;exact .never x y xs out _ g1 g2 g3
  .rename_i m0 y ht
   obtain⟨g1,g2,g3⟩:=J9 ht;exact .go x y xs out m0 [] o g1 g2 g3 (by simp) (Gk h)
  .rename_i m0 m1 y ht
   obtain⟨g1,g2,g3⟩:=J9 ht;exact .go x y xs out m0 [m1] o g1 g2 g3 (by simp) (Gk h)
  .cases h
