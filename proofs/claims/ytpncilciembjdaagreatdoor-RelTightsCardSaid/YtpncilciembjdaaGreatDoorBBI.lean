/- strings.Builder's method -/
import Derived.Test.YtpncilciembjdaaGreatDoorBBH
import Derived.Shelf.Strings.Builder1
import Derived.Test.YtpncilciembjdaaGreatDoorBAO
set_option linter.all false
open Array renaming getElem?_eq_none->Aqg
open List renaming length_append->η,length_cons->π,length_nil->Aqk,size_toArray->AqB
open Nat renaming le_trans->Apx,lt_or_ge->Apw
open Option renaming map_eq_some_iff->Ar7
namespace Go.Proofs.YtpncilciembjdaaGreatDoor
open Lib renaming BuilderAt->Asf,IsBuilder->Aqn,byteCells->Aqa,byteCells_append->AqD,byteCells_length->Aqy,cell_of_heap->ArA,hid->Apb,strCells->AsW
open Tryz renaming prog->ψ
open Go.RowKit
theorem U5:(Tryz.prog.info? 5).map (λi=>(i.zero,i.size,i.bytes))=some (some (.int .u8 0),1,1):=by kernel_rfl
theorem Qb:(Tryz.prog.info? 180).map (·.size)=some 2:=by kernel_rfl
theorem WV:liesAt ψ Tryz.prog.depth 180 (2 / Tryz.prog.cellsOf 180) 0 180 1=true:=by kernel_rfl
set_option maxHeartbeats 1000000 in
set_option maxRecDepth 100000 in
theorem LY(b:Nat)(w:World)(h0:w.cell? ⟨b,0,none⟩=some (.pointer (some ⟨b,0,none⟩))) :
  Calls ψ 250 #[.pointer (some ⟨b,0,none⟩)] w λe w'=>e=.returned (.tuple #[])/\w'=w:=by
 obtain⟨j,hj,_⟩:=Ar7.1 Qb
 go_enter Tryz.func250,Tryz.ntmps250
 go_wp2
 rw[Lib.run_neq_ptr_same w _ Tryz.underlying177 hj]
 go_wp2
 go_end0
 exact⟨rfl,rfl⟩
set_option maxHeartbeats 1000000 in
set_option maxRecDepth 100000 in
theorem KZ(b:Nat)(w:World)(h0:w.cell? ⟨b,0,none⟩=some (.pointer none))(hsh:w.shape? b=some (180,2))(hfz:w.frozen? ⟨b,0,none⟩=false) :
  Calls ψ 250 #[.pointer (some ⟨b,0,none⟩)] w λe w'=>e=.returned (.tuple #[])/\w'=w.setCell ⟨b,0,none⟩ (.pointer (some ⟨b,0,none⟩)):=by
 obtain⟨j,hj,hjs⟩:=Ar7.1 Qb
 go_enter Tryz.func250,Tryz.ntmps250
 go_wp2
 rw[Lib.run_to_unsafe w ⟨b,0,none⟩ Tryz.underlying177 Tryz.underlying248 hj (by rw[hjs];decide) hsh (Nat.zero_lt_succ 1)];simp only[Result.andThen];rw[Oper.upon_value]
 go_wp2
 rw[run_callFunc_extern Tryz.func269 (by kernel_rfl) (by kernel_rfl) (by kernel_rfl) (e:=Extern.AbiNoEscape.same) (by kernel_rfl)];rw[Lib.run_noEscape];simp only[Result.andThen];rw[Oper.upon_value]
 go_wp2
 rw[Lib.run_from_unsafe w ⟨b,0,none⟩ Tryz.underlying248 Tryz.underlying177 hj hsh WV];simp only[Result.andThen];rw[Oper.upon_value]
 go_wp2
 go_end0
 exact⟨rfl,rfl⟩
theorem Ny(B b:Nat)(bs:List Value)(w:World)(h:Aqn 180 5 B b bs w) :
  Calls ψ 250 #[.pointer (some ⟨b,0,none⟩)] w λe w'=>e=.returned (.tuple #[])/\(Asf 180 5 B b (.pointer (some ⟨b,0,none⟩)) bs w'/\Below B w w'/\∀ k,k≠b->w'.heap[k]? = w.heap[k]?):=by
 rcases h with h|h
 .refine(KZ b w h.cell0 h.shape h.frozen0).mono ?_
  rintro e w' ⟨rfl,rfl⟩;exact⟨rfl,h.used _,(Below.refl B w).setCell (p:=⟨b,0,none⟩) h.1 _,λk hk=>Below.heap_setCell _ _ _ _ hk⟩
 .refine(LY b w h.cell0).mono ?_
  rintro e w' ⟨rfl,rfl⟩;exact⟨rfl,h,Below.refl B _,λ_ _=>rfl⟩
set_option maxHeartbeats 2000000 in
set_option maxRecDepth 100000 in
theorem B7(B b:Nat)(bs:List Value)(s:ByteArray)(w:World)(h:Aqn 180 5 B b bs w)(hlen:bs.length+s.size<=140737488355328)(hBw:B<=w.heap.size) :
  Calls ψ 225 #[.pointer (some ⟨b,0,none⟩),.string s] w λe w'=>e=.returned (.tuple #[.int .i64 s.size,.nilIface])/\(Asf 180 5 B b (.pointer (some ⟨b,0,none⟩)) (bs++AsW s) w'/\Below B w w'/\∀ k cs T fr,w.heap[k]? = some (.cells cs T fr)->k≠b->T≠5->w'.heap[k]? = some (.cells cs T fr)):=by
 obtain⟨i0,hi,hz0,hz1,hz2⟩:=info_parts U5
 go_enter Tryz.func225,Tryz.ntmps225
 go_wp2_with (go_at_call 250;refine(Ny B b bs _ h).mono ?_)
 rintro e w1 ⟨rfl,h1,hb1,hk1⟩;obtain⟨hB,v,hbk,hown,hne⟩:=h1;have c0:w1.cell? ⟨b,0,none⟩=some (.pointer (some ⟨b,0,none⟩)):=by rw[ArA hbk];rfl
 have c1:w1.cell? ⟨b,1,none⟩=some v:=by rw[ArA hbk];rfl
 go_wp2_with (at_builtin;refine Lib.wpList_append_own_string _ rfl _ _ 178 9 rfl B 5 i0 Tryz.underlying178 Tryz.underlying9 hi hz0 hz1 hz2 _ _ _ rfl hown s rfl ?c3 ?c4 ?c5 ?_)
 case c3=>unfold maxLen;omega
 case c4=>omega
 case c5=>have:=hb1.size;omega
 intro v' w2 hown' hgrow _;have hlt:b<w1.heap.size:=by
  rcases Apw b w1.heap.size with h' | h'
  .exact h'
  .simp[Aqg h']at hbk
 have hb2:w2.heap[b]? = some (.cells #[.pointer (some ⟨b,0,none⟩),v] 180 (0,0)):=by
  rw[hgrow.block b hlt (λe=>hne e.symm)];exact hbk
 have d0:w2.cell? ⟨b,0,none⟩=some (.pointer (some ⟨b,0,none⟩)):=by rw[ArA hb2];rfl
 have d1:w2.cell? ⟨b,1,none⟩=some v:=by rw[ArA hb2];rfl
 have f1:w2.frozen? ⟨b,1,none⟩=false:=Lib.frozen_of_heap hb2 1;obtain⟨ao,n',cap,rfl⟩:∃ ao n' cap,v'=.slice ao n' cap:=by
  rcases hown'.2 with⟨hv,_⟩|⟨g,cap,cur,hv,_⟩
  .exact⟨_,_,_,hv⟩
  .exact⟨_,_,_,hv⟩
 go_wp2
 go_ret2
 refine⟨rfl,?_,?_,?_⟩
 .exact Lib.BuilderAt.put (T:=180) (e:=5) hB hb2 (bs':=bs++AsW s) (by simpa[Lib.strCells_length]using hown') (by decide)
 .exact(hb1.grown hgrow (by have:=hb1.size;omega) (λk hk=>(hown.lt k hk).1)).setCell (p:=⟨b,1,none⟩) hB _
 .intro k cs T fr hk hkb hT
  have h1:=(hk1 k hkb).trans hk;have hlk:k<w1.heap.size:=by
   rcases Apw k w1.heap.size with h' | h'
   .exact h'
   .simp[Aqg h']at h1
  have h2:=(hgrow.block k hlk λe=>Lib.ownBlock_ne hown h1 hT e.symm).trans h1;exact(Below.heap_setCell _ _ _ _ hkb).trans h2
def V7(l:List UInt8)(neg:Bool):List UInt8:=if l=[] then(if neg then [45] else []) else if neg then [32,45,32] else [32,43,32]
def FX(l:List UInt8)(neg:Bool)(tx:List UInt8):List UInt8:=l++V7 l neg++tx
set_option maxHeartbeats 2000000 in
set_option maxRecDepth 100000 in
theorem E6(B b:Nat)(l tx:List UInt8)(neg:Bool)(w:World)(h:Aqn 180 5 B b (Aqa l) w)(hlen:l.length+3+tx.length<=140737488355328)(hBw:B<=w.heap.size) :
  Calls ψ 191 #[.pointer (some ⟨b,0,none⟩),.bool neg,.string ⟨tx.toArray⟩] w λe w'=>e=.returned (.tuple #[])/\(Asf 180 5 B b (.pointer (some ⟨b,0,none⟩)) (Aqa (FX l neg tx)) w'/\Below B w w'/\∀ k cs T fr,w.heap[k]? = some (.cells cs T fr)->k≠b->T≠5->w'.heap[k]? = some (.cells cs T fr)):=by
 have HH:=Apb h;have HLEN:=Apb hlen;have HBW:=Apb hBw;clear h hlen hBw
 go_enter Tryz.func191,Tryz.ntmps191
 have hg:=Tryz.Builder_Len B b _ _ HH.out;obtain⟨c,hc⟩:∃ c,c=(Aqa l).length:=⟨_,rfl⟩;rw[←hc]at hg;have HG:=Apb hg;clear hg;rw[Aqy]at hc
 by_cases hl:l=[]
 .have y0:(c:Int)=0:=by rw[hc,hl];rfl
  cases neg with
  |true=>
   have hs:FX l true tx=l++[45]++tx:=by unfold FX V7;rw[if_pos hl,if_pos rfl]
   go_wp2_with (go_at_call 233;refine HG.out.mono ?_)
   rintro e w1 ⟨rfl,rfl⟩
   go_wp2_with (go_at_call 225;refine(B7 B b (Aqa l) _ _ HH.out ?h1 HBW.out).mono ?_)
   case h1=>
    rw[Aqy];have h5:=HLEN.out;simp only[ByteArray.size,AqB,η,π,Aqk]at h5 ⊢;omega
   first|rintro e w2 rfl hd2 hb2 hk2|rintro e w2 ⟨rfl,hd2,hb2,hk2⟩
   have HD2:=Apb (show Aqn 180 5 B b (Aqa (l++[45])) w2 from .inr (by rw[AqD];exact hd2));have HB2:=Apb hb2;have HK2:=Apb hk2;have HY2:=Apb (Apx HBW.out hb2.size);clear hd2 hb2 hk2
   go_wp2_with (go_at_call 225;refine(B7 B b (Aqa (l++[45])) _ _ HD2.out ?h1 HY2.out).mono ?_)
   case h1=>
    rw[Aqy];have h5:=HLEN.out;simp only[ByteArray.size,AqB,η,π,Aqk]at h5 ⊢;omega
   first|rintro e w3 rfl hd3 hb3 hk3|rintro e w3 ⟨rfl,hd3,hb3,hk3⟩
   go_wp2
   go_end0
   refine⟨rfl,?_,HB2.out.trans hb3,λk cs T fr h1 h2 h3=>hk3 k cs T fr (HK2.out k cs T fr h1 h2 h3) h2 h3⟩;rw[hs,AqD];exact hd3
  |false=>
   have hs:FX l false tx=l++tx:=by unfold FX V7;rw[if_pos hl,if_neg (by decide),List.append_nil]
   go_wp2_with (go_at_call 233;refine HG.out.mono ?_)
   rintro e w1 ⟨rfl,rfl⟩
   go_wp2_with (go_at_call 225;refine(B7 B b (Aqa l) _ _ HH.out ?h1 HBW.out).mono ?_)
   case h1=>
    rw[Aqy];have h5:=HLEN.out;simp only[ByteArray.size,AqB,η,π,Aqk]at h5 ⊢;omega
   first|rintro e w3 rfl hd3 hb3 hk3|rintro e w3 ⟨rfl,hd3,hb3,hk3⟩
   go_wp2
   go_end0
   refine⟨rfl,?_,hb3,hk3⟩;rw[hs,AqD];exact hd3
 .have y0:¬ (c:Int)=0:=by
   have:=List.length_pos_iff.2 hl;omega
  have y1:((c:Int) == 0)=false:=by simpa using y0
  clear hc
  cases neg with
  |true=>
   have hs:FX l true tx=l++[32,45,32]++tx:=by unfold FX V7;rw[if_neg hl,if_pos rfl]
   go_wp2_with (go_at_call 233;refine HG.out.mono ?_)
   rintro e w1 ⟨rfl,rfl⟩
   go_wp2_with (go_at_call 225;refine(B7 B b (Aqa l) _ _ HH.out ?h1 HBW.out).mono ?_)
   case h1=>
    rw[Aqy];have h5:=HLEN.out;simp only[ByteArray.size,AqB,η,π,Aqk]at h5 ⊢;omega
   first|rintro e w2 rfl hd2 hb2 hk2|rintro e w2 ⟨rfl,hd2,hb2,hk2⟩
   have HD2:=Apb (show Aqn 180 5 B b (Aqa (l++[32,45,32])) w2 from .inr (by rw[AqD];exact hd2));have HB2:=Apb hb2;have HK2:=Apb hk2;have HY2:=Apb (Apx HBW.out hb2.size);clear hd2 hb2 hk2
   go_wp2_with (go_at_call 225;refine(B7 B b (Aqa (l++[32,45,32])) _ _ HD2.out ?h1 HY2.out).mono ?_)
   case h1=>
    rw[Aqy];have h5:=HLEN.out;simp only[ByteArray.size,AqB,η,π,Aqk]at h5 ⊢;omega
   first|rintro e w3 rfl hd3 hb3 hk3|rintro e w3 ⟨rfl,hd3,hb3,hk3⟩
   go_wp2
   go_end0
   refine⟨rfl,?_,HB2.out.trans hb3,λk cs T fr h1 h2 h3=>hk3 k cs T fr (HK2.out k cs T fr h1 h2 h3) h2 h3⟩;rw[hs,AqD];exact hd3
  |false=>
   have hs:FX l false tx=l++[32,43,32]++tx:=by unfold FX V7;rw[if_neg hl,if_neg (by decide)]
   go_wp2_with (go_at_call 233;refine HG.out.mono ?_)
   rintro e w1 ⟨rfl,rfl⟩
   go_wp2_with (go_at_call 225;refine(B7 B b (Aqa l) _ _ HH.out ?h1 HBW.out).mono ?_)
   case h1=>
    rw[Aqy];have h5:=HLEN.out;simp only[ByteArray.size,AqB,η,π,Aqk]at h5 ⊢;omega
   first|rintro e w2 rfl hd2 hb2 hk2|rintro e w2 ⟨rfl,hd2,hb2,hk2⟩
   have HD2:=Apb (show Aqn 180 5 B b (Aqa (l++[32,43,32])) w2 from .inr (by rw[AqD];exact hd2));have HB2:=Apb hb2;have HK2:=Apb hk2;have HY2:=Apb (Apx HBW.out hb2.size);clear hd2 hb2 hk2
   go_wp2_with (go_at_call 225;refine(B7 B b (Aqa (l++[32,43,32])) _ _ HD2.out ?h1 HY2.out).mono ?_)
   case h1=>
    rw[Aqy];have h5:=HLEN.out;simp only[ByteArray.size,AqB,η,π,Aqk]at h5 ⊢;omega
   first|rintro e w3 rfl hd3 hb3 hk3|rintro e w3 ⟨rfl,hd3,hb3,hk3⟩
   go_wp2
   go_end0
   refine⟨rfl,?_,HB2.out.trans hb3,λk cs T fr h1 h2 h3=>hk3 k cs T fr (HK2.out k cs T fr h1 h2 h3) h2 h3⟩;rw[hs,AqD];exact hd3
end Go.Proofs.YtpncilciembjdaaGreatDoor
