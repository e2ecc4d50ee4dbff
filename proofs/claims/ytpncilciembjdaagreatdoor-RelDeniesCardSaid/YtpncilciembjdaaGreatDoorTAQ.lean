/-
  A block of the call's own, known whole; boxes that a region of open order lays and fills. No program in sight.
  strings.Builder's methods copyCheck and WriteString over this seat's program.
  term.summand: its walk.
-/
import Derived.WalkKit
import Derived.WalkSpells
import Derived.WalkLawsBesides
import Derived.Deep.Draws
import Derived.Lib.Hide
import Derived.Test.YtpncilciembjdaaGreatDoorTAP
import Derived.Shelf.Strings.Builder1
set_option linter.unusedSectionVars false
set_option linter.unusedSimpArgs false
set_option linter.unusedVariables false
namespace Go.Proofs.YtpncilciembjdaaGreatDoor
open Go.RowKit

theorem below_drew{B:Nat}{W w:World}(h:Below B W w):Below B W w.drew:=h.drew
theorem below_undrew{w w':World}(h:Below w.drew.heap.size w.drew w'):Below w.heap.size w w':=⟨h.os,h.tape,h.output,h.size,h.block⟩
theorem below_call{W w w':World}(h:Below W.heap.size W w)(hb:Below w.heap.size w w'):Below W.heap.size W w':=h.trans (hb.mono h.size)
theorem below_one(w:World)(o:Obj):Below w.heap.size w (w.alloc o):=(Below.refl _ _).alloc (Nat.le_refl _) o

def Blk(w:World)(g:Nat)(t:TypeId)(cs:Array Value):Prop:=w.heap[g]? = some (.cells cs t (0,0))

section
variable {w w':World} {g:Nat} {t:TypeId} {cs:Array Value}
theorem Blk.lt(h:Blk w g t cs):g<w.heap.size:=by
 rcases Nat.lt_or_ge g w.heap.size with hlt|hge
 .exact hlt
 .unfold Blk at h;rw[Array.getElem?_eq_none hge]at h;cases h
theorem Blk.cell(h:Blk w g t cs)(i:Nat):w.cell? ⟨g,i,none⟩=cs[i]?:=cell_of_row w g i cs t (0,0) h
theorem Blk.frozen(h:Blk w g t cs)(i:Nat):w.frozen? ⟨g,i,none⟩=false:=by
 unfold Blk at h
 simp[World.frozen?,h]
theorem Blk.new(w:World)(t:TypeId)(cs:Array Value):Blk (w.alloc (.cells cs t)) w.heap.size t cs:=heap_alloc_new w _
theorem Blk.drew(h:Blk w g t cs):Blk w.drew g t cs:=h
theorem Blk.alloc(h:Blk w g t cs)(o:Obj):Blk (w.alloc o) g t cs:=(Below.heap_alloc w o g h.lt).trans h
theorem Blk.set_(h:Blk w g t cs)(i:Nat)(u:Value):Blk (w.setCell ⟨g,i,none⟩ u) g t (cs.setIfInBounds i u):=by
 unfold Blk at h ⊢
 simp[World.setCell,Array.getElem?_modify,h]
theorem Blk.below{B:Nat}(h:Blk w g t cs)(hb:Below B w w')(hg:g<B):Blk w' g t cs:=(hb.block g hg).trans h
theorem Blk.call(h:Blk w g t cs)(hb:Below w.heap.size w w'):Blk w' g t cs:=h.below hb h.lt
end

def Own(w:World)(B g:Nat)(t:TypeId)(v:Value)(cs:Array Value):Prop:=B<=g/\v=.pointer (some ⟨g,0,none⟩)/\Blk w g t cs
section
variable {w w':World} {B g:Nat} {t:TypeId} {v:Value} {cs:Array Value}
theorem Own.call(h:Own w B g t v cs)(hb:Below w.heap.size w w'):Own w' B g t v cs:=⟨h.1,h.2.1,h.2.2.call hb⟩
end
def pick{α:Type}(d:Bool)(x y:α):α:=match d with|true=>x|false=>y

section
variable {w w':World} {base base' e size n:Nat} {v:Value} {xs:List Value}
theorem grown_of_below{row:Option Nat}(hb:Below w.heap.size w w'):w.grownBy w' row:=⟨hb.os,hb.tape,hb.output,hb.size,fun k hk _=>hb.block k hk⟩
theorem own_call(h:w.ownsRow base e size v n xs)(hb:Below w.heap.size w w'):w'.ownsRow base e size v n xs:=h.kept (row:=none) (grown_of_below hb) (by cases hv:v.ownBlock<;>simp)
end
end Go.Proofs.YtpncilciembjdaaGreatDoor
namespace Go.Proofs.YtpncilciembjdaaGreatDoor
open Go.RowKit
theorem byte_info:(Tryz.prog.info? 5).map (fun i=>(i.zero,i.size,i.bytes))=some (some (.int .u8 0),1,1):=by kernel_rfl
theorem bld_size:(Tryz.prog.info? 180).map (·.size)=some 2:=by kernel_rfl
theorem bld_lies:liesAt Tryz.prog Tryz.prog.depth 180 (2 / Tryz.prog.cellsOf 180) 0 180 1=true:=by kernel_rfl
set_option maxHeartbeats 1000000 in
set_option maxRecDepth 100000 in
theorem copyCheck_used(b:Nat)(w:World)(h0:w.cell? ⟨b,0,none⟩=some (.pointer (some ⟨b,0,none⟩))) :
  Calls Tryz.prog 250 #[.pointer (some ⟨b,0,none⟩)] w fun e w'=>e=.returned (.tuple #[])/\w'=w:=by
 obtain⟨j,hj,_⟩:=Option.map_eq_some_iff.1 bld_size
 go_enter Tryz.func250,Tryz.ntmps250
 go_wp2
 rw[Lib.run_neq_ptr_same w _ Tryz.underlying177 hj]
 go_wp2
 go_end0
 exact⟨rfl,rfl⟩
set_option maxHeartbeats 1000000 in
set_option maxRecDepth 100000 in
theorem copyCheck_fresh(b:Nat)(w:World)(h0:w.cell? ⟨b,0,none⟩=some (.pointer none))(hsh:w.shape? b=some (180,2))(hfz:w.frozen? ⟨b,0,none⟩=false) :
  Calls Tryz.prog 250 #[.pointer (some ⟨b,0,none⟩)] w fun e w'=>e=.returned (.tuple #[])/\w'=w.setCell ⟨b,0,none⟩ (.pointer (some ⟨b,0,none⟩)):=by
 obtain⟨j,hj,hjs⟩:=Option.map_eq_some_iff.1 bld_size
 go_enter Tryz.func250,Tryz.ntmps250
 go_wp2
 rw[Lib.run_to_unsafe w ⟨b,0,none⟩ Tryz.underlying177 Tryz.underlying248 hj (by rw[hjs];decide) hsh (Nat.zero_lt_succ 1)]
 simp only[Result.andThen]
 rw[Oper.upon_value]
 go_wp2
 rw[run_callFunc_extern Tryz.func269 (by kernel_rfl) (by kernel_rfl) (by kernel_rfl) (e:=Extern.AbiNoEscape.same) (by kernel_rfl)]
 rw[Lib.run_noEscape]
 simp only[Result.andThen]
 rw[Oper.upon_value]
 go_wp2
 rw[Lib.run_from_unsafe w ⟨b,0,none⟩ Tryz.underlying248 Tryz.underlying177 hj hsh bld_lies]
 simp only[Result.andThen]
 rw[Oper.upon_value]
 go_wp2
 go_end0
 exact⟨rfl,rfl⟩
theorem copyCheck_any(B b:Nat)(bs:List Value)(w:World)(h:Lib.IsBuilder 180 5 B b bs w) :
  Calls Tryz.prog 250 #[.pointer (some ⟨b,0,none⟩)] w fun e w'=>e=.returned (.tuple #[])/\(Lib.BuilderAt 180 5 B b (.pointer (some ⟨b,0,none⟩)) bs w'/\Below B w w'/\∀ k,k≠b->w'.heap[k]? = w.heap[k]?):=by
 rcases h with h|h
 .refine(copyCheck_fresh b w h.cell0 h.shape h.frozen0).mono ?_
  rintro e w' ⟨rfl,rfl⟩
  exact⟨rfl,h.used _,(Below.refl B w).setCell (p:=⟨b,0,none⟩) h.1 _,fun k hk=>Below.heap_setCell _ _ _ _ hk⟩
 .refine(copyCheck_used b w h.cell0).mono ?_
  rintro e w' ⟨rfl,rfl⟩
  exact⟨rfl,h,Below.refl B _,fun _ _=>rfl⟩
set_option maxHeartbeats 2000000 in
set_option maxRecDepth 100000 in
theorem writeString_any(B b:Nat)(bs:List Value)(s:ByteArray)(w:World)(h:Lib.IsBuilder 180 5 B b bs w)(hlen:bs.length+s.size<=140737488355328)(hBw:B<=w.heap.size) :
  Calls Tryz.prog 225 #[.pointer (some ⟨b,0,none⟩),.string s] w fun e w'=>e=.returned (.tuple #[.int .i64 s.size,.nilIface])/\(Lib.BuilderAt 180 5 B b (.pointer (some ⟨b,0,none⟩)) (bs++Lib.strCells s) w'/\Below B w w'/\∀ k cs T fr,w.heap[k]? = some (.cells cs T fr)->k≠b->T≠5->w'.heap[k]? = some (.cells cs T fr)):=by
 obtain⟨i0,hi,hz0,hz1,hz2⟩:=info_parts byte_info
 go_enter Tryz.func225,Tryz.ntmps225
 go_wp2_with (go_at_call 250;refine(copyCheck_any B b bs _ h).mono ?_)
 rintro e w1 ⟨rfl,h1,hb1,hk1⟩
 obtain⟨hB,v,hbk,hown,hne⟩:=h1
 have c0:w1.cell? ⟨b,0,none⟩=some (.pointer (some ⟨b,0,none⟩)):=by rw[Lib.cell_of_heap hbk];rfl
 have c1:w1.cell? ⟨b,1,none⟩=some v:=by rw[Lib.cell_of_heap hbk];rfl
 go_wp2_with (at_builtin;refine Lib.wpList_append_own_string _ rfl _ _ 178 9 rfl B 5 i0 Tryz.underlying178 Tryz.underlying9 hi hz0 hz1 hz2 _ _ _ rfl hown s rfl ?c3 ?c4 ?c5 ?_)
 case c3=>unfold maxLen;omega
 case c4=>omega
 case c5=>have:=hb1.size;omega
 intro v' w2 hown' hgrow _
 have hlt:b<w1.heap.size:=by
  rcases Nat.lt_or_ge b w1.heap.size with h' | h'
  .exact h'
  .simp[Array.getElem?_eq_none h']at hbk
 have hb2:w2.heap[b]? = some (.cells #[.pointer (some ⟨b,0,none⟩),v] 180 (0,0)):=by
  rw[hgrow.block b hlt (fun e=>hne e.symm)]
  exact hbk
 have d0:w2.cell? ⟨b,0,none⟩=some (.pointer (some ⟨b,0,none⟩)):=by rw[Lib.cell_of_heap hb2];rfl
 have d1:w2.cell? ⟨b,1,none⟩=some v:=by rw[Lib.cell_of_heap hb2];rfl
 have f1:w2.frozen? ⟨b,1,none⟩=false:=Lib.frozen_of_heap hb2 1
 obtain⟨ao,n',cap,rfl⟩:∃ ao n' cap,v'=.slice ao n' cap:=by
  rcases hown'.2 with⟨hv,_⟩|⟨g,cap,cur,hv,_⟩
  .exact⟨_,_,_,hv⟩
  .exact⟨_,_,_,hv⟩
 go_wp2
 go_ret2
 refine⟨rfl,?_,?_,?_⟩
 .exact Lib.BuilderAt.put (T:=180) (e:=5) hB hb2 (bs':=bs++Lib.strCells s) (by simpa[Lib.strCells_length]using hown') (by decide)
 .exact(hb1.grown hgrow (by have:=hb1.size;omega) (fun k hk=>(hown.lt k hk).1)).setCell (p:=⟨b,1,none⟩) hB _
 .intro k cs T fr hk hkb hT
  have h1:=(hk1 k hkb).trans hk
  have hlk:k<w1.heap.size:=by
   rcases Nat.lt_or_ge k w1.heap.size with h' | h'
   .exact h'
   .simp[Array.getElem?_eq_none h']at h1
  have h2:=(hgrow.block k hlk fun e=>Lib.ownBlock_ne hown h1 hT e.symm).trans h1
  exact(Below.heap_setCell _ _ _ _ hkb).trans h2
end Go.Proofs.YtpncilciembjdaaGreatDoor
namespace Go.Proofs.YtpncilciembjdaaGreatDoor
open Go.RowKit

def sepS(l:List UInt8)(neg:Bool):List UInt8:=if l=[] then(if neg then [45] else []) else if neg then [32,45,32] else [32,43,32]
def sumB(l:List UInt8)(neg:Bool)(tx:List UInt8):List UInt8:=l++sepS l neg++tx
set_option maxHeartbeats 2000000 in
set_option maxRecDepth 100000 in
theorem summand_any(B b:Nat)(l tx:List UInt8)(neg:Bool)(w:World)(h:Lib.IsBuilder 180 5 B b (Lib.byteCells l) w)(hlen:l.length+3+tx.length<=140737488355328)(hBw:B<=w.heap.size) :
  Calls Tryz.prog 191 #[.pointer (some ⟨b,0,none⟩),.bool neg,.string ⟨tx.toArray⟩] w fun e w'=>e=.returned (.tuple #[])/\(Lib.BuilderAt 180 5 B b (.pointer (some ⟨b,0,none⟩)) (Lib.byteCells (sumB l neg tx)) w'/\Below B w w'/\∀ k cs T fr,w.heap[k]? = some (.cells cs T fr)->k≠b->T≠5->w'.heap[k]? = some (.cells cs T fr)):=by
 have HH:=Lib.hid h
 have HLEN:=Lib.hid hlen
 have HBW:=Lib.hid hBw
 clear h hlen hBw
 go_enter Tryz.func191,Tryz.ntmps191
 have hg:=Tryz.Builder_Len B b _ _ HH.out
 obtain⟨c,hc⟩:∃ c,c=(Lib.byteCells l).length:=⟨_,rfl⟩
 rw[←hc]at hg
 have HG:=Lib.hid hg
 clear hg
 rw[Lib.byteCells_length]at hc
 by_cases hl:l=[]
 .have y0:(c:Int)=0:=by rw[hc,hl];rfl
  cases neg with
  |true=>
   have hs:sumB l true tx=l++[45]++tx:=by unfold sumB sepS;rw[if_pos hl,if_pos rfl]
   go_wp2_with (go_at_call 233;refine HG.out.mono ?_)
   rintro e w1 ⟨rfl,rfl⟩
   go_wp2_with (go_at_call 225;refine(writeString_any B b (Lib.byteCells l) _ _ HH.out ?h1 HBW.out).mono ?_)
   case h1=>
    rw[Lib.byteCells_length]
    have h5:=HLEN.out
    simp only[ByteArray.size,List.size_toArray,List.length_append,List.length_cons,List.length_nil]at h5 ⊢
    omega
   first|rintro e w2 rfl hd2 hb2 hk2|rintro e w2 ⟨rfl,hd2,hb2,hk2⟩
   have HD2:=Lib.hid (show Lib.IsBuilder 180 5 B b (Lib.byteCells (l++[45])) w2 from .inr (by rw[Lib.byteCells_append];exact hd2))
   have HB2:=Lib.hid hb2
   have HK2:=Lib.hid hk2
   have HY2:=Lib.hid (Nat.le_trans HBW.out hb2.size)
   clear hd2 hb2 hk2
   go_wp2_with (go_at_call 225;refine(writeString_any B b (Lib.byteCells (l++[45])) _ _ HD2.out ?h1 HY2.out).mono ?_)
   case h1=>
    rw[Lib.byteCells_length]
    have h5:=HLEN.out
    simp only[ByteArray.size,List.size_toArray,List.length_append,List.length_cons,List.length_nil]at h5 ⊢
    omega
   first|rintro e w3 rfl hd3 hb3 hk3|rintro e w3 ⟨rfl,hd3,hb3,hk3⟩
   go_wp2
   go_end0
   refine⟨rfl,?_,HB2.out.trans hb3,fun k cs T fr h1 h2 h3=>hk3 k cs T fr (HK2.out k cs T fr h1 h2 h3) h2 h3⟩
   rw[hs,Lib.byteCells_append]
   exact hd3
  |false=>
   have hs:sumB l false tx=l++tx:=by unfold sumB sepS;rw[if_pos hl,if_neg (by decide),List.append_nil]
   go_wp2_with (go_at_call 233;refine HG.out.mono ?_)
   rintro e w1 ⟨rfl,rfl⟩
   go_wp2_with (go_at_call 225;refine(writeString_any B b (Lib.byteCells l) _ _ HH.out ?h1 HBW.out).mono ?_)
   case h1=>
    rw[Lib.byteCells_length]
    have h5:=HLEN.out
    simp only[ByteArray.size,List.size_toArray,List.length_append,List.length_cons,List.length_nil]at h5 ⊢
    omega
   first|rintro e w3 rfl hd3 hb3 hk3|rintro e w3 ⟨rfl,hd3,hb3,hk3⟩
   go_wp2
   go_end0
   refine⟨rfl,?_,hb3,hk3⟩
   rw[hs,Lib.byteCells_append]
   exact hd3
 .have y0:¬ (c:Int)=0:=by
   have:=List.length_pos_iff.2 hl
   omega
  have y1:((c:Int) == 0)=false:=by simpa using y0
  clear hc
  cases neg with
  |true=>
   have hs:sumB l true tx=l++[32,45,32]++tx:=by unfold sumB sepS;rw[if_neg hl,if_pos rfl]
   go_wp2_with (go_at_call 233;refine HG.out.mono ?_)
   rintro e w1 ⟨rfl,rfl⟩
   go_wp2_with (go_at_call 225;refine(writeString_any B b (Lib.byteCells l) _ _ HH.out ?h1 HBW.out).mono ?_)
   case h1=>
    rw[Lib.byteCells_length]
    have h5:=HLEN.out
    simp only[ByteArray.size,List.size_toArray,List.length_append,List.length_cons,List.length_nil]at h5 ⊢
    omega
   first|rintro e w2 rfl hd2 hb2 hk2|rintro e w2 ⟨rfl,hd2,hb2,hk2⟩
   have HD2:=Lib.hid (show Lib.IsBuilder 180 5 B b (Lib.byteCells (l++[32,45,32])) w2 from .inr (by rw[Lib.byteCells_append];exact hd2))
   have HB2:=Lib.hid hb2
   have HK2:=Lib.hid hk2
   have HY2:=Lib.hid (Nat.le_trans HBW.out hb2.size)
   clear hd2 hb2 hk2
   go_wp2_with (go_at_call 225;refine(writeString_any B b (Lib.byteCells (l++[32,45,32])) _ _ HD2.out ?h1 HY2.out).mono ?_)
   case h1=>
    rw[Lib.byteCells_length]
    have h5:=HLEN.out
    simp only[ByteArray.size,List.size_toArray,List.length_append,List.length_cons,List.length_nil]at h5 ⊢
    omega
   first|rintro e w3 rfl hd3 hb3 hk3|rintro e w3 ⟨rfl,hd3,hb3,hk3⟩
   go_wp2
   go_end0
   refine⟨rfl,?_,HB2.out.trans hb3,fun k cs T fr h1 h2 h3=>hk3 k cs T fr (HK2.out k cs T fr h1 h2 h3) h2 h3⟩
   rw[hs,Lib.byteCells_append]
   exact hd3
  |false=>
   have hs:sumB l false tx=l++[32,43,32]++tx:=by unfold sumB sepS;rw[if_neg hl,if_neg (by decide)]
   go_wp2_with (go_at_call 233;refine HG.out.mono ?_)
   rintro e w1 ⟨rfl,rfl⟩
   go_wp2_with (go_at_call 225;refine(writeString_any B b (Lib.byteCells l) _ _ HH.out ?h1 HBW.out).mono ?_)
   case h1=>
    rw[Lib.byteCells_length]
    have h5:=HLEN.out
    simp only[ByteArray.size,List.size_toArray,List.length_append,List.length_cons,List.length_nil]at h5 ⊢
    omega
   first|rintro e w2 rfl hd2 hb2 hk2|rintro e w2 ⟨rfl,hd2,hb2,hk2⟩
   have HD2:=Lib.hid (show Lib.IsBuilder 180 5 B b (Lib.byteCells (l++[32,43,32])) w2 from .inr (by rw[Lib.byteCells_append];exact hd2))
   have HB2:=Lib.hid hb2
   have HK2:=Lib.hid hk2
   have HY2:=Lib.hid (Nat.le_trans HBW.out hb2.size)
   clear hd2 hb2 hk2
   go_wp2_with (go_at_call 225;refine(writeString_any B b (Lib.byteCells (l++[32,43,32])) _ _ HD2.out ?h1 HY2.out).mono ?_)
   case h1=>
    rw[Lib.byteCells_length]
    have h5:=HLEN.out
    simp only[ByteArray.size,List.size_toArray,List.length_append,List.length_cons,List.length_nil]at h5 ⊢
    omega
   first|rintro e w3 rfl hd3 hb3 hk3|rintro e w3 ⟨rfl,hd3,hb3,hk3⟩
   go_wp2
   go_end0
   refine⟨rfl,?_,HB2.out.trans hb3,fun k cs T fr h1 h2 h3=>hk3 k cs T fr (HK2.out k cs T fr h1 h2 h3) h2 h3⟩
   rw[hs,Lib.byteCells_append]
   exact hd3
end Go.Proofs.YtpncilciembjdaaGreatDoor
