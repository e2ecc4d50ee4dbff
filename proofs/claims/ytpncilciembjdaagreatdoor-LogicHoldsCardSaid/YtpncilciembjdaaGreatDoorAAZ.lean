/-
  strings.Builder's methods copyCheck and WriteString over this seat's program.
  term.summand: its walk.
  Numbers as limbs of 32 bits, the lowest first. No program in sight.
  Sums, differences and products of limbs, limb by limb. No program in sight.
  Numbers below 0, too: sign and limbs. No program in sight.
  Sums of variables, each so many times: the plain ones. No program in sight.
  Rows put in order by a number: neighbours change places. No program in sight.
  Branches whose truth is known.
  Functions of the program as trees: what a call comes to.
  What the sort functions come to: insertion.
  Sums of variables as they lie in cells, and as numbers. No program in sight.
  term.Text: its walk.
  term.Text's contract, as an answer of D, out of what its callees answer.
  rel.Tidy's contract, as an answer of D, out of what its callees answer: note.
-/
import Derived.Test.YtpncilciembjdaaGreatDoorAAY
import Derived.Shelf.Strings.Builder1
import Derived.Test.YtpncilciembjdaaGreatDoorAAO
import Derived.Test.YtpncilciembjdaaGreatDoorAAK
import Derived.Test.YtpncilciembjdaaGreatDoorAAX
import Derived.Test.YtpncilciembjdaaGreatDoorAAP
import Derived.Test.YtpncilciembjdaaGreatDoorAAR
import Derived.Deep.RegionWith
set_option linter.unusedSectionVars false
set_option linter.unusedSimpArgs false
set_option linter.unusedVariables false
namespace Go.Proofs.YtpncilciembjdaaGreatDoor
open Go.RowKit
theorem byte_info:(Tryz.prog.info? 5).map (fun i=>(i.zero,i.size,i.bytes))=some (some (.int .u8 0),1,1):=by kernel_rfl
theorem bld_size:(Tryz.prog.info? 180).map (·.size)=some 2:=by kernel_rfl
theorem bld_lies:liesAt Tryz.prog Tryz.prog.depth 180 (2 / Tryz.prog.cellsOf 180) 0 180 1=true:=by kernel_rfl
set_option maxHeartbeats 1000000 in
set_option maxRecDepth 100000 in
theorem copyCheck_used(b:Nat)(w:World)(h0:w.cell? ⟨b,0,none⟩=some (.pointer (some ⟨b,0,none⟩))) :
  Calls Tryz.prog 250 #[.pointer (some ⟨b,0,none⟩)] w fun e w'=>e=.returned (.tuple #[])/\w'=w:=by
 obtain⟨j,hj,_⟩:=Option.map_eq_some_iff.1 bld_size
 go_enter Tryz.func250,Tryz.ntmps250
 go_wp2
 rw[Lib.run_neq_ptr_same w _ Tryz.underlying177 hj]
 go_wp2
 go_end0
 exact⟨rfl,rfl⟩
set_option maxHeartbeats 1000000 in
set_option maxRecDepth 100000 in
theorem copyCheck_fresh(b:Nat)(w:World)(h0:w.cell? ⟨b,0,none⟩=some (.pointer none))(hsh:w.shape? b=some (180,2))(hfz:w.frozen? ⟨b,0,none⟩=false) :
  Calls Tryz.prog 250 #[.pointer (some ⟨b,0,none⟩)] w fun e w'=>e=.returned (.tuple #[])/\w'=w.setCell ⟨b,0,none⟩ (.pointer (some ⟨b,0,none⟩)):=by
 obtain⟨j,hj,hjs⟩:=Option.map_eq_some_iff.1 bld_size
 go_enter Tryz.func250,Tryz.ntmps250
 go_wp2
 rw[Lib.run_to_unsafe w ⟨b,0,none⟩ Tryz.underlying177 Tryz.underlying248 hj (by rw[hjs];decide) hsh (Nat.zero_lt_succ 1)]
 simp only[Result.andThen]
 rw[Oper.upon_value]
 go_wp2
 rw[run_callFunc_extern Tryz.func269 (by kernel_rfl) (by kernel_rfl) (by kernel_rfl) (e:=Extern.AbiNoEscape.same) (by kernel_rfl)]
 rw[Lib.run_noEscape]
 simp only[Result.andThen]
 rw[Oper.upon_value]
 go_wp2
 rw[Lib.run_from_unsafe w ⟨b,0,none⟩ Tryz.underlying248 Tryz.underlying177 hj hsh bld_lies]
 simp only[Result.andThen]
 rw[Oper.upon_value]
 go_wp2
 go_end0
 exact⟨rfl,rfl⟩
theorem copyCheck_any(B b:Nat)(bs:List Value)(w:World)(h:Lib.IsBuilder 180 5 B b bs w) :
  Calls Tryz.prog 250 #[.pointer (some ⟨b,0,none⟩)] w fun e w'=>e=.returned (.tuple #[])/\(Lib.BuilderAt 180 5 B b (.pointer (some ⟨b,0,none⟩)) bs w'/\Below B w w'/\∀ k,k≠b->w'.heap[k]? = w.heap[k]?):=by
 rcases h with h|h
 .refine(copyCheck_fresh b w h.cell0 h.shape h.frozen0).mono ?_
  rintro e w' ⟨rfl,rfl⟩
  exact⟨rfl,h.used _,(Below.refl B w).setCell (p:=⟨b,0,none⟩) h.1 _,fun k hk=>Below.heap_setCell _ _ _ _ hk⟩
 .refine(copyCheck_used b w h.cell0).mono ?_
  rintro e w' ⟨rfl,rfl⟩
  exact⟨rfl,h,Below.refl B _,fun _ _=>rfl⟩
set_option maxHeartbeats 2000000 in
set_option maxRecDepth 100000 in
theorem writeString_any(B b:Nat)(bs:List Value)(s:ByteArray)(w:World)(h:Lib.IsBuilder 180 5 B b bs w)(hlen:bs.length+s.size<=140737488355328)(hBw:B<=w.heap.size) :
  Calls Tryz.prog 225 #[.pointer (some ⟨b,0,none⟩),.string s] w fun e w'=>e=.returned (.tuple #[.int .i64 s.size,.nilIface])/\(Lib.BuilderAt 180 5 B b (.pointer (some ⟨b,0,none⟩)) (bs++Lib.strCells s) w'/\Below B w w'/\∀ k cs T fr,w.heap[k]? = some (.cells cs T fr)->k≠b->T≠5->w'.heap[k]? = some (.cells cs T fr)):=by
 obtain⟨i0,hi,hz0,hz1,hz2⟩:=info_parts byte_info
 go_enter Tryz.func225,Tryz.ntmps225
 go_wp2_with (go_at_call 250;refine(copyCheck_any B b bs _ h).mono ?_)
 rintro e w1 ⟨rfl,h1,hb1,hk1⟩
 obtain⟨hB,v,hbk,hown,hne⟩:=h1
 have c0:w1.cell? ⟨b,0,none⟩=some (.pointer (some ⟨b,0,none⟩)):=by rw[Lib.cell_of_heap hbk];rfl
 have c1:w1.cell? ⟨b,1,none⟩=some v:=by rw[Lib.cell_of_heap hbk];rfl
 go_wp2_with (at_builtin;refine Lib.wpList_append_own_string _ rfl _ _ 178 9 rfl B 5 i0 Tryz.underlying178 Tryz.underlying9 hi hz0 hz1 hz2 _ _ _ rfl hown s rfl ?c3 ?c4 ?c5 ?_)
 case c3=>unfold maxLen;omega
 case c4=>omega
 case c5=>have:=hb1.size;omega
 intro v' w2 hown' hgrow _
 have hlt:b<w1.heap.size:=by
  rcases Nat.lt_or_ge b w1.heap.size with h' | h'
  .exact h'
  .simp[Array.getElem?_eq_none h']at hbk
 have hb2:w2.heap[b]? = some (.cells #[.pointer (some ⟨b,0,none⟩),v] 180 (0,0)):=by
  rw[hgrow.block b hlt (fun e=>hne e.symm)]
  exact hbk
 have d0:w2.cell? ⟨b,0,none⟩=some (.pointer (some ⟨b,0,none⟩)):=by rw[Lib.cell_of_heap hb2];rfl
 have d1:w2.cell? ⟨b,1,none⟩=some v:=by rw[Lib.cell_of_heap hb2];rfl
 have f1:w2.frozen? ⟨b,1,none⟩=false:=Lib.frozen_of_heap hb2 1
 obtain⟨ao,n',cap,rfl⟩:∃ ao n' cap,v'=.slice ao n' cap:=by
  rcases hown'.2 with⟨hv,_⟩|⟨g,cap,cur,hv,_⟩
  .exact⟨_,_,_,hv⟩
  .exact⟨_,_,_,hv⟩
 go_wp2
 go_ret2
 refine⟨rfl,?_,?_,?_⟩
 .exact Lib.BuilderAt.put (T:=180) (e:=5) hB hb2 (bs':=bs++Lib.strCells s) (by simpa[Lib.strCells_length]using hown') (by decide)
 .exact(hb1.grown hgrow (by have:=hb1.size;omega) (fun k hk=>(hown.lt k hk).1)).setCell (p:=⟨b,1,none⟩) hB _
 .intro k cs T fr hk hkb hT
  have h1:=(hk1 k hkb).trans hk
  have hlk:k<w1.heap.size:=by
   rcases Nat.lt_or_ge k w1.heap.size with h' | h'
   .exact h'
   .simp[Array.getElem?_eq_none h']at h1
  have h2:=(hgrow.block k hlk fun e=>Lib.ownBlock_ne hown h1 hT e.symm).trans h1
  exact(Below.heap_setCell _ _ _ _ hkb).trans h2
end Go.Proofs.YtpncilciembjdaaGreatDoor
namespace Go.Proofs.YtpncilciembjdaaGreatDoor
open Go.RowKit

def sepS(l:List UInt8)(neg:Bool):List UInt8:=if l=[] then(if neg then [45] else []) else if neg then [32,45,32] else [32,43,32]
def sumB(l:List UInt8)(neg:Bool)(tx:List UInt8):List UInt8:=l++sepS l neg++tx
set_option maxHeartbeats 2000000 in
set_option maxRecDepth 100000 in
theorem summand_any(B b:Nat)(l tx:List UInt8)(neg:Bool)(w:World)(h:Lib.IsBuilder 180 5 B b (Lib.byteCells l) w)(hlen:l.length+3+tx.length<=140737488355328)(hBw:B<=w.heap.size) :
  Calls Tryz.prog 191 #[.pointer (some ⟨b,0,none⟩),.bool neg,.string ⟨tx.toArray⟩] w fun e w'=>e=.returned (.tuple #[])/\(Lib.BuilderAt 180 5 B b (.pointer (some ⟨b,0,none⟩)) (Lib.byteCells (sumB l neg tx)) w'/\Below B w w'/\∀ k cs T fr,w.heap[k]? = some (.cells cs T fr)->k≠b->T≠5->w'.heap[k]? = some (.cells cs T fr)):=by
 have HH:=Lib.hid h
 have HLEN:=Lib.hid hlen
 have HBW:=Lib.hid hBw
 clear h hlen hBw
 go_enter Tryz.func191,Tryz.ntmps191
 have hg:=Tryz.Builder_Len B b _ _ HH.out
 obtain⟨c,hc⟩:∃ c,c=(Lib.byteCells l).length:=⟨_,rfl⟩
 rw[←hc]at hg
 have HG:=Lib.hid hg
 clear hg
 rw[Lib.byteCells_length]at hc
 by_cases hl:l=[]
 .have y0:(c:Int)=0:=by rw[hc,hl];rfl
  cases neg with
  |true=>
   have hs:sumB l true tx=l++[45]++tx:=by unfold sumB sepS;rw[if_pos hl,if_pos rfl]
   go_wp2_with (go_at_call 233;refine HG.out.mono ?_)
   rintro e w1 ⟨rfl,rfl⟩
   go_wp2_with (go_at_call 225;refine(writeString_any B b (Lib.byteCells l) _ _ HH.out ?h1 HBW.out).mono ?_)
   case h1=>
    rw[Lib.byteCells_length]
    have h5:=HLEN.out
    simp only[ByteArray.size,List.size_toArray,List.length_append,List.length_cons,List.length_nil]at h5 ⊢
    omega
   first|rintro e w2 rfl hd2 hb2 hk2|rintro e w2 ⟨rfl,hd2,hb2,hk2⟩
   have HD2:=Lib.hid (show Lib.IsBuilder 180 5 B b (Lib.byteCells (l++[45])) w2 from .inr (by rw[Lib.byteCells_append];exact hd2))
   have HB2:=Lib.hid hb2
   have HK2:=Lib.hid hk2
   have HY2:=Lib.hid (Nat.le_trans HBW.out hb2.size)
   clear hd2 hb2 hk2
   go_wp2_with (go_at_call 225;refine(writeString_any B b (Lib.byteCells (l++[45])) _ _ HD2.out ?h1 HY2.out).mono ?_)
   case h1=>
    rw[Lib.byteCells_length]
    have h5:=HLEN.out
    simp only[ByteArray.size,List.size_toArray,List.length_append,List.length_cons,List.length_nil]at h5 ⊢
    omega
   first|rintro e w3 rfl hd3 hb3 hk3|rintro e w3 ⟨rfl,hd3,hb3,hk3⟩
   go_wp2
   go_end0
   refine⟨rfl,?_,HB2.out.trans hb3,fun k cs T fr h1 h2 h3=>hk3 k cs T fr (HK2.out k cs T fr h1 h2 h3) h2 h3⟩
   rw[hs,Lib.byteCells_append]
   exact hd3
  |false=>
   have hs:sumB l false tx=l++tx:=by unfold sumB sepS;rw[if_pos hl,if_neg (by decide),List.append_nil]
   go_wp2_with (go_at_call 233;refine HG.out.mono ?_)
   rintro e w1 ⟨rfl,rfl⟩
   go_wp2_with (go_at_call 225;refine(writeString_any B b (Lib.byteCells l) _ _ HH.out ?h1 HBW.out).mono ?_)
   case h1=>
    rw[Lib.byteCells_length]
    have h5:=HLEN.out
    simp only[ByteArray.size,List.size_toArray,List.length_append,List.length_cons,List.length_nil]at h5 ⊢
    omega
   first|rintro e w3 rfl hd3 hb3 hk3|rintro e w3 ⟨rfl,hd3,hb3,hk3⟩
   go_wp2
   go_end0
   refine⟨rfl,?_,hb3,hk3⟩
   rw[hs,Lib.byteCells_append]
   exact hd3
 .have y0:¬ (c:Int)=0:=by
   have:=List.length_pos_iff.2 hl
   omega
  have y1:((c:Int) == 0)=false:=by simpa using y0
  clear hc
  cases neg with
  |true=>
   have hs:sumB l true tx=l++[32,45,32]++tx:=by unfold sumB sepS;rw[if_neg hl,if_pos rfl]
   go_wp2_with (go_at_call 233;refine HG.out.mono ?_)
   rintro e w1 ⟨rfl,rfl⟩
   go_wp2_with (go_at_call 225;refine(writeString_any B b (Lib.byteCells l) _ _ HH.out ?h1 HBW.out).mono ?_)
   case h1=>
    rw[Lib.byteCells_length]
    have h5:=HLEN.out
    simp only[ByteArray.size,List.size_toArray,List.length_append,List.length_cons,List.length_nil]at h5 ⊢
    omega
   first|rintro e w2 rfl hd2 hb2 hk2|rintro e w2 ⟨rfl,hd2,hb2,hk2⟩
   have HD2:=Lib.hid (show Lib.IsBuilder 180 5 B b (Lib.byteCells (l++[32,45,32])) w2 from .inr (by rw[Lib.byteCells_append];exact hd2))
   have HB2:=Lib.hid hb2
   have HK2:=Lib.hid hk2
   have HY2:=Lib.hid (Nat.le_trans HBW.out hb2.size)
   clear hd2 hb2 hk2
   go_wp2_with (go_at_call 225;refine(writeString_any B b (Lib.byteCells (l++[32,45,32])) _ _ HD2.out ?h1 HY2.out).mono ?_)
   case h1=>
    rw[Lib.byteCells_length]
    have h5:=HLEN.out
    simp only[ByteArray.size,List.size_toArray,List.length_append,List.length_cons,List.length_nil]at h5 ⊢
    omega
   first|rintro e w3 rfl hd3 hb3 hk3|rintro e w3 ⟨rfl,hd3,hb3,hk3⟩
   go_wp2
   go_end0
   refine⟨rfl,?_,HB2.out.trans hb3,fun k cs T fr h1 h2 h3=>hk3 k cs T fr (HK2.out k cs T fr h1 h2 h3) h2 h3⟩
   rw[hs,Lib.byteCells_append]
   exact hd3
  |false=>
   have hs:sumB l false tx=l++[32,43,32]++tx:=by unfold sumB sepS;rw[if_neg hl,if_neg (by decide)]
   go_wp2_with (go_at_call 233;refine HG.out.mono ?_)
   rintro e w1 ⟨rfl,rfl⟩
   go_wp2_with (go_at_call 225;refine(writeString_any B b (Lib.byteCells l) _ _ HH.out ?h1 HBW.out).mono ?_)
   case h1=>
    rw[Lib.byteCells_length]
    have h5:=HLEN.out
    simp only[ByteArray.size,List.size_toArray,List.length_append,List.length_cons,List.length_nil]at h5 ⊢
    omega
   first|rintro e w2 rfl hd2 hb2 hk2|rintro e w2 ⟨rfl,hd2,hb2,hk2⟩
   have HD2:=Lib.hid (show Lib.IsBuilder 180 5 B b (Lib.byteCells (l++[32,43,32])) w2 from .inr (by rw[Lib.byteCells_append];exact hd2))
   have HB2:=Lib.hid hb2
   have HK2:=Lib.hid hk2
   have HY2:=Lib.hid (Nat.le_trans HBW.out hb2.size)
   clear hd2 hb2 hk2
   go_wp2_with (go_at_call 225;refine(writeString_any B b (Lib.byteCells (l++[32,43,32])) _ _ HD2.out ?h1 HY2.out).mono ?_)
   case h1=>
    rw[Lib.byteCells_length]
    have h5:=HLEN.out
    simp only[ByteArray.size,List.size_toArray,List.length_append,List.length_cons,List.length_nil]at h5 ⊢
    omega
   first|rintro e w3 rfl hd3 hb3 hk3|rintro e w3 ⟨rfl,hd3,hb3,hk3⟩
   go_wp2
   go_end0
   refine⟨rfl,?_,HB2.out.trans hb3,fun k cs T fr h1 h2 h3=>hk3 k cs T fr (HK2.out k cs T fr h1 h2 h3) h2 h3⟩
   rw[hs,Lib.byteCells_append]
   exact hd3
end Go.Proofs.YtpncilciembjdaaGreatDoor
namespace Go.Proofs.YtpncilciembjdaaGreatDoor
open Go.RowKit

def valL:List Nat->Nat
 |[]=>0
 |x::r=>x+4294967296*valL r
def Limbs(l:List Nat):Prop:=∀ x∈l,x<4294967296
def natL(n:Nat):List Nat:=if n=0 then [] else(n % 4294967296)::natL (n / 4294967296)
termination_by n
decreasing_by omega
theorem natL_0:natL 0=[]:=by rw[natL];rfl
theorem natL_pos{n:Nat}(h:n≠0):natL n=(n % 4294967296)::natL (n / 4294967296):=by rw[natL,if_neg h]
theorem natL_limbs:∀(n:Nat),Limbs (natL n):=by
 intro n
 induction n using Nat.strongRecOn with
 |ind n ih=>
  by_cases h:n=0
  .subst h;rw[natL_0];intro x hx;cases hx
  .rw[natL_pos h]
   intro x hx
   rcases List.mem_cons.1 hx with rfl|hx
   .exact Nat.mod_lt _ (by omega)
   .exact ih (n / 4294967296) (by omega) x hx
theorem valL_natL:∀(n:Nat),valL (natL n)=n:=by
 intro n
 induction n using Nat.strongRecOn with
 |ind n ih=>
  by_cases h:n=0
  .subst h;rw[natL_0];rfl
  .rw[natL_pos h,valL,ih (n / 4294967296) (by omega)]
   omega
def topL:List Nat->Nat
 |[]=>0
 |x::r=>if topL r=0/\x=0 then 0 else topL r+1
theorem topL_le:∀ l:List Nat,topL l<=l.length
 |[]=>Nat.le_refl _
 |x::r=>by
  have:=topL_le r
  unfold topL
  rw[List.length_cons]
  split<;>omega
theorem Limbs.cons{x:Nat}{r:List Nat}(h:Limbs (x::r)):x<4294967296/\Limbs r:=⟨h x (List.mem_cons_self ..),fun y hy=>h y (List.mem_cons_of_mem _ hy)⟩
theorem limbs_nil:Limbs []:=fun _ h=>by cases h
theorem limbs_cons{x:Nat}{r:List Nat}(h:x<4294967296)(h2:Limbs r):Limbs (x::r):=fun y hy=>by
 rcases List.mem_cons.1 hy with rfl|hy
 .exact h
 .exact h2 y hy
theorem limbs_app{a b:List Nat}(h:Limbs a)(h2:Limbs b):Limbs (a++b):=fun x hx=>by
 rcases List.mem_append.1 hx with hx|hx
 .exact h x hx
 .exact h2 x hx
theorem Limbs.take{l:List Nat}(h:Limbs l)(n:Nat):Limbs (l.take n):=fun x hx=>h x (List.mem_of_mem_take hx)
theorem Limbs.drop{l:List Nat}(h:Limbs l)(n:Nat):Limbs (l.drop n):=fun x hx=>h x (List.mem_of_mem_drop hx)
theorem Limbs.get{l:List Nat}(h:Limbs l){i:Nat}(hi:i<l.length):l[i]<4294967296:=h _ (List.getElem_mem hi)
theorem topL_0:∀{l:List Nat},topL l=0->valL l=0
 |[],_=>rfl
 |x::r,h=>by
  unfold topL at h
  split at h
  .rename_i h2
   rw[valL,topL_0 h2.1,h2.2]
  .omega
theorem valL_0:∀{l:List Nat},valL l=0->topL l=0
 |[],_=>rfl
 |x::r,h=>by
  rw[valL]at h
  unfold topL
  rw[if_pos ⟨valL_0 (by omega),by omega⟩]
theorem take_top:∀{l:List Nat},Limbs l->l.take (topL l)=natL (valL l)
 |[],_=>by rw[valL,natL_0];rfl
 |x::r,h=>by
  obtain⟨h1,h2⟩:=h.cons
  have ih:=take_top h2
  unfold topL
  split
  .rename_i h3
   rw[List.take_zero,valL,topL_0 h3.1,h3.2,natL_0]
  .rename_i h3
   have h0:valL (x::r)≠0:=by
    intro h0
    rw[valL]at h0
    exact h3 ⟨valL_0 (by omega),by omega⟩
   rw[List.take_succ_cons,natL_pos h0,valL]
   have e1:(x+4294967296*valL r) % 4294967296=x:=by omega
   have e2:(x+4294967296*valL r) / 4294967296=valL r:=by omega
   rw[e1,e2,ih]
theorem valL_app:∀(a b:List Nat),valL (a++b)=valL a+4294967296 ^ a.length*valL b
 |[],b=>by simp[valL]
 |x::r,b=>by
  rw[List.cons_append,valL,valL_app r b,valL,List.length_cons,Nat.pow_succ,Nat.mul_add,←Nat.mul_assoc,Nat.mul_comm 4294967296 (4294967296 ^ r.length)]
  omega
theorem valL_lt:∀{l:List Nat},Limbs l->valL l<4294967296 ^ l.length
 |[],_=>by simp[valL]
 |x::r,h=>by
  obtain⟨h1,h2⟩:=h.cons
  have:=valL_lt h2
  rw[valL,List.length_cons,Nat.pow_succ]
  omega
theorem natL_len(l:List Nat)(h:Limbs l):(natL (valL l)).length=topL l:=by
 rw[←take_top h,List.length_take]
 have:=topL_le l
 omega
theorem natL_len_le{n k:Nat}(h:n<4294967296 ^ k):(natL n).length<=k:=by
 induction k generalizing n with
 |zero=>
  have:n=0:=by simpa using h
  subst this;rw[natL_0];exact Nat.le_refl _
 |succ k ih=>
  by_cases h0:n=0
  .subst h0;rw[natL_0];exact Nat.zero_le _
  .rw[natL_pos h0,List.length_cons]
   have:n / 4294967296<4294967296 ^ k:=by
    rw[Nat.div_lt_iff_lt_mul (by omega)]
    rw[Nat.pow_succ]at h
    exact h
   have:=ih this
   omega
theorem le_natL_len{n k:Nat}(h:4294967296 ^ k<=n):k<(natL n).length:=by
 by_cases h2:k<(natL n).length
 .exact h2
 .have h3:=valL_lt (natL_limbs n)
  rw[valL_natL]at h3
  have h4:4294967296 ^ (natL n).length<=4294967296 ^ k:=Nat.pow_le_pow_right (by omega) (by omega)
  omega
theorem topL_last:∀{l:List Nat},0<topL l->∃ x,l[topL l-1]? = some x/\x≠0
 |[],h=>by simp[topL]at h
 |y::r,h=>by
  by_cases h1:topL r=0
  .have h2:y≠0:=by
    intro h2
    unfold topL at h
    rw[if_pos ⟨h1,h2⟩]at h
    omega
   refine⟨y,?_,h2⟩
   unfold topL
   rw[if_neg (fun e=>h2 e.2),h1]
   rfl
  .obtain⟨x,h3,h4⟩:=topL_last (l:=r) (by omega)
   refine⟨x,?_,h4⟩
   unfold topL
   rw[if_neg (fun e=>h1 e.1)]
   have:topL r+1-1=(topL r-1)+1:=by omega
   rw[this,List.getElem?_cons_succ,h3]
theorem topL_ge:∀{l:List Nat} {i x:Nat},l[i]? = some x->x≠0->i<topL l
 |[],i,x,h,_=>by simp at h
 |y::r,0,x,h,h2=>by
  have h:y=x:=by simpa using h
  unfold topL
  rw[if_neg (fun e=>h2 (by rw[←h];exact e.2))]
  omega
 |y::r,i+1,x,h,h2=>by
  rw[List.getElem?_cons_succ]at h
  have:=topL_ge h h2
  unfold topL
  rw[if_neg (fun e=>by omega)]
  omega
theorem topL_down{l:List Nat}{n:Nat}(h:topL l<=n+1)(h2:l[n]? = some 0):topL l<=n:=by
 by_cases h3:topL l=n+1
 .obtain⟨x,h4,h5⟩:=topL_last (l:=l) (by omega)
  rw[h3,Nat.add_sub_cancel,h2]at h4
  injection h4 with h4
  exact absurd h4.symm h5
 .omega
def eL(n:Nat):List AV:=[.v (.int .u32 (n:Int))]
def eN(l:List Nat):AV:=.ls (l.map eL)
theorem eL_len(x:Nat):(eL x).length=1:=rfl
end Go.Proofs.YtpncilciembjdaaGreatDoor
namespace Go.Proofs.YtpncilciembjdaaGreatDoor
open Go.RowKit

def addL:Nat->List Nat->List Nat->List Nat
 |c,[],_=>[c]
 |c,x::a,b=>((x+b.headD 0+c) % 4294967296)::addL ((x+b.headD 0+c) / 4294967296) a b.tail
theorem headD_lt{b:List Nat}(h:Limbs b):b.headD 0<4294967296:=by
 cases b with
 |nil=>simp
 |cons y b=>exact h.cons.1
theorem Limbs.tail{b:List Nat}(h:Limbs b):Limbs b.tail:=by
 cases b with
 |nil=>exact h
 |cons y b=>exact h.cons.2
theorem valL_ht(b:List Nat):valL b=b.headD 0+4294967296*valL b.tail:=by
 cases b<;>rfl
theorem valL_addL:∀(a b:List Nat) (c:Nat),b.length<=a.length->valL (addL c a b)=c+valL a+valL b
 |[],b,c,h=>by
  obtain rfl:b=[]:=List.length_eq_zero_iff.1 (by simpa using h)
  simp[addL,valL]
 |x::a,b,c,h=>by
  have ih:=valL_addL a b.tail ((x+b.headD 0+c) / 4294967296) (by simp at h ⊢;omega)
  rw[addL,valL,ih,valL,valL_ht b]
  omega
theorem addL_limbs:∀(a b:List Nat) (c:Nat),Limbs a->Limbs b->c<=1->Limbs (addL c a b)
 |[],b,c,_,_,hc=>limbs_cons (by omega) limbs_nil
 |x::a,b,c,ha,hb,hc=>by
  have h1:=headD_lt hb
  have h2:=ha.cons
  exact limbs_cons (Nat.mod_lt _ (by omega)) (addL_limbs a b.tail _ h2.2 hb.tail (by omega))
def addR:Nat->Nat->List Nat->List Nat->List Nat
 |0,_,_,_=>[]
 |k+1,c,a,b=>((a.headD 0+b.headD 0+c) % 4294967296)::addR k ((a.headD 0+b.headD 0+c) / 4294967296) a.tail b.tail
theorem valL_addR:∀(k c:Nat) (a b:List Nat),valL (addR k c a b)=(c+valL a+valL b) % 4294967296 ^ k
 |0,c,a,b=>by simp[addR,valL,Nat.mod_one]
 |k+1,c,a,b=>by
  have ih:=valL_addR k ((a.headD 0+b.headD 0+c) / 4294967296) a.tail b.tail
  rw[addR,valL,ih,valL_ht a,valL_ht b,Nat.pow_succ,Nat.mul_comm (4294967296 ^ k) 4294967296,Nat.mod_mul]
  have e1:(c+(a.headD 0+4294967296*valL a.tail)+(b.headD 0+4294967296*valL b.tail)) % 4294967296=(a.headD 0+b.headD 0+c) % 4294967296:=by omega
  have e2:(c+(a.headD 0+4294967296*valL a.tail)+(b.headD 0+4294967296*valL b.tail)) / 4294967296=(a.headD 0+b.headD 0+c) / 4294967296+valL a.tail+valL b.tail:=by omega
  rw[e1,e2]
theorem addR_limbs:∀(k c:Nat) (a b:List Nat),Limbs (addR k c a b)
 |0,_,_,_=>limbs_nil
 |k+1,c,a,b=>limbs_cons (Nat.mod_lt _ (by omega)) (addR_limbs k _ _ _)
def subL:Nat->List Nat->List Nat->List Nat
 |_,[],_=>[]
 |c,x::a,b=>(if x<b.headD 0+c then x+4294967296-(b.headD 0+c) else x-(b.headD 0+c))::subL (if x<b.headD 0+c then 1 else 0) a b.tail
def subC:Nat->List Nat->List Nat->Nat
 |c,[],_=>c
 |c,x::a,b=>subC (if x<b.headD 0+c then 1 else 0) a b.tail
theorem subC_le:∀(a b:List Nat) (c:Nat),c<=1->subC c a b<=1
 |[],_,_,h=>h
 |x::a,b,c,h=>subC_le a b.tail _ (by split<;>omega)
theorem valL_subL:∀(a b:List Nat) (c:Nat),Limbs a->Limbs b->c<=1->b.length<=a.length->valL (subL c a b)+valL b+c=valL a+4294967296 ^ a.length*subC c a b
 |[],b,c,_,_,_,h=>by
  obtain rfl:b=[]:=List.length_eq_zero_iff.1 (by simpa using h)
  simp[subL,subC,valL]
 |x::a,b,c,ha,hb,hc,h=>by
  have h1:=headD_lt hb
  have h2:=ha.cons
  rw[subL,subC,valL,valL,valL_ht b,List.length_cons,Nat.pow_succ]
  have ih:=valL_subL a b.tail (if x<b.headD 0+c then 1 else 0) h2.2 hb.tail (by split<;>omega) (by simp at h ⊢;omega)
  rw[Nat.mul_comm (4294967296 ^ a.length) 4294967296,Nat.mul_assoc]
  revert ih
  generalize 4294967296 ^ a.length*subC (if x<b.headD 0+c then 1 else 0) a b.tail=z
  generalize valL (subL (if x<b.headD 0+c then 1 else 0) a b.tail)=s
  intro ih
  split at ih
  .rename_i h3
   rw[if_pos h3]
   omega
  .rename_i h3
   rw[if_neg h3]
   omega
theorem subL_limbs:∀(a b:List Nat) (c:Nat),Limbs a->Limbs b->c<=1->Limbs (subL c a b)
 |[],_,_,_,_,_=>limbs_nil
 |x::a,b,c,ha,hb,hc=>by
  have h1:=headD_lt hb
  have h2:=ha.cons
  refine limbs_cons ?_ (subL_limbs a b.tail _ h2.2 hb.tail (by split<;>omega))
  split<;>omega
theorem subL_len:∀(a b:List Nat) (c:Nat),(subL c a b).length=a.length
 |[],_,_=>rfl
 |x::a,b,c=>by rw[subL,List.length_cons,subL_len a,List.length_cons]
theorem valL_sub{a b:List Nat}(ha:Limbs a)(hb:Limbs b)(h:b.length<=a.length)(hv:valL b<=valL a):valL (subL 0 a b)=valL a-valL b:=by
 have h1:=valL_subL a b 0 ha hb (by omega) h
 have h2:=valL_lt (subL_limbs a b 0 ha hb (by omega))
 rw[subL_len]at h2
 have h3:=subC_le a b 0 (by omega)
 have h4:=valL_lt ha
 rcases Nat.lt_or_ge (subC 0 a b) 1 with h5|h5
 .rw[show subC 0 a b=0 by omega]at h1
  omega
 .rw[show subC 0 a b=1 by omega]at h1
  omega
def mulR:Nat->Nat->List Nat->List Nat->List Nat
 |_,c,[],o=>c::o.tail
 |x,c,y::b,o=>((x*y+o.headD 0+c) % 4294967296)::mulR x ((x*y+o.headD 0+c) / 4294967296) b o.tail
theorem valL_mulR:∀(x:Nat) (b o:List Nat) (c:Nat),(o.drop b.length).headD 0=0->valL (mulR x c b o)=x*valL b+valL o+c
 |x,[],o,c,h=>by
  have h:o.headD 0=0:=h
  rw[mulR,valL,valL,valL_ht o,h]
  omega
 |x,y::b,o,c,h=>by
  have h2:(o.tail.drop b.length).headD 0=0:=by
   rw[List.length_cons]at h
   cases o with
   |nil=>simp
   |cons z o=>exact h
  have ih:=valL_mulR x b o.tail ((x*y+o.headD 0+c) / 4294967296) h2
  have e:x*(y+4294967296*valL b)=x*y+4294967296*(x*valL b):=by
   rw[Nat.mul_add,←Nat.mul_assoc,Nat.mul_comm x 4294967296,Nat.mul_assoc]
  rw[mulR,valL,ih,valL,valL_ht o,e]
  omega
theorem mul_lt{x y:Nat}(hx:x<4294967296)(hy:y<4294967296):x*y<=18446744065119617025:=by
 have:=Nat.mul_le_mul (show x<=4294967295 by omega) (show y<=4294967295 by omega)
 omega
theorem mulR_limbs:∀(x:Nat) (b o:List Nat) (c:Nat),x<4294967296->Limbs b->Limbs o->c<4294967296->Limbs (mulR x c b o)
 |x,[],o,c,_,_,ho,hc=>limbs_cons hc ho.tail
 |x,y::b,o,c,hx,hb,ho,hc=>by
  have h1:=headD_lt ho
  have h2:=hb.cons
  have h3:=mul_lt hx h2.1
  exact limbs_cons (Nat.mod_lt _ (by omega)) (mulR_limbs x b o.tail _ hx h2.2 ho.tail (by omega))
def smallL:Nat->Nat->List Nat->List Nat
 |_,c,[]=>[c]
 |m,c,x::a=>((x*m+c) % 4294967296)::smallL m ((x*m+c) / 4294967296) a
theorem valL_smallL:∀(m:Nat) (a:List Nat) (c:Nat),valL (smallL m c a)=valL a*m+c
 |m,[],c=>by simp[smallL,valL]
 |m,x::a,c=>by
  rw[smallL,valL,valL_smallL m a,valL,Nat.add_mul,Nat.mul_assoc]
  omega
theorem smallL_limbs:∀(m:Nat) (a:List Nat) (c:Nat),m<4294967296->Limbs a->c<4294967296->Limbs (smallL m c a)
 |m,[],c,_,_,hc=>limbs_cons hc limbs_nil
 |m,x::a,c,hm,ha,hc=>by
  have h2:=ha.cons
  have h3:=mul_lt h2.1 hm
  exact limbs_cons (Nat.mod_lt _ (by omega)) (smallL_limbs m a _ hm h2.2 (by omega))
def cmpN(a b:Nat):Int:=if a<b then -1 else if b<a then 1 else 0
theorem cmp_snoc{a b:List Nat}(ha:Limbs a)(hb:Limbs b)(h:a.length=b.length)(x y:Nat):cmpN (valL (a++[x])) (valL (b++[y]))=if x<y then -1 else if y<x then 1 else cmpN (valL a) (valL b):=by
 rw[valL_app,valL_app,←h]
 have h1:=valL_lt ha
 have h2:=valL_lt hb
 rw[←h]at h2
 simp only[valL,Nat.mul_zero,Nat.add_zero]
 revert h1 h2
 generalize 4294967296 ^ a.length=k
 generalize valL a=p
 generalize valL b=q
 intro h1 h2
 by_cases h3:x<y
 .rw[if_pos h3]
  have:k*(x+1)<=k*y:=Nat.mul_le_mul_left _ h3
  rw[Nat.mul_add]at this
  unfold cmpN
  rw[if_pos (by omega)]
 .rw[if_neg h3]
  by_cases h4:y<x
  .rw[if_pos h4]
   have:k*(y+1)<=k*x:=Nat.mul_le_mul_left _ h4
   rw[Nat.mul_add]at this
   unfold cmpN
   rw[if_neg (by omega),if_pos (by omega)]
  .rw[if_neg h4]
   obtain rfl:x=y:=by omega
   unfold cmpN
   by_cases h5:p<q
   .rw[if_pos (by omega),if_pos h5]
   .rw[if_neg (by omega),if_neg h5]
    by_cases h6:q<p
    .rw[if_pos (by omega),if_pos h6]
    .rw[if_neg (by omega),if_neg h6]
end Go.Proofs.YtpncilciembjdaaGreatDoor
namespace Go.Proofs.YtpncilciembjdaaGreatDoor
open Go.RowKit

structure Zi where
 neg:Bool
 abs:List Nat
def sgI(neg:Bool)(n:Nat):Int:=if neg then -(n:Int) else n
def zv(z:Zi):Int:=sgI z.neg (valL z.abs)
def ziOf(n:Int):Zi:=⟨decide (n<0),natL n.natAbs⟩
def eZ(z:Zi):List AV:=[bv z.neg,eN z.abs]
theorem sgI_abs(n:Int):sgI (decide (n<0)) n.natAbs=n:=by
 unfold sgI
 by_cases h:n<0
 .rw[decide_eq_true h,if_pos rfl];omega
 .rw[decide_eq_false h,if_neg (by simp)];omega
theorem zv_ziOf(n:Int):zv (ziOf n)=n:=by
 unfold zv ziOf
 rw[valL_natL]
 exact sgI_abs n
theorem ziOf_sg(neg:Bool)(v:Nat):ziOf (sgI neg v)=⟨neg&&decide (0<v),natL v⟩:=by
 unfold ziOf sgI
 cases neg with
 |false=>
  rw[if_neg (by simp),Bool.false_and,decide_eq_false (by omega)]
  rfl
 |true=>
  rw[if_pos rfl,Bool.true_and,Int.natAbs_neg,Int.natAbs_natCast]
  congr 1
  by_cases h:0<v
  .rw[decide_eq_true h,decide_eq_true (by omega)]
  .rw[decide_eq_false h,decide_eq_false (by omega)]
theorem ziOf_0:ziOf 0=⟨false,[]⟩:=by
 unfold ziOf
 rw[show (0:Int).natAbs=0 from rfl,natL_0]
 rfl
structure Lz (k:Nat) (z:Zi):Prop where
 lim:Limbs z.abs
 len:z.abs.length<=k
theorem Lz.mono{k m:Nat}{z:Zi}(h:Lz k z)(hm:k<=m):Lz m z:=⟨h.lim,by have:=h.len;omega⟩
def InB(k:Nat)(n:Int):Prop:=n.natAbs<4294967296 ^ k
theorem InB.lz{k:Nat}{n:Int}(h:InB k n):Lz k (ziOf n):=⟨natL_limbs _,natL_len_le h⟩
theorem Lz.inb{k:Nat}{z:Zi}(h:Lz k z):InB k (zv z):=by
 unfold InB zv
 have h1:=valL_lt h.lim
 have h2:4294967296 ^ z.abs.length<=4294967296 ^ k:=Nat.pow_le_pow_right (by omega) h.len
 have h3:(sgI z.neg (valL z.abs)).natAbs=valL z.abs:=by
  unfold sgI
  split
  .rw[Int.natAbs_neg];rfl
  .rfl
 omega
theorem InB.mono{k m:Nat}{n:Int}(h:InB k n)(hm:k<=m):InB m n:=by
 unfold InB at *
 have h2:4294967296 ^ k<=4294967296 ^ m:=Nat.pow_le_pow_right (by omega) hm
 omega
theorem InB.add{k:Nat}{a b:Int}(ha:InB k a)(hb:InB k b):InB (k+1) (a+b):=by
 unfold InB at *
 have:=Int.natAbs_add_le a b
 rw[Nat.pow_succ]
 omega
theorem InB.mul{k m:Nat}{a b:Int}(ha:InB k a)(hb:InB m b):InB (k+m) (a*b):=by
 unfold InB at *
 rw[Int.natAbs_mul,Nat.pow_add]
 have h1:a.natAbs*b.natAbs<=a.natAbs*4294967296 ^ m:=Nat.mul_le_mul_left _ (Nat.le_of_lt hb)
 have h2:a.natAbs*4294967296 ^ m<4294967296 ^ k*4294967296 ^ m:=Nat.mul_lt_mul_of_pos_right ha (Nat.pow_pos (by omega))
 omega
theorem InB.zero(k:Nat):InB k 0:=by
 unfold InB
 exact Nat.pow_pos (by omega)
def cmpZ(a b:Int):Int:=if a<b then -1 else if b<a then 1 else 0
def sgnZ(n:Int):Int:=if n<0 then -1 else if 0<n then 1 else 0
theorem zv_neg(z:Zi):zv z<0 ↔ z.neg=true/\0<valL z.abs:=by
 obtain⟨n,l⟩:=z
 cases n with
 |true=>
  show (-(valL l:Int)<0) ↔ (true=true/\0<valL l)
  exact⟨fun h=>⟨rfl,by omega⟩,fun h=>by have:=h.2;omega⟩
 |false=>
  show ((valL l:Int)<0) ↔ (false=true/\0<valL l)
  exact⟨fun h=>by omega,fun h=>by cases h.1⟩
theorem zv_zero(z:Zi):zv z=0 ↔ valL z.abs=0:=by
 unfold zv sgI
 split<;>omega
theorem natL_pos_iff{n:Nat}:0<(natL n).length ↔ 0<n:=by
 constructor
 .intro h
  by_cases h0:n=0
  .subst h0;rw[natL_0]at h;simp at h
  .omega
 .intro h
  rw[natL_pos (by omega)]
  simp
end Go.Proofs.YtpncilciembjdaaGreatDoor
namespace Go.Proofs.YtpncilciembjdaaGreatDoor
open Go.RowKit

def coefL(v:Int):List (Int × Int)->Int
 |[]=>0
 |p::r=>(if p.1=v then p.2 else 0)+coefL v r
theorem coefL_none{v:Int}:∀{l:List (Int × Int)},(∀ p∈l,p.1≠v)->coefL v l=0
 |[],_=>rfl
 |p::r,h=>by
  rw[coefL,if_neg (h p (List.mem_cons_self ..)),coefL_none fun q hq=>h q (List.mem_cons_of_mem _ hq)]
  rfl
structure Pln (l:List (Int × Int)):Prop where
 asc:l.Pairwise fun a b=>a.1<b.1
 pos:∀ p∈l,0<=p.1
 nz:∀ p∈l,p.2≠0
theorem pln_nil:Pln []:=⟨.nil,by simp,by simp⟩
theorem Pln.tail{p:Int × Int}{r:List (Int × Int)}(h:Pln (p::r)):Pln r:=⟨(List.pairwise_cons.1 h.asc).2,fun q hq=>h.pos q (List.mem_cons_of_mem _ hq),fun q hq=>h.nz q (List.mem_cons_of_mem _ hq)⟩
theorem Pln.head{p:Int × Int}{r:List (Int × Int)}(h:Pln (p::r)):coefL p.1 (p::r)=p.2:=by
 rw[coefL,if_pos rfl,coefL_none fun q hq=>by have:=(List.pairwise_cons.1 h.asc).1 q hq;omega]
 omega
theorem Pln.below{p:Int × Int}{r:List (Int × Int)}(h:Pln (p::r)){v:Int}(hv:v<p.1):coefL v (p::r)=0:=by
 refine coefL_none fun q hq=>?_
 rcases List.mem_cons.1 hq with rfl|hq
 .omega
 .have:=(List.pairwise_cons.1 h.asc).1 q hq
  omega
def insP(v c:Int):List (Int × Int)->List (Int × Int)
 |[]=>if c=0 then [] else [(v,c)]
 |p::r=>if v<p.1 then(if c=0 then p::r else(v,c)::p::r) else if p.1<v then p::insP v c r else if p.2+c=0 then r else(v,p.2+c)::r
theorem insP_coef(v c u:Int):∀ l:List (Int × Int),coefL u (insP v c l)=(if v=u then c else 0)+coefL u l
 |[]=>by
  unfold insP
  split
  .rename_i h;simp[coefL,h]
  .simp[coefL]
 |p::r=>by
  have ih:=insP_coef v c u r
  unfold insP
  split
  .split
   .rename_i h;rw[h];simp
   .rfl
  .split
   .rw[coefL,ih,coefL];omega
   .have e:p.1=v:=by omega
    split
    .rename_i h
     rw[coefL,e]
     split<;>omega
    .rw[coefL,coefL,e]
     split<;>omega
theorem insP_mem{v c:Int}:∀{l:List (Int × Int)} {q:Int × Int},q∈insP v c l->q.1=v\/q∈l
 |[],q,h=>by
  unfold insP at h
  split at h
  .exact .inr h
  .rw[List.mem_singleton.1 h];exact .inl rfl
 |p::r,q,h=>by
  unfold insP at h
  split at h
  .split at h
   .exact .inr h
   .rcases List.mem_cons.1 h with h|h
    .rw[h];exact .inl rfl
    .exact .inr h
  .split at h
   .rcases List.mem_cons.1 h with h|h
    .rw[h];exact .inr (List.mem_cons_self ..)
    .rcases insP_mem h with h|h
     .exact .inl h
     .exact .inr (List.mem_cons_of_mem _ h)
   .split at h
    .exact .inr (List.mem_cons_of_mem _ h)
    .rcases List.mem_cons.1 h with h|h
     .rw[h];exact .inl rfl
     .exact .inr (List.mem_cons_of_mem _ h)
theorem insP_pln{v c:Int}(hv:0<=v):∀{l:List (Int × Int)},Pln l->Pln (insP v c l)
 |[],_=>by
  unfold insP
  split
  .exact pln_nil
  .rename_i h
   exact⟨List.pairwise_singleton _ _,by simpa using hv,by simpa using h⟩
 |p::r,h=>by
  have ih:=insP_pln (c:=c) hv h.tail
  have hp:=List.pairwise_cons.1 h.asc
  unfold insP
  split
  .rename_i h1
   split
   .exact h
   .rename_i h2
    refine⟨List.pairwise_cons.2 ⟨fun q hq=>?_,h.asc⟩,fun q hq=>?_,fun q hq=>?_⟩
    .rcases List.mem_cons.1 hq with rfl|hq
     .exact h1
     .have:=hp.1 q hq;simp only;omega
    .rcases List.mem_cons.1 hq with rfl|hq
     .exact hv
     .exact h.pos q hq
    .rcases List.mem_cons.1 hq with rfl|hq
     .exact h2
     .exact h.nz q hq
  .split
   .rename_i h1 h2
    refine⟨List.pairwise_cons.2 ⟨fun q hq=>?_,ih.asc⟩,fun q hq=>?_,fun q hq=>?_⟩
    .rcases insP_mem hq with e|hq
     .rw[e];exact h2
     .exact hp.1 q hq
    .rcases List.mem_cons.1 hq with rfl|hq
     .exact h.pos _ (List.mem_cons_self ..)
     .exact ih.pos q hq
    .rcases List.mem_cons.1 hq with rfl|hq
     .exact h.nz _ (List.mem_cons_self ..)
     .exact ih.nz q hq
   .rename_i h1 h2
    split
    .exact h.tail
    .rename_i h3
     refine⟨List.pairwise_cons.2 ⟨fun q hq=>?_,hp.2⟩,fun q hq=>?_,fun q hq=>?_⟩
     .have:=hp.1 q hq;simp only;omega
     .rcases List.mem_cons.1 hq with rfl|hq
      .exact hv
      .exact h.tail.pos q hq
     .rcases List.mem_cons.1 hq with rfl|hq
      .exact h3
      .exact h.tail.nz q hq
def plnOf:List (Int × Int)->List (Int × Int)
 |[]=>[]
 |p::r=>if 0<=p.1 then insP p.1 p.2 (plnOf r) else plnOf r
theorem plnOf_pln:∀ l:List (Int × Int),Pln (plnOf l)
 |[]=>pln_nil
 |p::r=>by
  unfold plnOf
  split
  .rename_i h;exact insP_pln h (plnOf_pln r)
  .exact plnOf_pln r
theorem plnOf_coef(v:Int):∀ l:List (Int × Int),coefL v (plnOf l)=if 0<=v then coefL v l else 0
 |[]=>by simp[plnOf,coefL]
 |p::r=>by
  have ih:=plnOf_coef v r
  unfold plnOf
  by_cases h:0<=p.1
  .by_cases hv:0<=v
   .rw[if_pos h,insP_coef,ih,coefL,if_pos hv,if_pos hv]
   .rw[if_pos h,insP_coef,ih,if_neg hv,if_neg hv,if_neg (by omega)]
    rfl
  .by_cases hv:0<=v
   .rw[if_neg h,ih,coefL,if_pos hv,if_pos hv,if_neg (show ¬ p.1=v by omega)]
    omega
   .rw[if_neg h,ih,if_neg hv,if_neg hv]
theorem plnOf_len:∀ l:List (Int × Int),(plnOf l).length<=l.length
 |[]=>Nat.le_refl _
 |p::r=>by
  have ih:=plnOf_len r
  have ins:∀ l:List (Int × Int),(insP p.1 p.2 l).length<=l.length+1:=fun l=>by
   induction l with
   |nil=>unfold insP;split<;>simp
   |cons q s ih=>
    unfold insP
    split
    .split<;>simp
    .split
     .simpa using ih
     .split
      .simp;omega
      .simp
  unfold plnOf
  split
  .have:=ins (plnOf r)
   rw[List.length_cons]
   omega
  .rw[List.length_cons]
   omega
end Go.Proofs.YtpncilciembjdaaGreatDoor
namespace Go.Proofs.YtpncilciembjdaaGreatDoor
open Go.RowKit

section
variable {α:Type} (key:α->Int)
def kf(l:List α)(p:Nat):Int:=match l[p]? with
 |some x=>key x
 |none=>0
def Srt(l:List α)(a b:Nat):Prop:=∀ p q,a<=p->p<q->q<b->kf key l p<=kf key l q
def Same0(l r:List α)(a b:Nat):Prop:=∀ p,(p<a\/b<=p)->r[p]? = l[p]?
theorem Same0.trans{l r s:List α}{a b:Nat}(h1:Same0 l r a b)(h2:Same0 r s a b):Same0 l s a b:=fun p hp=>(h2 p hp).trans (h1 p hp)
theorem Same0.kf{l r:List α}{a b p:Nat}(h:Same0 l r a b)(hp:p<a\/b<=p):kf key r p=kf key l p:=by
 unfold Go.Proofs.YtpncilciembjdaaGreatDoor.kf
 rw[h p hp]
end
end Go.Proofs.YtpncilciembjdaaGreatDoor
namespace Go.Proofs.YtpncilciembjdaaGreatDoor
open Go.RowKit

theorem br_eqT{a b:Int}(h:a=b){x y:KR}:br (realA.eq a b) x y=x:=by rw[r_eq,decide_eq_true h];rfl
theorem br_eqF{a b:Int}(h:¬ a=b){x y:KR}:br (realA.eq a b) x y=y:=by rw[r_eq,decide_eq_false h];rfl
theorem br_seqT{a b:ByteArray}(h:a=b){x y:KR}:br (realA.seq a b) x y=x:=by rw[r_seq,decide_eq_true h];rfl
theorem br_ltT{a b:Int}(h:a<b){x y:KR}:br (realA.lt a b) x y=x:=by rw[r_lt,decide_eq_true h];rfl
theorem br_ltF{a b:Int}(h:¬ a<b){x y:KR}:br (realA.lt a b) x y=y:=by rw[r_lt,decide_eq_false h];rfl
theorem br_leT{a b:Int}(h:a<=b){x y:KR}:br (realA.le a b) x y=x:=by rw[r_le,decide_eq_true h];rfl
theorem br_leF{a b:Int}(h:¬ a<=b){x y:KR}:br (realA.le a b) x y=y:=by rw[r_le,decide_eq_false h];rfl
end Go.Proofs.YtpncilciembjdaaGreatDoor
namespace Go.Proofs.YtpncilciembjdaaGreatDoor
open Go.RowKit
variable (A:Ar) (D:Orc)
end Go.Proofs.YtpncilciembjdaaGreatDoor
namespace Go.Proofs.YtpncilciembjdaaGreatDoor
open Go.RowKit

structure Pt where
 v:Int
 z:Zi
def eP(p:Pt):List AV:=[iv p.v,bv p.z.neg,eN p.z.abs]


end Go.Proofs.YtpncilciembjdaaGreatDoor
namespace Go.Proofs.YtpncilciembjdaaGreatDoor
open Go.RowKit

structure Tm where
 ps:List Pt
 k:Zi
def eT(t:Tm):List AV:=[.ls (t.ps.map eP),bv t.k.neg,eN t.k.abs]
structure Lf where
 ps:List (Int × Int)
 k:Int
def pv(p:Pt):Int × Int:=(p.v,zv p.z)
def ptOf(p:Int × Int):Pt:=⟨p.1,ziOf p.2⟩
def Tm.lf(t:Tm):Lf:=⟨t.ps.map pv,zv t.k⟩
def Lf.tm(l:Lf):Tm:=⟨l.ps.map ptOf,ziOf l.k⟩
def Lf.pln(l:Lf):Lf:=⟨plnOf l.ps,l.k⟩
theorem pv_ptOf(p:Int × Int):pv (ptOf p)=p:=by
 unfold pv ptOf
 rw[zv_ziOf]
theorem tm_lf(l:Lf):l.tm.lf=l:=by
 obtain⟨ps,k⟩:=l
 unfold Lf.tm Tm.lf
 simp only[List.map_map,zv_ziOf]
 rw[show (pv ∘ ptOf)=id from funext pv_ptOf,List.map_id]
structure TmB (n k:Nat) (t:Tm):Prop where
 len:t.ps.length<=n
 ps:∀ p∈t.ps,Lz k p.z
 k:Lz k t.k
structure LB (n k:Nat) (l:Lf):Prop where
 len:l.ps.length<=n
 ps:∀ p∈l.ps,InB k p.2
 k:InB k l.k
theorem TmB.lb{n k:Nat}{t:Tm}(h:TmB n k t):LB n k t.lf:=by
 refine⟨by simpa[Tm.lf]using h.len,fun p hp=>?_,h.k.inb⟩
 simp only[Tm.lf,List.mem_map]at hp
 obtain⟨q,hq,rfl⟩:=hp
 exact(h.ps q hq).inb
theorem LB.mono{n k m j:Nat}{l:Lf}(h:LB n k l)(hn:n<=m)(hk:k<=j):LB m j l:=⟨by have:=h.len;omega,fun p hp=>(h.ps p hp).mono hk,h.k.mono hk⟩
theorem TmB.mono{n k m j:Nat}{t:Tm}(h:TmB n k t)(hn:n<=m)(hk:k<=j):TmB m j t:=⟨by have:=h.len;omega,fun p hp=>(h.ps p hp).mono hk,h.k.mono hk⟩
theorem coefL_inb{k:Nat}(v:Int):∀ l:List (Int × Int),(∀ p∈l,InB k p.2)->InB (k+l.length) (coefL v l)
 |[],_=>InB.zero _
 |p::r,h=>by
  have h1:=coefL_inb v r fun q hq=>h q (List.mem_cons_of_mem _ hq)
  have h2:=h p (List.mem_cons_self ..)
  rw[coefL,List.length_cons,←Nat.add_assoc]
  refine InB.add ?_ h1
  split
  .exact h2.mono (by omega)
  .exact InB.zero _
theorem Pln.mem:∀{l:List (Int × Int)},Pln l->∀ p∈l,coefL p.1 l=p.2
 |q::r,h,p,hp=>by
  rcases List.mem_cons.1 hp with rfl|hp
  .exact h.head
  .rw[coefL,if_neg (by have:=(List.pairwise_cons.1 h.asc).1 p hp;omega),h.tail.mem p hp]
   omega
theorem LB.pln{n k:Nat}{l:Lf}(h:LB n k l):LB n (k+n) l.pln:=by
 have hl:=plnOf_len l.ps
 refine⟨by have:=h.len;simp only[Lf.pln];omega,fun p hp=>?_,h.k.mono (by omega)⟩
 have h1:=(plnOf_pln l.ps).mem p hp
 rw[plnOf_coef,if_pos ((plnOf_pln l.ps).pos p hp)]at h1
 rw[←h1]
 exact(coefL_inb p.1 l.ps h.ps).mono (by have:=h.len;omega)
def Lf.add(a b:Lf):Lf:=Lf.pln ⟨a.ps++b.ps,a.k+b.k⟩
def Lf.scale(a:Lf)(n:Int):Lf:=Lf.pln ⟨a.ps.map fun p=>(p.1,p.2*n),a.k*n⟩
def Lf.sub(a b:Lf):Lf:=a.add (b.scale (-1))
def Lf.num(k:Int):Lf:=⟨[],k⟩
theorem LB.app{n k m j:Nat}{a b:Lf}(ha:LB n k a)(hb:LB m j b):LB (n+m) (k+j+1) ⟨a.ps++b.ps,a.k+b.k⟩:=by
 refine⟨by have:=ha.len;have:=hb.len;simp only[List.length_append];omega,fun p hp=>?_,InB.add (ha.k.mono (by omega)) (hb.k.mono (by omega))⟩
 rcases List.mem_append.1 hp with h|h
 .exact(ha.ps p h).mono (by omega)
 .exact(hb.ps p h).mono (by omega)
theorem LB.mul{n k j:Nat}{a:Lf}{x:Int}(ha:LB n k a)(hx:InB j x):LB n (k+j) ⟨a.ps.map fun p=>(p.1,p.2*x),a.k*x⟩:=by
 refine⟨by simpa using ha.len,fun p hp=>?_,InB.mul ha.k hx⟩
 simp only[List.mem_map]at hp
 obtain⟨q,hq,rfl⟩:=hp
 exact InB.mul (ha.ps q hq) hx
theorem LB.add{n k m j:Nat}{a b:Lf}(ha:LB n k a)(hb:LB m j b):LB (n+m) (k+j+1+(n+m)) (a.add b):=(ha.app hb).pln
theorem LB.scale{n k j:Nat}{a:Lf}{x:Int}(ha:LB n k a)(hx:InB j x):LB n (k+j+n) (a.scale x):=(ha.mul hx).pln
def sumV(f:Int->Int):List (Int × Int)->Int
 |[]=>0
 |p::r=>p.2*f p.1+sumV f r
def Lf.val(f:Int->Int)(l:Lf):Int:=sumV f l.ps+l.k
def valF(vals:List Int)(v:Int):Int:=if v<0 then 0 else vals.getD v.toNat 0
theorem valF_neg(vals:List Int)(v:Int)(h:v<0):valF vals v=0:=if_pos h
end Go.Proofs.YtpncilciembjdaaGreatDoor
namespace Go.Proofs.YtpncilciembjdaaGreatDoor
open Go.RowKit

structure PartH (dq:Nat->DF) (names:AV) (one:Zi) (p:Pt) (it:Bool × List UInt8) where
 nm:List UInt8
 many:Zi
 c:Int
 s:Int
 name:dq 188 [iv p.v,names] []=some (sv (bstr nm),[])
 abs:dq 189 [.agg (eZ p.z)] []=some (.agg (eZ many),[])
 cmp:dq 155 [.agg (eZ many),.agg (eZ one)] []=some (iv c,[])
 sign:dq 64 [.agg (eZ p.z)] []=some (iv s,[])
 neg:it.1=decide (s<0)
 text:c=0/\it.2=nm\/c≠0/\∃ tx,dq 190 [.agg (eZ many)] []=some (sv (bstr tx),[])/\it.2=tx++42::nm
def txtI(l:List UInt8)(items:List (Bool × List UInt8)):List UInt8:=items.foldl (fun l it=>sumB l it.1 it.2) l
theorem pts_cells{μ:Mu}{F:Prot}{B:Nat}{w:World}{A:Option Addr}{n c:Nat}{ps:List Pt}(h:Rep μ F w (.ls (ps.map eP)) (.slice A n c))(hF:∀ g o,F g o->g<B)(h0:0<ps.length) :
  ∃ b o,A=some ⟨b,o,none⟩/\b<B/\∀ i (hi:i<ps.length),w.cell? ⟨b,o+i*3,none⟩=some (.int .i64 ps[i].v)/\w.cell? ⟨b,o+i*3+1,none⟩=some (.bool ps[i].z.neg)/\∃ A' c',w.cell? ⟨b,o+i*3+2,none⟩=some (.slice A' ps[i].z.abs.length c')/\Rep μ F w (eN ps[i].z.abs) (.slice A' ps[i].z.abs.length c'):=by
 simp only[Rep]at h
 obtain⟨_,A2,c2,h1,h2,h3,h4⟩:=h
 injection h1 with e1 e2 e3
 subst e1
 obtain⟨g,o,e,hA,hr⟩:=h4 (by
  intro hh
  rw[List.map_eq_nil_iff]at hh
  rw[hh]at h0
  exact Nat.lt_irrefl _ h0)
 have he:e=3:=by
  have:=hr.get (i:=0) (x:=eP ps[0]) (by rw[List.getElem?_map,List.getElem?_eq_getElem h0];rfl)
  have:=this.1
  unfold eP at this
  simpa using this.symm
 subst he
 have cell:∀ i (hi:i<ps.length),w.cell? ⟨g,o+i*3,none⟩=some (.int .i64 ps[i].v)/\w.cell? ⟨g,o+i*3+1,none⟩=some (.bool ps[i].z.neg)/\∃ A' c',w.cell? ⟨g,o+i*3+2,none⟩=some (.slice A' ps[i].z.abs.length c')/\Rep μ F w (eN ps[i].z.abs) (.slice A' ps[i].z.abs.length c'):=fun i hi=>by
  have ha:=(hr.get (i:=i) (x:=eP ps[i]) (by rw[List.getElem?_map,List.getElem?_eq_getElem hi];rfl)).2
  unfold eP at ha
  obtain⟨_,u0,c0,r0⟩:=ha.get (i:=0) (x:=iv ps[i].v) rfl
  obtain⟨_,u1,c1,r1⟩:=ha.get (i:=1) (x:=bv ps[i].z.neg) rfl
  obtain⟨_,u2,c2,r2⟩:=ha.get (i:=2) (x:=eN ps[i].z.abs) rfl
  obtain rfl:=Rp.int_inv (Rep.plain _ _ rfl r0)
  obtain rfl:=Rp.bool_inv (Rep.plain _ _ rfl r1)
  obtain⟨A',c',rfl⟩:=Rp.ls_inv (Rep.plain _ _ rfl r2)
  rw[List.length_map]at c2 r2
  exact⟨c0,c1,A',c',c2,r2⟩
 have ha:=(hr.get (i:=0) (x:=eP ps[0]) (by rw[List.getElem?_map,List.getElem?_eq_getElem h0];rfl)).2
 unfold eP at ha
 obtain⟨hf,_⟩:=ha.get (i:=0) (x:=iv ps[0].v) rfl
 exact⟨g,o,hA,hF _ _ hf,cell⟩
structure KiH (dq:Nat->DF) (ps:List Pt) (kz:Zi) (l fin:List UInt8) where
 s:Int
 sign:dq 64 [.agg (eZ kz)] []=some (iv s,[])
 text:s=0/\ps≠[]/\fin=l\/(s≠0\/ps=[])/\∃ many tx,dq 189 [.agg (eZ kz)] []=some (.agg (eZ many),[])/\dq 190 [.agg (eZ many)] []=some (sv (bstr tx),[])/\fin=sumB l (decide (s<0)) tx/\l.length+3+tx.length<=140737488355328
theorem txtI_take(items:List (Bool × List UInt8))(k:Nat)(h:k<items.length):txtI [] (items.take (k+1))=sumB (txtI [] (items.take k)) items[k].1 items[k].2:=by
 unfold txtI
 rw[List.take_succ_eq_append_getElem h,List.foldl_append]
 rfl
theorem bstr_size(a:List UInt8):(bstr a).size=a.length:=by simp[bstr,ByteArray.size]
theorem bstr_cat(a b:List UInt8):bstr a++bstr b=bstr (a++b):=by
 unfold bstr
 apply ByteArray.ext
 simp[ByteArray.data_append]
theorem bld_keep{w w':World}{T e:TypeId}{B b:Nat}{bs:List Value}(h:Lib.IsBuilder T e B b bs w)(hb:Below w.heap.size w w'):Lib.IsBuilder T e B b bs w':=by
 rcases h with h|h
 .obtain⟨hB,v,h1,h2,h3⟩:=h
  have hl:=Lib.BuilderAt.lt ⟨hB,v,h1,h2,h3⟩
  exact .inl ⟨hB,v,(hb.block b hl).trans h1,own_call h2 hb,h3⟩
 .obtain⟨hB,v,h1,h2,h3⟩:=h
  have hl:=Lib.BuilderAt.lt ⟨hB,v,h1,h2,h3⟩
  exact .inr ⟨hB,v,(hb.block b hl).trans h1,own_call h2 hb,h3⟩
set_option maxHeartbeats 4000000 in
set_option maxRecDepth 100000 in
theorem termText_any(dq:Nat->DF)(G:∀ f,GoodD (SemFn Tryz.prog f) (dq f))(t0 t1 t2:AV)(names:AV)(ps:List Pt)(kz one:Zi)(items:List (Bool × List UInt8))(l0':items.length=ps.length)
  (hP:dq 62 [.agg [t0,t1,t2]] []=some (.agg (eT ⟨ps,kz⟩),[])) (hO:dq 126 [iv 1] []=some (.agg (eZ one),[]))
  (hI:∀ i (h:i<ps.length),PartH dq names one ps[i] items[i]) (hL:∀ i (h:i<ps.length),(txtI [] (items.take i)).length+3+items[i].2.length<=140737488355328) (fin:List UInt8) (hK:KiH dq ps kz (txtI [] items) fin) (w:World) (v0 v1 v2 nv:Value) (r0:Rp w t0 v0) (r1:Rp w t1 v1) (r2:Rp w t2 v2) (rn:Rp w names nv) :
  Calls Tryz.prog 130 #[.agg #[v0,v1,v2],nv] w fun e w'=>e=.returned (.string ⟨fin.toArray⟩)/\Below w.heap.size w w':=by
 have HR:=Lib.hid (RpL.cons r0 (RpL.cons r1 (RpL.cons r2 (RpL.nil w))))
 have HN:=Lib.hid rn
 clear r0 r1 r2 rn
 go_enter Tryz.func130,Tryz.ntmps130
 go_wp2_with (go_at_call 62;refine(good_calls_box (G _) hP w 28 #[v0,v1,v2] [.agg #[v0,v1,v2]] (RpL.cons (Rp.agg HR.out) (RpL.nil _))).mono ?_)
 rintro e w1 ⟨u,μ',F',c',rfl,hb1,hbk,hsz,hu,hF1,hF2⟩
 have hu0:Rp w1 (.agg (eT ⟨ps,kz⟩)) u:=Rep.plain _ _ rfl hu
 obtain⟨us,rfl,hus⟩:=Rp.agg_inv hu0
 obtain⟨vp,us,rfl,rp,hus⟩:=RpL.cons_inv hus
 obtain⟨vk,us,rfl,rk,hus⟩:=RpL.cons_inv hus
 obtain⟨va,us,rfl,ra,hus⟩:=RpL.cons_inv hus
 obtain rfl:=RpL.nil_inv hus
 obtain rfl:=Rp.bool_inv rk
 obtain⟨A,ca,rfl⟩:=Rp.ls_inv rp
 obtain⟨A2,ca2,rfl⟩:=Rp.ls_inv ra
 clear rp ra rk hu0 hus
 obtain⟨d0,d1,d2,rfl⟩:∃ d0 d1 d2,c'=#[d0,d1,d2]:=by
  obtain⟨l⟩:=c'
  match l,hsz with
  |[a,b,c],_=>exact⟨a,b,c,rfl⟩
 have HBX:=Lib.hid (show Blk w1 w.heap.size 28 #[d0,d1,d2] from hbk)
 have HU:=Lib.hid hu
 have HF2:=Lib.hid hF2
 have HB1:=Lib.hid hb1
 have HF1:=Lib.hid hF1
 clear hu hF1 hF2 hsz hbk hb1
 have c0:w1.cell? ⟨w.heap.size,0,none⟩=some d0:=HBX.out.cell 0
 have c1:w1.cell? ⟨w.heap.size,1,none⟩=some d1:=HBX.out.cell 1
 have c2:w1.cell? ⟨w.heap.size,2,none⟩=some d2:=HBX.out.cell 2
 have f0:w1.frozen? ⟨w.heap.size,0,none⟩=false:=HBX.out.frozen 0
 have f1:w1.frozen? ⟨w.heap.size,1,none⟩=false:=HBX.out.frozen 1
 have f2:w1.frozen? ⟨w.heap.size,2,none⟩=false:=HBX.out.frozen 2
 have hb2:=(((HBX.out.set_ 0 (.slice A ps.length ca)).set_ 1 (.bool kz.neg)).set_ 2 (.slice A2 kz.abs.length ca2)).alloc (.cells #[.pointer none,.slice none 0 0] 180)
 have y0:=hb2.cell 0
 have HB2:=Lib.hid hb2
 clear hb2
 simp only[List.setIfInBounds_toArray,List.set_cons_zero,List.set_cons_succ,List.getElem?_toArray,List.getElem?_cons_zero]at y0
 have hu2:=rep_set3 HU.out HBX.out HF1.out HF2.out (.slice A ps.length ca) (.bool kz.neg) (.slice A2 kz.abs.length ca2) (.cells #[.pointer none,.slice none 0 0] 180)
 obtain⟨rp,_,ra⟩:=rep_agg3 hu2
 clear hu2
 simp only[List.length_map]at rp ra
 have hml:ps.length<=9223372036854775807:=by
  have h:=rp
  simp only[Rep]at h
  obtain⟨_,A3,c3,h1,h2,h3,_⟩:=h
  rw[List.length_map]at h2
  unfold maxLen at h3
  omega
 have RP:=Lib.hid rp
 have RA:=Lib.hid ra
 clear rp ra
 have hsz2:(((w1.setCell ⟨w.heap.size,0,none⟩ (.slice A ps.length ca)).setCell ⟨w.heap.size,1,none⟩ (.bool kz.neg)).setCell ⟨w.heap.size,2,none⟩ (.slice A2 kz.abs.length ca2)).heap.size=w1.heap.size:=by simp
 have hbld:Lib.IsBuilder 180 5 w1.heap.size w1.heap.size (Lib.byteCells (txtI [] (items.take 0))) ((((w1.setCell ⟨w.heap.size,0,none⟩ (.slice A ps.length ca)).setCell ⟨w.heap.size,1,none⟩ (.bool kz.neg)).setCell ⟨w.heap.size,2,none⟩ (.slice A2 kz.abs.length ca2)).alloc (.cells #[.pointer none,.slice none 0 0] 180)):=by
  refine .inl ⟨Nat.le_refl _,.slice none 0 0,?_,World.ownsRow_nil _ _ _ _,by simp[Value.ownBlock]⟩
  have:=heap_alloc_new (((w1.setCell ⟨w.heap.size,0,none⟩ (.slice A ps.length ca)).setCell ⟨w.heap.size,1,none⟩ (.bool kz.neg)).setCell ⟨w.heap.size,2,none⟩ (.slice A2 kz.abs.length ca2)) (.cells #[.pointer none,.slice none 0 0] 180)
  rw[hsz2]at this
  exact this
 have hbw:Below w.heap.size w ((((w1.setCell ⟨w.heap.size,0,none⟩ (.slice A ps.length ca)).setCell ⟨w.heap.size,1,none⟩ (.bool kz.neg)).setCell ⟨w.heap.size,2,none⟩ (.slice A2 kz.abs.length ca2)).alloc (.cells #[.pointer none,.slice none 0 0] 180)):=
  ((((HB1.out.setCell (p:=⟨w.heap.size,0,none⟩) (Nat.le_refl _) _).setCell (p:=⟨w.heap.size,1,none⟩) (Nat.le_refl _) _).setCell (p:=⟨w.heap.size,2,none⟩) (Nat.le_refl _) _).alloc (by rw[hsz2];exact HB1.out.size) _)
 have HBL:=Lib.hid hbld
 have HBW:=Lib.hid hbw
 clear hsz2 hbld hbw
 go_wp2_with fail
 revert y0
 have RP:=RP.out;have RA:=RA.out;have HB2:=HB2.out;have HBL:=HBL.out;have HBW:=HBW.out
 generalize hW2:((((w1.setCell ⟨w.heap.size,0,none⟩ (.slice A ps.length ca)).setCell ⟨w.heap.size,1,none⟩ (.bool kz.neg)).setCell ⟨w.heap.size,2,none⟩ (.slice A2 kz.abs.length ca2)).alloc (.cells #[.pointer none,.slice none 0 0] 180))=W2 at *
 intro y0
 go_loopw [15] (fun q wr=>∃ k:Nat,k<=ps.length/\q=.int .i64 k/\Lib.IsBuilder 180 5 w1.heap.size w1.heap.size (Lib.byteCells (txtI [] (items.take k))) wr/\Below w1.heap.size W2 wr) (fun q _=>ps.length-(intOf q).toNat)
 case atStart=>exact⟨0,Nat.zero_le _,rfl,HBL,Below.refl _ _⟩
 case round=>
  obtain⟨k,hk,rfl,hbld,hb⟩:=hrel
  have HBLD:=Lib.hid hbld
  have HB:=Lib.hid hb
  have RP:=Lib.hid RP
  have RA:=Lib.hid RA
  have HB2:=Lib.hid HB2
  have HBL:=Lib.hid HBL
  have HBW:=Lib.hid HBW
  have HW2:=Lib.hid hW2
  clear hbld hb c0 c1 c2 f0 f1 f2 y0 hW2
  by_cases hlt:k<ps.length
  .obtain⟨b,o,rfl,hbl,hc⟩:=pts_cells RP.out HF1.out (Nat.lt_of_le_of_lt (Nat.zero_le _) hlt)
   obtain⟨d0',d1',A',cc',d2',rz⟩:=hc k hlt
   have e0:=(HB.out.cell (p:=⟨b,o+k*3,none⟩) hbl).trans d0'
   have e1:=(HB.out.cell (p:=⟨b,o+k*3+1,none⟩) hbl).trans d1'
   have e2:=(HB.out.cell (p:=⟨b,o+k*3+2,none⟩) hbl).trans d2'
   have l0:b<wr.heap.size:=lt_size e0
   have z0:(0:Int)<=(k:Int):=by omega
   have z1:(k:Int)<(ps.length:Int):=by omega
   have hih:=hI k hlt
   have hlen:=hL k hlt
   have htk:=txtI_take items k (l0'▸hlt)
   have hrn:Rp wr names nv:=HN.out.below (HBW.out.trans (HB.out.mono HB1.out.size))
   have hrz:Rp wr (eN ps[k].z.abs) (.slice A' ps[k].z.abs.length cc'):=Rep.plain _ _ rfl (Rep.later (μ':=μ') ⟨fun _ _ h=>h,fun g o hg=>⟨hg,HB.out.cell (p:=⟨g,o,none⟩) (HF1.out g o hg)⟩⟩ _ _ rz)
   have HRN:=Lib.hid hrn
   clear hc d0' d1' d2' rz hrn
   revert hih hlen htk e0 e1 e2 hrz
   generalize ps[k]=p
   generalize items[k]'(l0'▸hlt)=it
   obtain⟨pv_,pn_,pa_⟩:=p
   obtain⟨itn,itx⟩:=it
   intro e0 e1 e2 hih hlen htk hrz
   have HRZ:=Lib.hid hrz
   have HLEN:=Lib.hid hlen
   have HTK:=Lib.hid htk
   clear hrz hlen htk
   simp only at e0 e1 e2
   obtain⟨nm,many,cm,sg,gname,gabs,gcmp,gsign,hneg,htext⟩:=hih
   have HNEG:=Lib.hid hneg
   have HTEXT:=Lib.hid htext
   clear hneg htext
   go_wp2_with (go_at_call 188;refine(good_calls (G _) gname rfl _ [.int .i64 pv_,nv] (RpL.cons (Rp.int _ _) (RpL.cons (HRN.out.below (below_one _ _)) (RpL.nil _)))).mono ?_)
   first|rintro e w3 u3 rfl hb3 hu3|rintro e w3 ⟨u3,rfl,hb3,hu3⟩
   obtain rfl:=Rp.str_inv hu3
   replace hb3:Below (wr.alloc (.cells #[.int .i64 pv_,.bool pn_,.slice A' pa_.length cc'] 84)).heap.size (wr.alloc (.cells #[.int .i64 pv_,.bool pn_,.slice A' pa_.length cc'] 84)) w3:=by rw[World.size_alloc];exact hb3
   have HBX3:=Lib.hid ((Blk.new wr 84 #[.int .i64 pv_,.bool pn_,.slice A' pa_.length cc']).call hb3)
   have HB3:=Lib.hid (below_call (below_one wr _) hb3)
   clear hb3 hu3 e0 e1 e2
   have x1:=HBX3.out.cell 1
   have x2:=HBX3.out.cell 2
   go_wp2_with (go_at_call 189;refine(good_calls (G _) gabs rfl _ [.agg #[.bool pn_,.slice A' pa_.length cc']] (RpL.cons (Rp.agg (RpL.cons (Rp.bool _ _) (RpL.cons (HRZ.out.below HB3.out) (RpL.nil _)))) (RpL.nil _))).mono ?_)
   first|rintro e w4 u4 rfl hb4 hu4|rintro e w4 ⟨u4,rfl,hb4,hu4⟩
   obtain⟨us,rfl,hus⟩:=Rp.agg_inv hu4
   obtain⟨vm0,us,rfl,rm0,hus⟩:=RpL.cons_inv hus
   obtain⟨vm1,us,rfl,rm1,hus⟩:=RpL.cons_inv hus
   obtain rfl:=RpL.nil_inv hus
   obtain rfl:=Rp.bool_inv rm0
   obtain⟨Am,cm',rfl⟩:=Rp.ls_inv rm1
   simp only[List.length_map]at rm1
   have HBX5:=Lib.hid ((HBX3.out.call hb4).alloc (.cells #[.bool many.neg,.slice Am many.abs.length cm'] 26))
   have HM5:=Lib.hid (Blk.new w4 26 #[.bool many.neg,.slice Am many.abs.length cm'])
   have HB5:=Lib.hid (below_call (below_call HB3.out hb4) (below_one w4 (.cells #[.bool many.neg,.slice Am many.abs.length cm'] 26)))
   have HRM:=Lib.hid (Rp.agg (RpL.cons (rm0.below (below_one w4 (.cells #[.bool many.neg,.slice Am many.abs.length cm'] 26))) (RpL.cons (rm1.below (below_one w4 (.cells #[.bool many.neg,.slice Am many.abs.length cm'] 26))) (RpL.nil _))))
   clear hb4 hu4 x1 x2 rm0 rm1 hus
   go_wp2_with fail
   generalize w4.alloc (.cells #[.bool many.neg,.slice Am many.abs.length cm'] 26)=w5 at *
   have x1:=HM5.out.cell 0
   have x2:=HM5.out.cell 1
   have x3:=HM5.out.lt
   simp only[List.getElem?_toArray,List.getElem?_cons_zero,List.getElem?_cons_succ]at x1 x2
   go_region_with (first
    | (go_at_call 126
       refine(good_calls (G _) hO rfl _ [.int .i64 1] (RpL.cons (Rp.int _ _) (RpL.nil _))).mono ?_
       rintro e w6 ⟨u6,rfl,hb6,hu6⟩
       replace hb6:=below_undrew hb6
       obtain⟨us,rfl,hus⟩:=Rp.agg_inv hu6
       have x1:=(HM5.out.call hb6).cell 0
       have x2:=(HM5.out.call hb6).cell 1
       have x3:=(HM5.out.call hb6).lt
       simp only[List.getElem?_toArray,List.getElem?_cons_zero,List.getElem?_cons_succ]at x1 x2)
    | (go_at_call 155
       refine(good_calls (G _) gcmp rfl _ [.agg #[.bool many.neg,.slice Am many.abs.length cm'],.agg us.toArray] (RpL.cons (HRM.out.below hb6) (RpL.cons (Rp.agg hus) (RpL.nil _)))).mono ?_
       rintro e w7 ⟨u7,rfl,hb7,hu7⟩
       obtain rfl:=Rp.int_inv hu7))
   all_goals
    have HB7:=Lib.hid (below_call (below_call HB5.out hb6) hb7)
    have HM7:=Lib.hid ((HM5.out.call hb6).call hb7)
    have HBX7:=Lib.hid ((HBX5.out.call hb6).call hb7)
    have HRM7:=Lib.hid ((HRM.out.below hb6).below hb7)
    have HRZ7:=Lib.hid (HRZ.out.below HB7.out)
    have HBD7:=Lib.hid (bld_keep HBLD.out HB7.out)
    have HLW:=Lib.hid (HBLD.out.elim Lib.BuilderAt.lt Lib.BuilderAt.lt)
    clear hb6 hb7 hu6 hu7 hus x1 x2 x3
    have x1:=HM7.out.cell 0
    have x2:=HM7.out.cell 1
    have x3:=HBX7.out.cell 1
    have x4:=HBX7.out.cell 2
    simp only[List.getElem?_toArray,List.getElem?_cons_zero,List.getElem?_cons_succ]at x1 x2 x3 x4
    rcases HTEXT.out with⟨hc,hit⟩|⟨hc,tx,gtext,hit⟩
    .have hcb:(cm != 0)=false:=by simp[hc]
     subst hit
     go_wp2_with (go_at_call 64;refine(good_calls (G _) gsign rfl _ [.agg #[.bool pn_,.slice A' pa_.length cc']] (RpL.cons (Rp.agg (RpL.cons (Rp.bool _ _) (RpL.cons HRZ7.out (RpL.nil _)))) (RpL.nil _))).mono ?_)
     first|rintro e w8 u8 rfl hb8 hu8|rintro e w8 ⟨u8,rfl,hb8,hu8⟩
     obtain rfl:=Rp.int_inv hu8
     have HB8:=Lib.hid (below_call HB7.out hb8)
     have HBD8:=Lib.hid (bld_keep HBD7.out hb8)
     clear hb8 hu8 x3 x4
     go_wp2_with (go_at_call 191;refine(summand_any w1.heap.size w1.heap.size (txtI [] (items.take k)) (itx) (decide (sg<0)) _ HBD8.out HLEN.out (Nat.le_trans (Nat.le_of_lt HLW.out) HB8.out.size)).mono ?_)
     first|rintro e w9 rfl hd9 hb9 hk9|rintro e w9 ⟨rfl,hd9,hb9,hk9⟩
     have HD9:=Lib.hid hd9
     have HB9:=Lib.hid (HB.out.trans ((HB8.out.mono (Nat.le_of_lt HLW.out)).trans hb9))
     clear hd9 hb9 hk9
     go_wp2_with fail
     go_roundw
     case rel=>exact⟨k+1,hlt,by go_num,.inr (by have h:=HTK.out;(try simp only at h);rw[h,HNEG.out];exact HD9.out),HB9.out⟩
     case measure=>simp[intOf];omega
    .have hcb:(cm != 0)=true:=by simp[hc]
     subst hit
     have hs:=HLEN.out
     simp only[List.length_append,List.length_cons]at hs
     have s1:(bstr tx).size<=140737488355328:=by rw[bstr_size];omega
     have s2:(bstr nm).size<=140737488355328:=by rw[bstr_size];omega
     have hcat:bstr tx++⟨#[42]⟩++bstr nm=bstr (tx++42::nm):=by show bstr tx++bstr [42]++bstr nm=_;rw[bstr_cat,bstr_cat,List.append_assoc];rfl
     have HCAT:=Lib.hid hcat
     clear hs hcat
     go_wp2_with (go_at_call 190;refine(good_calls (G _) gtext rfl _ [.agg #[.bool many.neg,.slice Am many.abs.length cm']] (RpL.cons HRM7.out (RpL.nil _))).mono ?_)
     first|rintro e wt ut rfl hbt hut|rintro e wt ⟨ut,rfl,hbt,hut⟩
     obtain rfl:=Rp.str_inv hut
     replace HB7:=Lib.hid (below_call HB7.out hbt)
     replace HBX7:=Lib.hid (HBX7.out.call hbt)
     replace HRZ7:=Lib.hid (HRZ7.out.below hbt)
     replace HBD7:=Lib.hid (bld_keep HBD7.out hbt)
     clear hbt hut x1 x2 x3 x4
     have x3:=HBX7.out.cell 1
     have x4:=HBX7.out.cell 2
     simp only[List.getElem?_toArray,List.getElem?_cons_zero,List.getElem?_cons_succ]at x3 x4
     go_wp2_with fail
     simp only[HCAT.out]
     go_wp2_with (go_at_call 64;refine(good_calls (G _) gsign rfl _ [.agg #[.bool pn_,.slice A' pa_.length cc']] (RpL.cons (Rp.agg (RpL.cons (Rp.bool _ _) (RpL.cons HRZ7.out (RpL.nil _)))) (RpL.nil _))).mono ?_)
     first|rintro e w8 u8 rfl hb8 hu8|rintro e w8 ⟨u8,rfl,hb8,hu8⟩
     obtain rfl:=Rp.int_inv hu8
     have HB8:=Lib.hid (below_call HB7.out hb8)
     have HBD8:=Lib.hid (bld_keep HBD7.out hb8)
     clear hb8 hu8 x3 x4
     go_wp2_with (go_at_call 191;refine(summand_any w1.heap.size w1.heap.size (txtI [] (items.take k)) (tx++42::nm) (decide (sg<0)) _ HBD8.out HLEN.out (Nat.le_trans (Nat.le_of_lt HLW.out) HB8.out.size)).mono ?_)
     first|rintro e w9 rfl hd9 hb9 hk9|rintro e w9 ⟨rfl,hd9,hb9,hk9⟩
     have HD9:=Lib.hid hd9
     have HB9:=Lib.hid (HB.out.trans ((HB8.out.mono (Nat.le_of_lt HLW.out)).trans hb9))
     clear hd9 hb9 hk9
     go_wp2_with fail
     go_roundw
     case rel=>exact⟨k+1,hlt,by go_num,.inr (by have h:=HTK.out;(try simp only at h);rw[h,HNEG.out];exact HD9.out),HB9.out⟩
     case measure=>simp[intOf];omega
  .obtain rfl:k=ps.length:=by omega
   have z1:¬ (ps.length:Int)<(ps.length:Int):=by omega
   have HBX:=Lib.hid (HB2.out.below HB.out (HBX.out.lt))
   have hra:Rp wr (eN kz.abs) (.slice A2 kz.abs.length ca2):=Rep.plain _ _ rfl (Rep.later (μ':=μ') ⟨fun _ _ h=>h,fun g o hg=>⟨hg,HB.out.cell (p:=⟨g,o,none⟩) (HF1.out g o hg)⟩⟩ _ _ RA.out)
   have HRK:=Lib.hid (Rp.agg (RpL.cons (Rp.bool wr kz.neg) (RpL.cons hra (RpL.nil _))))
   have HBD:=HBLD.out
   rw[←l0',List.take_length]at HBD
   have HBD:=Lib.hid HBD
   have HLW:=Lib.hid (HBLD.out.elim Lib.BuilderAt.lt Lib.BuilderAt.lt)
   have HBW:=Lib.hid (HBW.out.trans (HB.out.mono HB1.out.size))
   clear hra HBLD RP RA HB2 HB
   have x0:=HBX.out.cell 0
   have x1:=HBX.out.cell 1
   have x2:=HBX.out.cell 2
   simp only[List.setIfInBounds_toArray,List.set_cons_zero,List.set_cons_succ,List.getElem?_toArray,List.getElem?_cons_zero,List.getElem?_cons_succ]at x0 x1 x2
   obtain⟨s,gsign,htext⟩:=hK
   rcases htext with⟨hs0,hp0,hfin⟩|⟨hp,many,tx,gabs,gtext,hfin,hlen⟩
   .subst hs0
    have z2:((ps.length:Int) == 0)=false:=by
     have:=List.length_pos_iff.2 hp0
     simp;omega
    go_wp2_with (go_at_call 64;refine(good_calls (G _) gsign rfl _ [.agg #[.bool kz.neg,.slice A2 kz.abs.length ca2]] (RpL.cons HRK.out (RpL.nil _))).mono ?_)
    first|rintro e w8 u8 rfl hb8 hu8|rintro e w8 ⟨u8,rfl,hb8,hu8⟩
    obtain rfl:=Rp.int_inv hu8
    have HBD8:=Lib.hid (bld_keep HBD.out hb8)
    have HB8:=Lib.hid (HBW.out.trans (hb8.mono (Nat.le_trans HB1.out.size (Nat.le_of_lt HLW.out))))
    have HZ8:=Lib.hid (Nat.le_trans (Nat.le_of_lt HLW.out) hb8.size)
    replace HBX:=Lib.hid (HBX.out.call hb8)
    clear hb8 hu8 x0 x1 x2
    have x0:=HBX.out.cell 0
    simp only[List.setIfInBounds_toArray,List.set_cons_zero,List.set_cons_succ,List.getElem?_toArray,List.getElem?_cons_zero,List.getElem?_cons_succ]at x0
    go_wp2_with (go_at_call 192;refine(Tryz.Builder_String_any w1.heap.size _ _ _ HBD8.out HZ8.out).mono ?_)
    first|rintro e w9 rfl hb9|rintro e w9 ⟨rfl,hb9⟩
    have HB9:=Lib.hid (HB8.out.trans (hb9.mono HB1.out.size))
    clear hb9
    go_wp2
    go_ret
    subst hfin
    exact⟨rfl,HB9.out⟩
   .subst hfin
    have HLEN:=Lib.hid hlen
    clear hlen
    by_cases hs:s=0
    .obtain rfl:ps=[]:=by rcases hp with h|h;exact absurd hs h;exact h
     subst hs
     have z2:((([]:List Pt).length:Int) == 0)=true:=rfl
     go_wp2_with (go_at_call 64;refine(good_calls (G _) gsign rfl _ [.agg #[.bool kz.neg,.slice A2 kz.abs.length ca2]] (RpL.cons HRK.out (RpL.nil _))).mono ?_)
     first|rintro e w8 u8 rfl hb8 hu8|rintro e w8 ⟨u8,rfl,hb8,hu8⟩
     obtain rfl:=Rp.int_inv hu8
     have HBD8:=Lib.hid (bld_keep HBD.out hb8)
     have HB8:=Lib.hid (HBW.out.trans (hb8.mono (Nat.le_trans HB1.out.size (Nat.le_of_lt HLW.out))))
     have HZ8:=Lib.hid (Nat.le_trans (Nat.le_of_lt HLW.out) hb8.size)
     replace HBX:=Lib.hid (HBX.out.call hb8)
     replace HRK:=Lib.hid (HRK.out.below hb8)
     clear hb8 hu8 x0 x1 x2
     have x0:=HBX.out.cell 0
     have x1:=HBX.out.cell 1
     have x2:=HBX.out.cell 2
     simp only[List.setIfInBounds_toArray,List.set_cons_zero,List.set_cons_succ,List.getElem?_toArray,List.getElem?_cons_zero,List.getElem?_cons_succ]at x0 x1 x2
     go_wp2_with fail
     go_region_with (first
      | (go_at_call 64
         refine(good_calls (G _) gsign rfl _ [.agg #[.bool kz.neg,.slice A2 kz.abs.length ca2]] (RpL.cons (HRK.out.below (Below.refl _ _).drew) (RpL.nil _))).mono ?_
         rintro e w9 ⟨u9,rfl,hb9,hu9⟩
         replace hb9:=below_undrew hb9
         obtain rfl:=Rp.int_inv hu9
         have x1:=(HBX.out.call hb9).cell 1
         have x2:=(HBX.out.call hb9).cell 2
         have x3:=(HBX.out.call hb9).lt
         simp only[List.setIfInBounds_toArray,List.set_cons_zero,List.set_cons_succ,List.getElem?_toArray,List.getElem?_cons_zero,List.getElem?_cons_succ]at x1 x2)
      | (go_at_call 189
         refine(good_calls (G _) gabs rfl _ [.agg #[.bool kz.neg,.slice A2 kz.abs.length ca2]] (RpL.cons (HRK.out.below hb9) (RpL.nil _))).mono ?_
         rintro e wa ⟨ua,rfl,hba,hua⟩
         obtain⟨usa,rfl,hul⟩:=Rp.agg_inv hua)
      | (go_at_call 190
         refine(good_calls (G _) gtext rfl _ [.agg usa.toArray] (RpL.cons (Rp.agg hul) (RpL.nil _))).mono ?_
         rintro e wt ⟨ut,rfl,hbt,hut⟩
         obtain rfl:=Rp.str_inv hut
         have hx:Below w8.heap.size w8 wt:=below_call (below_call hb9 hba) hbt
         have hz:Lib.IsBuilder 180 5 w1.heap.size w1.heap.size (Lib.byteCells (txtI [] items)) wt:=bld_keep HBD8.out hx
         have hs:w1.heap.size<=wt.heap.size:=Nat.le_trans HZ8.out hx.size
         have HX:=Lib.hid hx
         have HZ:=Lib.hid hz
         have HS:=Lib.hid hs
         clear hx hz hs hb9 hba hbt x1 x2)
      | (go_at_call 191
         refine(summand_any w1.heap.size w1.heap.size (txtI [] items) tx false wt HZ.out HLEN.out HS.out).mono ?_
         rintro e wz ⟨rfl,hdz,hbz,hkz⟩))
     all_goals
      have HDZ:=Lib.hid hdz
      have hx2:Below w.heap.size w8 wt:=HX.out.mono (Nat.le_trans HB1.out.size HZ8.out)
      have hx3:Below w.heap.size wt wz:=hbz.mono HB1.out.size
      have hx4:Below w.heap.size w wz:=HB8.out.trans (hx2.trans hx3)
      have HBZ:=Lib.hid hx4
      have HZZ:=Lib.hid (Nat.le_trans HS.out hbz.size)
      clear hdz hbz hkz hx2 hx3 hx4
      go_wp2_with (go_at_call 192;refine(Tryz.Builder_String_any w1.heap.size _ (sumB (txtI [] items) false tx) _ (.inr HDZ.out) HZZ.out).mono ?_)
      first|rintro e wq rfl hbq|rintro e wq ⟨rfl,hbq⟩
      have HBQ:=Lib.hid (HBZ.out.trans (hbq.mono HB1.out.size))
      clear hbq
      go_wp2
      go_ret
      exact⟨rfl,HBQ.out⟩
    .have z2:(s != 0)=true:=by simp[hs]
     go_wp2_with (go_at_call 64;refine(good_calls (G _) gsign rfl _ [.agg #[.bool kz.neg,.slice A2 kz.abs.length ca2]] (RpL.cons HRK.out (RpL.nil _))).mono ?_)
     first|rintro e w8 u8 rfl hb8 hu8|rintro e w8 ⟨u8,rfl,hb8,hu8⟩
     obtain rfl:=Rp.int_inv hu8
     have HBD8:=Lib.hid (bld_keep HBD.out hb8)
     have HB8:=Lib.hid (HBW.out.trans (hb8.mono (Nat.le_trans HB1.out.size (Nat.le_of_lt HLW.out))))
     have HZ8:=Lib.hid (Nat.le_trans (Nat.le_of_lt HLW.out) hb8.size)
     replace HBX:=Lib.hid (HBX.out.call hb8)
     replace HRK:=Lib.hid (HRK.out.below hb8)
     clear hb8 hu8 x0 x1 x2
     have x0:=HBX.out.cell 0
     have x1:=HBX.out.cell 1
     have x2:=HBX.out.cell 2
     simp only[List.setIfInBounds_toArray,List.set_cons_zero,List.set_cons_succ,List.getElem?_toArray,List.getElem?_cons_zero,List.getElem?_cons_succ]at x0 x1 x2
     go_wp2_with fail
     go_region_with (first
      | (go_at_call 64
         refine(good_calls (G _) gsign rfl _ [.agg #[.bool kz.neg,.slice A2 kz.abs.length ca2]] (RpL.cons (HRK.out.below (Below.refl _ _).drew) (RpL.nil _))).mono ?_
         rintro e w9 ⟨u9,rfl,hb9,hu9⟩
         replace hb9:=below_undrew hb9
         obtain rfl:=Rp.int_inv hu9
         have x1:=(HBX.out.call hb9).cell 1
         have x2:=(HBX.out.call hb9).cell 2
         have x3:=(HBX.out.call hb9).lt
         simp only[List.setIfInBounds_toArray,List.set_cons_zero,List.set_cons_succ,List.getElem?_toArray,List.getElem?_cons_zero,List.getElem?_cons_succ]at x1 x2)
      | (go_at_call 189
         refine(good_calls (G _) gabs rfl _ [.agg #[.bool kz.neg,.slice A2 kz.abs.length ca2]] (RpL.cons (HRK.out.below hb9) (RpL.nil _))).mono ?_
         rintro e wa ⟨ua,rfl,hba,hua⟩
         obtain⟨usa,rfl,hul⟩:=Rp.agg_inv hua)
      | (go_at_call 190
         refine(good_calls (G _) gtext rfl _ [.agg usa.toArray] (RpL.cons (Rp.agg hul) (RpL.nil _))).mono ?_
         rintro e wt ⟨ut,rfl,hbt,hut⟩
         obtain rfl:=Rp.str_inv hut
         have hx:Below w8.heap.size w8 wt:=below_call (below_call hb9 hba) hbt
         have hz:Lib.IsBuilder 180 5 w1.heap.size w1.heap.size (Lib.byteCells (txtI [] items)) wt:=bld_keep HBD8.out hx
         have hs:w1.heap.size<=wt.heap.size:=Nat.le_trans HZ8.out hx.size
         have HX:=Lib.hid hx
         have HZ:=Lib.hid hz
         have HS:=Lib.hid hs
         clear hx hz hs hb9 hba hbt x1 x2)
      | (go_at_call 191
         refine(summand_any w1.heap.size w1.heap.size (txtI [] items) tx (decide (s<0)) wt HZ.out HLEN.out HS.out).mono ?_
         rintro e wz ⟨rfl,hdz,hbz,hkz⟩))
     all_goals
      have HDZ:=Lib.hid hdz
      have hx2:Below w.heap.size w8 wt:=HX.out.mono (Nat.le_trans HB1.out.size HZ8.out)
      have hx3:Below w.heap.size wt wz:=hbz.mono HB1.out.size
      have hx4:Below w.heap.size w wz:=HB8.out.trans (hx2.trans hx3)
      have HBZ:=Lib.hid hx4
      have HZZ:=Lib.hid (Nat.le_trans HS.out hbz.size)
      clear hdz hbz hkz hx2 hx3 hx4
      go_wp2_with (go_at_call 192;refine(Tryz.Builder_String_any w1.heap.size _ (sumB (txtI [] items) (decide (s<0)) tx) _ (.inr HDZ.out) HZZ.out).mono ?_)
      first|rintro e wq rfl hbq|rintro e wq ⟨rfl,hbq⟩
      have HBQ:=Lib.hid (HBZ.out.trans (hbq.mono HB1.out.size))
      clear hbq
      go_wp2
      go_ret
      exact⟨rfl,HBQ.out⟩
end Go.Proofs.YtpncilciembjdaaGreatDoor
namespace Go.Proofs.YtpncilciembjdaaGreatDoor
open Go.RowKit

def limbsO:List (List AV)->Option (List Nat)
 |[]=>some []
 |[.v (.int .u32 (.ofNat n))]::r=>(match limbsO r with
  |some l=>some (n::l)
  |none=>none)
 |_::_=>none
theorem limbsO_some:∀{xs:List (List AV)} {l:List Nat},limbsO xs=some l->xs=l.map eL
 |[],l,h=>by injection h with h;subst h;rfl
 |x::r,l,h=>by
  unfold limbsO at h
  split at h
  .rename_i e;cases e
  .rename_i n r' e
   cases hr:limbsO r' with
   |none=>rw[hr]at h;cases h
   |some l'=>
    rw[hr]at h
    injection h with h
    injection e with e1 e2
    subst h e1 e2
    rw[limbsO_some hr]
    rfl
  .cases h
def ziO:List AV->Option Zi
 |[.v (.bool n),.ls xs]=>(match limbsO xs with
  |some l=>some ⟨n,l⟩
  |none=>none)
 |_=>none
theorem ziO_some{xs:List AV}{z:Zi}(h:ziO xs=some z):xs=eZ z:=by
 unfold ziO at h
 split at h
 .rename_i n ys
  cases hr:limbsO ys with
  |none=>rw[hr]at h;cases h
  |some l=>
   rw[hr]at h
   injection h with h
   subst h
   rw[limbsO_some hr]
   rfl
 .cases h
def ptO:List AV->Option Pt
 |[.v (.int .i64 v),.v (.bool n),.ls xs]=>(match limbsO xs with
  |some l=>some ⟨v,⟨n,l⟩⟩
  |none=>none)
 |_=>none
theorem ptO_some{xs:List AV}{p:Pt}(h:ptO xs=some p):xs=eP p:=by
 unfold ptO at h
 split at h
 .rename_i v n ys
  cases hr:limbsO ys with
  |none=>rw[hr]at h;cases h
  |some l=>
   rw[hr]at h
   injection h with h
   subst h
   rw[limbsO_some hr]
   rfl
 .cases h
def ptsO:List (List AV)->Option (List Pt)
 |[]=>some []
 |x::r=>(match ptO x,ptsO r with
  |some p,some l=>some (p::l)
  |_,_=>none)
theorem ptsO_some:∀{xs:List (List AV)} {l:List Pt},ptsO xs=some l->xs=l.map eP
 |[],l,h=>by injection h with h;subst h;rfl
 |x::r,l,h=>by
  unfold ptsO at h
  split at h
  .rename_i p l' h1 h2
   injection h with h
   subst h
   rw[List.map_cons,←ptO_some h1,←ptsO_some h2]
  .cases h
def tmO:List AV->Option Tm
 |[.ls ps,.v (.bool n),.ls xs]=>(match ptsO ps,limbsO xs with
  |some ps,some l=>some ⟨ps,⟨n,l⟩⟩
  |_,_=>none)
 |_=>none
theorem tmO_some{xs:List AV}{t:Tm}(h:tmO xs=some t):xs=eT t:=by
 unfold tmO at h
 split at h
 .split at h
  .rename_i ps l h1 h2
   injection h with h
   subst h
   rw[ptsO_some h1,limbsO_some h2]
   rfl
  .cases h
 .cases h
def ansZ:Option (AV × List BO)->Option Zi
 |some (.agg cs,[])=>ziO cs
 |_=>none
theorem ansZ_some{o:Option (AV × List BO)}{z:Zi}(h:ansZ o=some z):o=some (.agg (eZ z),[]):=by
 unfold ansZ at h
 split at h
 .rw[ziO_some h]
 .cases h
def ansI:Option (AV × List BO)->Option Int
 |some (.v (.int .i64 n),[])=>some n
 |_=>none
theorem ansI_some{o:Option (AV × List BO)}{n:Int}(h:ansI o=some n):o=some (iv n,[]):=by
 unfold ansI at h
 split at h
 .injection h with h;rw[h];rfl
 .cases h
def ansS:Option (AV × List BO)->Option (List UInt8)
 |some (.v (.string s),[])=>some s.data.toList
 |_=>none
theorem ansS_some{o:Option (AV × List BO)}{l:List UInt8}(h:ansS o=some l):o=some (sv (bstr l),[]):=by
 unfold ansS at h
 split at h
 .injection h with h;subst h;rfl
 .cases h
section
variable (dq:Nat->DF)
def partO(names:AV)(one:Zi)(p:Pt):Option (Bool × List UInt8):=match ansS (dq 188 [iv p.v,names] []),ansZ (dq 189 [.agg (eZ p.z)] []),ansI (dq 64 [.agg (eZ p.z)] []) with
 |some nm,some many,some s=>(match ansI (dq 155 [.agg (eZ many),.agg (eZ one)] []) with
  |some c=>(match decide (c=0) with
   |true=>some (decide (s<0),nm)
   |false=>(match ansS (dq 190 [.agg (eZ many)] []) with
    |some tx=>some (decide (s<0),tx++42::nm)
    |none=>none))
  |none=>none)
 |_,_,_=>none
theorem partO_some{names:AV}{one:Zi}{p:Pt}{it:Bool × List UInt8}(h:partO dq names one p=some it):Nonempty (PartH dq names one p it):=by
 unfold partO at h
 split at h
 .rename_i nm many s h1 h2 h3
  split at h
  .rename_i c h4
   split at h
   .rename_i hc
    injection h with h
    subst h
    exact⟨⟨nm,many,c,s,ansS_some h1,ansZ_some h2,ansI_some h4,ansI_some h3,rfl,.inl ⟨of_decide_eq_true hc,rfl⟩⟩⟩
   .rename_i hc
    split at h
    .rename_i tx h5
     injection h with h
     subst h
     exact⟨⟨nm,many,c,s,ansS_some h1,ansZ_some h2,ansI_some h4,ansI_some h3,rfl,.inr ⟨of_decide_eq_false hc,tx,ansS_some h5,rfl⟩⟩⟩
    .cases h
  .cases h
 .cases h
def itemsO(names:AV)(one:Zi):List Pt->Option (List (Bool × List UInt8))
 |[]=>some []
 |p::r=>(match partO dq names one p,itemsO names one r with
  |some i,some l=>some (i::l)
  |_,_=>none)
theorem itemsO_some{names:AV}{one:Zi}:∀{ps:List Pt} {items:List (Bool × List UInt8)},itemsO dq names one ps=some items->items.length=ps.length/\∀ i (h:i<ps.length) (h':i<items.length),Nonempty (PartH dq names one ps[i] items[i])
 |[],items,h=>by
  injection h with h
  subst h
  exact⟨rfl,fun i h=>absurd h (Nat.not_lt_zero _)⟩
 |p::r,items,h=>by
  unfold itemsO at h
  split at h
  .rename_i it l h1 h2
   injection h with h
   subst h
   obtain⟨hl,hp⟩:=itemsO_some h2
   refine⟨by rw[List.length_cons,List.length_cons,hl],fun i hi hi'=>?_⟩
   cases i with
   |zero=>exact partO_some dq h1
   |succ i=>exact hp i (by simpa using hi) (by simpa using hi')
  .cases h
def kiO(ps:List Pt)(kz:Zi)(l:List UInt8):Option (List UInt8):=match ansI (dq 64 [.agg (eZ kz)] []) with
 |some s=>(match decide (s=0)&&!ps.isEmpty with
  |true=>some l
  |false=>(match ansZ (dq 189 [.agg (eZ kz)] []) with
   |some many=>(match ansS (dq 190 [.agg (eZ many)] []) with
    |some tx=>(match Nat.ble (l.length+3+tx.length) 140737488355328 with
     |true=>some (sumB l (decide (s<0)) tx)
     |false=>none)
    |none=>none)
   |none=>none))
 |none=>none
theorem kiO_some{ps:List Pt}{kz:Zi}{l fin:List UInt8}(h:kiO dq ps kz l=some fin):Nonempty (KiH dq ps kz l fin):=by
 unfold kiO at h
 split at h
 .rename_i s h1
  split at h
  .rename_i hc
   injection h with h
   subst h
   simp only[Bool.and_eq_true,decide_eq_true_eq,Bool.not_eq_true',List.isEmpty_eq_false_iff]at hc
   exact⟨⟨s,ansI_some h1,.inl ⟨hc.1,hc.2,rfl⟩⟩⟩
  .rename_i hc
   split at h
   .rename_i many h2
    split at h
    .rename_i tx h3
     split at h
     .rename_i hl
      injection h with h
      subst h
      refine⟨⟨s,ansI_some h1,.inr ⟨?_,many,tx,ansZ_some h2,ansS_some h3,rfl,Nat.le_of_ble_eq_true hl⟩⟩⟩
      rcases Bool.and_eq_false_iff.1 hc with hc|hc
      .exact .inl (of_decide_eq_false hc)
      .exact .inr (by simpa using hc)
     .cases h
    .cases h
   .cases h
 .cases h
def totI:List (Bool × List UInt8)->Nat
 |[]=>0
 |it::r=>it.2.length+3+totI r
theorem sumB_len(l:List UInt8)(neg:Bool)(tx:List UInt8):(sumB l neg tx).length<=l.length+3+tx.length:=by
 unfold sumB sepS
 rw[List.length_append,List.length_append]
 have:(if l=[] then(if neg then [45] else []) else if neg then [32,45,32] else [32,43,32]:List UInt8).length<=3:=by
  repeat' split
  all_goals decide
 omega
theorem txtI_len:∀(items:List (Bool × List UInt8)) (l:List UInt8),(txtI l items).length<=l.length+totI items
 |[],l=>by unfold txtI totI;exact Nat.le_refl _
 |it::r,l=>by
  have h1:=txtI_len r (sumB l it.1 it.2)
  have h2:=sumB_len l it.1 it.2
  have h3:txtI l (it::r)=txtI (sumB l it.1 it.2) r:=rfl
  rw[h3]
  unfold totI
  omega
theorem totI_take:∀(items:List (Bool × List UInt8)) (i:Nat) (h:i<items.length),totI (items.take i)+3+items[i].2.length<=totI items
 |[],i,h=>absurd h (Nat.not_lt_zero _)
 |it::r,0,h=>by simp only[List.take_zero,totI,List.getElem_cons_zero];omega
 |it::r,i+1,h=>by
  have:=totI_take r i (by simpa using h)
  simp only[List.take_succ_cons,totI,List.getElem_cons_succ]
  omega
def resText:List AV->Option AV
 |[.agg [t0,t1,t2],names]=>(match noidL [t0,t1,t2,names]with
  |true=>(match dq 62 [.agg [t0,t1,t2]] []with
   |some (.agg cs,[])=>(match tmO cs,ansZ (dq 126 [iv 1] []) with
    |some t,some one=>(match itemsO dq names one t.ps with
     |some items=>(match Nat.ble (totI items) 140737488355328 with
      |true=>(match kiO dq t.ps t.k (txtI [] items) with
       |some fin=>some (sv (bstr fin))
       |none=>none)
      |false=>none)
     |none=>none)
    |_,_=>none)
   |_=>none)
  |false=>none)
 |_=>none
theorem text_good(G:∀ f,GoodD (SemFn Tryz.prog f) (dq f)):GoodD (SemFn Tryz.prog 130) (extD (resText dq)):=by
 refine goodD_of (semFn_mono _ _) _ fun args r hr μ F w us hus=>?_
 unfold resText at hr
 split at hr
 .rename_i t0 t1 t2 names
  split at hr
  .rename_i hn
   split at hr
   .rename_i cs hP
    split at hr
    .rename_i t one h1 h2
     split at hr
     .rename_i items h3
      split at hr
      .rename_i h4
       split at hr
       .rename_i fin h5
        injection hr with hr
        subst hr
        simp only[noidL,Bool.and_eq_true]at hn
        obtain⟨n0,n1,n2,n3,_⟩:=hn
        obtain⟨hl,hi⟩:=itemsO_some dq h3
        simp only[RepList]at hus
        obtain⟨u,ul,rfl,hu,u2,ul2,rfl,hu2,rfl⟩:=hus
        simp only[Rep]at hu
        obtain⟨us3,rfl,hu⟩:=hu
        obtain⟨us3⟩:=us3
        simp only[RepList]at hu
        obtain⟨v0,l0,e0,r0,v1,l1,e1,r1,v2,l2,e2,r2,e3⟩:=hu
        subst e3 e2 e1
        have e0:us3=[v0,v1,v2]:=e0
        subst e0
        rw[tmO_some h1]at hP
        refine Calls.mono (termText_any dq G t0 t1 t2 names t.ps t.k one items hl hP (ansZ_some h2) (fun i h=>Classical.choice (hi i h (by omega))) (fun i h=>?_) fin (Classical.choice (kiO_some dq h5)) w v0 v1 v2 u2 (Rep.plain _ _ n0 r0) (Rep.plain _ _ n1 r1) (Rep.plain _ _ n2 r2) (Rep.plain _ _ n3 hu2)) ?_
        .have q1:=totI_take items i (by omega)
         have q2:=txtI_len (items.take i) []
         have q3:=Nat.le_of_ble_eq_true h4
         simp only[List.length_nil,Nat.zero_add]at q2
         omega
        .rintro e w' ⟨rfl,hb⟩
         refine⟨_,rfl,hb,?_⟩
         unfold sv bstr
         simp only[Rep]
         exact⟨trivial,rfl⟩
       .cases hr
      .cases hr
     .cases hr
    .cases hr
   .cases hr
  .cases hr
 .cases hr
end
end Go.Proofs.YtpncilciembjdaaGreatDoor
namespace Go.Proofs.YtpncilciembjdaaGreatDoor
open Go.RowKit

def rlO:List AV->Option RlA
 |[.ls ps,.v (.bool kn),.ls ka,.v (.bool eq)]=>some ⟨ps,kn,ka,eq⟩
 |_=>none
theorem rlO_some{x:List AV}{r:RlA}(h:rlO x=some r):x=r.c:=by
 unfold rlO at h
 split at h
 .injection h with h;subst h;rfl
 .cases h
def rlsO:List (List AV)->Option (List RlA)
 |[]=>some []
 |x::r=>(match rlO x,rlsO r with
  |some p,some l=>some (p::l)
  |_,_=>none)
theorem rlsO_some:∀{xs:List (List AV)} {l:List RlA},rlsO xs=some l->xs=l.map RlA.c
 |[],l,h=>by injection h with h;subst h;rfl
 |x::r,l,h=>by
  unfold rlsO at h
  split at h
  .rename_i p l' h1 h2
   injection h with h
   subst h
   rw[List.map_cons,←rlO_some h1,←rlsO_some h2]
  .cases h
section
variable (dq:Nat->DF)
def ansB:Option (AV × List BO)->Option Bool
 |some (.v (.bool b),[])=>some b
 |_=>none
theorem ansB_some{o:Option (AV × List BO)}{b:Bool}(h:ansB o=some b):o=some (bv b,[]):=by
 unfold ansB at h
 split at h
 .injection h with h;rw[h];rfl
 .cases h
def smO(p z:List AV):Bool:=(ansB (dq 213 [.agg (z.take 3),.agg p] [])).getD false
def smOk(p:List AV)(ls:List (List AV)):Bool:=ls.all fun z=>(ansB (dq 213 [.agg (z.take 3),.agg p] [])).isSome
theorem smO_ok{p:List AV}{ls:List (List AV)}(h:smOk dq p ls=true):∀ z∈ls,dq 213 [.agg (z.take 3),.agg p] []=some (bv (smO dq p z),[]):=fun z hz=>by
 have:=List.all_eq_true.1 h z hz
 obtain⟨b,hb⟩:=Option.isSome_iff_exists.1 this
 unfold smO
 rw[hb]
 exact ansB_some hb
def lineO:Option (AV × List BO)->Option (List AV)
 |some (.tup [],[.set ⟨y,true,false⟩])=>(match y.all lsvB&&Nat.beq y.length 9 with
  |true=>some y
  |false=>none)
 |_=>none
theorem lineO_some{o:Option (AV × List BO)}{y:List AV}(h:lineO o=some y):o=some (.tup [],[.set ⟨y,true,false⟩])/\y.all lsvB=true/\y.length=9:=by
 unfold lineO at h
 split at h
 .split at h
  .rename_i hc
   injection h with h
   subst h
   rw[Bool.and_eq_true]at hc
   exact⟨rfl,hc.1,Nat.eq_of_beq_eq_true hc.2⟩
  .cases h
 .cases h
def noteO(ls:List (List AV))(r:RlA):Option (List (List AV)):=match dq 125 [.agg [bv r.kn,.ls r.ka]] []with
 |some (.agg [.ls k0,.v (.bool k1),.ls k2],[])=>(match dq 127 [.agg [.ls r.ps,bv r.kn,.ls r.ka],.agg [.ls k0,bv k1,.ls k2]] []with
  |some (.agg [.ls ([c0,.v (.bool c1),.ls c2]::row),.v (.bool d1),.ls d2],[])=>(match ansI (dq 64 [.agg [bv c1,.ls c2]] []) with
   |some s=>(match decide (0<s) with
    |true=>(match smOk dq [.ls ([c0,bv c1,.ls c2]::row),bv d1,.ls d2] ls,dq 161 [.agg [bv r.kn,.ls r.ka]] [],(findL (smO dq [.ls ([c0,bv c1,.ls c2]::row),bv d1,.ls d2]) ls ([.ls ([c0,bv c1,.ls c2]::row),bv d1,.ls d2]++newLn))[ls.findIdx (smO dq [.ls ([c0,bv c1,.ls c2]::row),bv d1,.ls d2])]? with
     |true,some (.agg [.v (.bool n0),.ls n1],[]),some x=>(match lineO (dq 160 [.ptr 0 0,.agg [bv n0,.ls n1]] [⟨x,true,false⟩]) with
      |some y=>(match r.eq with
       |false=>some ((findL (smO dq [.ls ([c0,bv c1,.ls c2]::row),bv d1,.ls d2]) ls ([.ls ([c0,bv c1,.ls c2]::row),bv d1,.ls d2]++newLn)).set (ls.findIdx (smO dq [.ls ([c0,bv c1,.ls c2]::row),bv d1,.ls d2])) y)
       |true=>(match lineO (dq 162 [.ptr 0 0,.agg [bv n0,.ls n1]] [⟨y,true,false⟩]) with
        |some z=>some (((findL (smO dq [.ls ([c0,bv c1,.ls c2]::row),bv d1,.ls d2]) ls ([.ls ([c0,bv c1,.ls c2]::row),bv d1,.ls d2]++newLn)).set (ls.findIdx (smO dq [.ls ([c0,bv c1,.ls c2]::row),bv d1,.ls d2])) y).set (ls.findIdx (smO dq [.ls ([c0,bv c1,.ls c2]::row),bv d1,.ls d2])) z)
        |none=>none))
      |none=>none)
     |_,_,_=>none)
    |false=>(match dq 68 [.agg [.ls ([c0,bv c1,.ls c2]::row),bv d1,.ls d2]] []with
     |some (.agg [.ls q0,.v (.bool q1),.ls q2],[])=>(match smOk dq [.ls q0,bv q1,.ls q2] ls,(findL (smO dq [.ls q0,bv q1,.ls q2]) ls ([.ls q0,bv q1,.ls q2]++newLn))[ls.findIdx (smO dq [.ls q0,bv q1,.ls q2])]? with
      |true,some x=>(match lineO (dq 162 [.ptr 0 0,.agg [bv r.kn,.ls r.ka]] [⟨x,true,false⟩]) with
       |some y=>some ((findL (smO dq [.ls q0,bv q1,.ls q2]) ls ([.ls q0,bv q1,.ls q2]++newLn)).set (ls.findIdx (smO dq [.ls q0,bv q1,.ls q2])) y)
       |none=>none)
      |_,_=>none)
     |_=>none))
   |none=>none)
  |_=>none)
 |_=>none
theorem noteO_some{ls:List (List AV)}{r:RlA}{ls':List (List AV)}(h:noteO dq ls r=some ls'):Nonempty (NoteH dq ls r.ps r.kn r.ka r.eq ls'):=by
 unfold noteO at h
 split at h
 .rename_i k0 k1 k2 h1
  split at h
  .rename_i c0 c1 c2 row d1 d2 h2
   split at h
   .rename_i s h3
    split at h
    .rename_i hs
     split at h
     .rename_i n0 n1 x h4 h5 h6
      split at h
      .rename_i y h7
       obtain⟨g1,g2,g3⟩:=lineO_some h7
       split at h
       .rename_i he
        injection h with h
        subst h
        exact⟨⟨k0,k1,k2,c0,c1,c2,row,d1,d2,s,h1,h2,ansI_some h3,.inl ⟨of_decide_eq_true hs,_,n0,n1,x,y,smO_ok dq h4,h5,h6,g1,g2,g3,.inl ⟨he,rfl⟩⟩⟩⟩
       .rename_i he
        split at h
        .rename_i z h8
         obtain⟨g4,g5,g6⟩:=lineO_some h8
         injection h with h
         subst h
         exact⟨⟨k0,k1,k2,c0,c1,c2,row,d1,d2,s,h1,h2,ansI_some h3,.inl ⟨of_decide_eq_true hs,_,n0,n1,x,y,smO_ok dq h4,h5,h6,g1,g2,g3,.inr ⟨he,z,g4,g5,g6,rfl⟩⟩⟩⟩
        .cases h
      .cases h
     .cases h
    .rename_i hs
     split at h
     .rename_i q0 q1 q2 h4
      split at h
      .rename_i x h5 h6
       split at h
       .rename_i y h7
        obtain⟨g1,g2,g3⟩:=lineO_some h7
        injection h with h
        subst h
        exact⟨⟨k0,k1,k2,c0,c1,c2,row,d1,d2,s,h1,h2,ansI_some h3,.inr ⟨of_decide_eq_false hs,_,q0,q1,q2,x,y,h4,smO_ok dq h5,h6,g1,g2,g3,rfl⟩⟩⟩
       .cases h
      .cases h
     .cases h
   .cases h
  .cases h
 .cases h
def ansT:Option (AV × List BO)->Option (RlA × Int)
 |some (.tup [.agg cs,.v (.int .i64 k)],[])=>(match rlO cs with
  |some r=>some (r,k)
  |none=>none)
 |_=>none
theorem ansT_some{o:Option (AV × List BO)}{r:RlA}{k:Int}(h:ansT o=some (r,k)):o=some (.tup [.agg r.c,iv k],[]):=by
 unfold ansT at h
 split at h
 .split at h
  .rename_i hr
   injection h with h
   injection h with h1 h2
   subst h1 h2
   rw[rlO_some hr]
   rfl
  .cases h
 .cases h
def run1O:List RlA->List (List AV)->Option (Option (List (List AV)))
 |[],ls=>some (some ls)
 |r::rs,ls=>(match ansT (dq 17 [.agg r.c] []) with
  |some (r',k)=>(match decide (k=-1),decide (k=0) with
   |true,_=>some none
   |false,true=>(match noteO dq ls r' with
    |some ls'=>run1O rs ls'
    |none=>none)
   |false,false=>run1O rs ls)
  |none=>none)
theorem run1O_some:∀{rs:List RlA} {ls:List (List AV)} {o:Option (List (List AV))},run1O dq rs ls=some o->Run1 dq rs ls o
 |[],ls,o,h=>by
  injection h with h
  subst h
  exact .nil ls
 |r::rs,ls,o,h=>by
  unfold run1O at h
  split at h
  .rename_i r' k ht
   have ht:=ansT_some ht
   split at h
   .rename_i hk
    have:=of_decide_eq_true hk
    subst this
    injection h with h
    subst h
    exact .never r r' rs ls ht
   .rename_i hk h0
    have:=of_decide_eq_true h0
    subst this
    split at h
    .rename_i ls' hn
     exact .note r r' rs ls ls' o ht (noteO_some dq hn) (run1O_some h)
    .cases h
   .rename_i hk h0
    exact .skip r r' rs ls k o ht (of_decide_eq_false hk) (of_decide_eq_false h0) (run1O_some h)
  .cases h
def ansR:Option (AV × List BO)->Option (List RlA × Bool × List AV)
 |some (.tup [.ls more,.v (.bool ok)],[.set ⟨y,true,false⟩])=>(match rlsO more,y.all lsvB&&Nat.beq y.length 9 with
  |some ms,true=>some (ms,ok,y)
  |_,_=>none)
 |_=>none
theorem ansR_some{o:Option (AV × List BO)}{ms:List RlA}{ok:Bool}{y:List AV}(h:ansR o=some (ms,ok,y)):o=some (.tup [.ls (ms.map RlA.c),bv ok],[.set ⟨y,true,false⟩])/\y.all lsvB=true/\y.length=9:=by
 unfold ansR at h
 split at h
 .split at h
  .rename_i hr hc
   injection h with h
   injection h with h1 h
   injection h with h2 h3
   subst h1 h2 h3
   rw[Bool.and_eq_true]at hc
   rw[rlsO_some hr]
   exact⟨rfl,hc.1,Nat.eq_of_beq_eq_true hc.2⟩
  .cases h
 .cases h
def run2O:List (List AV)->List RlA->Option (Option (List RlA))
 |[],out=>some (some out)
 |x::xs,out=>(match ansR (dq 89 [.ptr 0 0] [⟨x,true,false⟩]) with
  |some (_,false,_)=>some none
  |some ([m0],true,_)=>run2O xs (out++[m0])
  |some ([m0,m1],true,_)=>run2O xs (out++[m0,m1])
  |_=>none)
theorem run2O_some:∀{xs:List (List AV)} {out:List RlA} {o:Option (List RlA)},run2O dq xs out=some o->Run2 dq xs out o
 |[],out,o,h=>by
  injection h with h
  subst h
  exact .nil out
 |x::xs,out,o,h=>by
  unfold run2O at h
  split at h
  .rename_i ms y ht
   obtain⟨g1,g2,g3⟩:=ansR_some ht
   injection h with h
   subst h
   exact .never x y xs out _ g1 g2 g3
  .rename_i m0 y ht
   obtain⟨g1,g2,g3⟩:=ansR_some ht
   exact .go x y xs out m0 [] o g1 g2 g3 (by simp) (run2O_some h)
  .rename_i m0 m1 y ht
   obtain⟨g1,g2,g3⟩:=ansR_some ht
   exact .go x y xs out m0 [m1] o g1 g2 g3 (by simp) (run2O_some h)
  .cases h
end
end Go.Proofs.YtpncilciembjdaaGreatDoor
