/-
  How far a cursor comes. No program in sight.
  Functions of the program as trees: what a call comes to.
  What the cursor's small functions come to.
  Functions of the program as trees: what a call comes to.
  What the reference's small functions over a tape come to.
  What the cursor's sums come to.
  Functions of the program as trees: what a call comes to.
  What the cursor's conditions come to.
  What the cursor's jobs come to.
-/
import Derived.Test.YtlmhajfbpplpoaaGreatUAQ
import Derived.Test.YtlmhajfbpplpoaaGreatUAS
set_option linter.unusedSectionVars false
set_option linter.unusedSimpArgs false
set_option linter.unusedVariables false
namespace Go.Proofs.YtlmhajfbpplpoaaGreat
open Go.RowKit

structure Toks (ts:List Tk):Prop where
 len:ts.length+300<4611686018427387904
 short:∀ i,(nx ts i).text.length<4611686018427387904
 fin:(ts.getLastD ⟨5,[],0,0⟩).kind=5
theorem Toks.past{ts:List Tk}(H:Toks ts){i:Nat}(h:ts.length<=i):(nx ts i).kind=5:=by
 unfold nx
 rw[List.getElem?_eq_none h]
 exact H.fin
theorem Toks.isT{ts:List Tk}(H:Toks ts){i:Nat}{s:List UInt8}(h:isT ts i s=true):i<ts.length:=by
 by_cases hi:i<ts.length
 .exact hi
 .unfold Go.Proofs.YtlmhajfbpplpoaaGreat.isT at h
  rw[H.past (by omega)]at h
  simp at h
theorem Toks.isN{ts:List Tk}(H:Toks ts){i:Nat}(h:isN ts i=true):i<ts.length:=by
 by_cases hi:i<ts.length
 .exact hi
 .unfold Go.Proofs.YtlmhajfbpplpoaaGreat.isN at h
  rw[H.past (by omega)]at h
  simp at h
theorem Toks.num{ts:List Tk}(H:Toks ts){i:Nat}(h:(nx ts i).kind=3):i<ts.length:=by
 by_cases hi:i<ts.length
 .exact hi
 .rw[H.past (by omega)]at h
  simp at h
structure Far (ts:List Tk) (i j e:Nat):Prop where
 ge:i<=j
 le:j<=ts.length
 gt:e=0->i<j
theorem Far.trans{ts:List Tk}{i j e k e2:Nat}(h:Far ts i j e)(h2:Far ts j k e2):Far ts i k e2:=⟨by have:=h.ge;have:=h2.ge;omega,h2.le,fun he=>by have:=h.ge;have:=h2.gt he;omega⟩
section
variable {ts:List Tk} (H:Toks ts) (vars:List ByteArray) (kn:Bool)
include H
theorem varP_far{i:Nat}(hi:i<=ts.length):Far ts i (varP ts vars kn i).1 (varP ts vars kn i).2.1:=by
 unfold varP
 cases h:isN ts i with
 |false=>rw[if_pos rfl];exact⟨Nat.le_refl _,hi,fun h=>absurd h (by simp)⟩
 |true=>
  have:=H.isN h
  rw[if_neg (by simp)]
  split
  .exact⟨Nat.le_refl _,hi,fun h=>absurd h (by simp)⟩
  .exact⟨Nat.le_succ _,this,fun _=>Nat.lt_succ_self _⟩
theorem monoP_far{i:Nat}(hi:i<=ts.length)(neg:Bool):Far ts i (monoP ts vars kn i neg).1 (monoP ts vars kn i neg).2.1:=by
 unfold monoP
 split
 .rename_i h3
  have:=H.num h3
  cases h:isT ts (i+1) [42]with
  |true=>
   have h1:=H.isT h
   have h2:=varP_far H vars kn (show i+2<=ts.length by omega)
   rw[if_pos rfl]
   exact⟨by have:=h2.ge;simp only;omega,h2.le,fun _=>by have:=h2.ge;simp only;omega⟩
  |false=>
   rw[if_neg (by simp)]
   exact⟨Nat.le_succ _,this,fun _=>Nat.lt_succ_self _⟩
 .exact varP_far H vars kn hi
theorem sumL_far:∀(k:Nat) (out:List Mo) (neg:Bool) (i:Nat),i<=ts.length->Far ts i (sumL ts vars kn k out neg i).1 (sumL ts vars kn k out neg i).2.1:=by
 intro k
 induction k with
 |zero=>
  intro out neg i hi
  unfold sumL
  split
  .exact⟨Nat.le_refl _,hi,fun h=>absurd h (by simp)⟩
  .exact⟨Nat.le_refl _,hi,fun h=>absurd h (by simp)⟩
 |succ k ih=>
  intro out neg i hi
  unfold sumL
  dsimp only
  have m:=monoP_far H vars kn hi neg
  split
  .exact⟨Nat.le_refl _,hi,fun h=>absurd h (by simp)⟩
  .split
   .exact m
   .split
    .rename_i h
     have h1:=H.isT h
     have m2:=ih (out++[(monoP ts vars kn i neg).2.2]) true ((monoP ts vars kn i neg).1+1) (by omega)
     exact⟨by have:=m.ge;have:=m2.ge;omega,m2.le,fun he=>by have:=m.ge;have:=m2.gt he;omega⟩
    .split
     .rename_i h
      have h1:=H.isT h
      have m2:=ih (out++[(monoP ts vars kn i neg).2.2]) false ((monoP ts vars kn i neg).1+1) (by omega)
      exact⟨by have:=m.ge;have:=m2.ge;omega,m2.le,fun he=>by have:=m.ge;have:=m2.gt he;omega⟩
     .rename_i h _ _
      exact⟨m.ge,m.le,fun _=>m.gt (by simpa using h)⟩
theorem sumP_far{i:Nat}(hi:i<=ts.length):Far ts i (sumP ts vars kn i).1 (sumP ts vars kn i).2.1:=by
 unfold sumP
 split
 .rename_i h
  have h1:=H.isT h
  have m2:=sumL_far H vars kn 64 [] true (i+1) (by omega)
  exact⟨by have:=m2.ge;omega,m2.le,fun he=>by have:=m2.gt he;omega⟩
 .exact sumL_far H vars kn 64 [] false i hi
theorem opP_far{i op:Nat}(h:opP ts i=some op):i<ts.length:=by
 unfold opP at h
 obtain⟨h1,h2,_⟩:=List.findIdx?_eq_some_iff_getElem.1 h
 exact H.isT h2
theorem cmpP_far{i:Nat}(hi:i<=ts.length):Far ts i (cmpP ts vars kn i).1 (cmpP ts vars kn i).2.1:=by
 unfold cmpP
 have m:=sumP_far H vars kn hi
 split
 .exact m
 .rename_i h0
  have h0:(sumP ts vars kn i).2.1=0:=by simpa using h0
  rw[h0]at m
  split
  .exact⟨m.ge,m.le,fun h=>absurd h (by simp)⟩
  .rename_i op h
   have h1:=opP_far H h
   have m2:=sumP_far H vars kn (show (sumP ts vars kn i).1+1<=ts.length by omega)
   have h2:=m.gt rfl
   have h3:=m2.ge
   split
   .exact⟨by simp only;omega,m2.le,fun _=>by simp only;omega⟩
   .exact⟨by simp only;omega,m2.le,fun _=>by simp only;omega⟩
end
end Go.Proofs.YtlmhajfbpplpoaaGreat
namespace Go.Proofs.YtlmhajfbpplpoaaGreat
open Go.RowKit
def hs92:Hints:=[]
noncomputable def mf92:MFn:=mfD Tryz.prog entsC hs92 false true 92
def hn92:Hnt:=⟨[],[],[(7,[.ls]),(15,[.ls]),(19,[.int .i64]),(24,[.int .i64,.str,.int .i64,.int .i64]),(25,[.int .i64,.str,.int .i64,.int .i64])]⟩
def hs96:Hints:=[]
noncomputable def mf96:MFn:=mfD Tryz.prog entsC hs96 false true 96
def hn96:Hnt:=⟨[(92,(.agg [.int .i64,.str,.int .i64,.int .i64],[.box [.ls,.int .i64,.ls,.bool]]))],[],[(9,[.str]),(14,[.int .i64]),(18,[.int .i64]),(23,[.int .i64])]⟩
def hs93:Hints:=[]
noncomputable def mf93:MFn:=mfD Tryz.prog entsC hs93 false true 93
def hn93:Hnt:=⟨[(96,(.bool,[.box [.ls,.int .i64,.ls,.bool]]))],[],[(13,[.int .i64])]⟩
def hs248:Hints:=[]
noncomputable def mf248:MFn:=mfD Tryz.prog entsC hs248 false true 248
def hn248:Hnt:=⟨[(93,(.bool,[.box [.ls,.int .i64,.ls,.bool]]))],[],[]⟩
def hs162:Hints:=[]
noncomputable def mf162:MFn:=mfD Tryz.prog entsC hs162 false true 162
def hn162:Hnt:=⟨[(92,(.agg [.int .i64,.str,.int .i64,.int .i64],[.box [.ls,.int .i64,.ls,.bool]])),(109,(.bool,[]))],[],[(7,[.int .i64]),(11,[.str])]⟩
def hs163:Hints:=[]
noncomputable def mf163:MFn:=mfD Tryz.prog entsC hs163 false true 163
def hn163:Hnt:=⟨[(92,(.agg [.int .i64,.str,.int .i64,.int .i64],[.box [.ls,.int .i64,.ls,.bool]])),(162,(.bool,[.box [.ls,.int .i64,.ls,.bool]])),(219,(.bool,[]))],[],[(15,[.bool]),(20,[.ls]),(22,[.str]),(29,[.int .i64]),(34,[.str])]⟩
def hs95:Hints:=[]
noncomputable def mf95:MFn:=mfD Tryz.prog entsC hs95 false true 95
def hn95:Hnt:=⟨[(92,(.agg [.int .i64,.str,.int .i64,.int .i64],[.box [.ls,.int .i64,.ls,.bool]])),(93,(.bool,[.box [.ls,.int .i64,.ls,.bool]])),(163,(.tup [.str,.int .i64],[.box [.ls,.int .i64,.ls,.bool]]))],[],[(14,[.int .i64]),(17,[.str]),(22,[.int .i64]),(29,[.bool,.str,.str]),(36,[.bool,.str,.str])]⟩
def hs94:Hints:=[]
noncomputable def mf94:MFn:=mfD Tryz.prog entsC hs94 false true 94
def hn94:Hnt:=⟨[(92,(.agg [.int .i64,.str,.int .i64,.int .i64],[.box [.ls,.int .i64,.ls,.bool]])),(162,(.bool,[.box [.ls,.int .i64,.ls,.bool]]))],[],[]⟩
def hs49:Hints:=[⟨41,[true,false,false,false,true,true],[(4,3)],[],[(0,([true,false,true,true],([2],[4])))]⟩]
noncomputable def mf49:MFn:=mfD Tryz.prog entsC hs49 false true 49
def hn49:Hnt:=⟨[(93,(.bool,[.box [.ls,.int .i64,.ls,.bool]])),(94,(.bool,[.box [.ls,.int .i64,.ls,.bool]])),(95,(.tup [.agg [.bool,.str,.str],.int .i64],[.box [.ls,.int .i64,.ls,.bool]])),(96,(.bool,[.box [.ls,.int .i64,.ls,.bool]]))],[(0,[(0,([.ptr 0 0,.ls,.int .i64],[.box [.ls,.int .i64,.ls,.bool],.del]))])],[(27,[.bool,.str,.str])]⟩
def hs90:Hints:=[]
noncomputable def mf90:MFn:=mfD Tryz.prog entsC hs90 false false 90
def hn90:Hnt:=⟨[],[],[]⟩
def hs88:Hints:=[⟨19,[true,true,false,false,false,false,false,true,true],[],[],[(0,([false,false,false,false,true],([],[]))),(1,([],([],[])))]⟩]
noncomputable def mf88:MFn:=mfD Tryz.prog entsC hs88 false false 88
def hn88:Hnt:=⟨[],[(0,[(0,([.int .i64],[])),(1,([],[]))])],[(14,[.str]),(15,[.str])]⟩
def hs219:Hints:=[]
noncomputable def mf219:MFn:=mfD Tryz.prog entsC hs219 false false 219
def hn219:Hnt:=⟨[(88,(.int .i64,[]))],[],[]⟩
noncomputable def tabEa:List (Nat × MFn):=[(92,mf92),(96,mf96),(93,mf93),(248,mf248),(162,mf162),(163,mf163),(95,mf95),(94,mf94),(49,mf49),(90,mf90),(88,mf88),(219,mf219)]
theorem e92(A:Ar)(D:Orc)(p0_0:List (List AV))(p0_1:Int)(p0_2:List (List AV))(p0_3:Bool):fnK A D ownC hn92 .n 92 mf92 [AV.ptr 0 0] [{ cells:=[AV.ls p0_0,iv p0_1,AV.ls p0_2,bv p0_3],st:=true,ex:=false }] =
 br (A.eq (↑(lenR p0_0)) 0)
 (some ((AV.agg [iv 5,sv (bstr []),iv 0,iv 0],[BO.set (ABlk.mk [AV.ls p0_0,iv p0_1,AV.ls p0_2,bv p0_3] true false)])))
 (unI (A.min (A.max p0_1 0) (A.sub IntKind.i64 (↑(lenR p0_0)) 1)) fun i=>
 nthK p0_0 i fun cs=>
 cInt IntKind.i64 cs fun n l=>
 cStr l fun s l1=>
 cInt IntKind.i64 l1 fun n1 l2=>
 cInt IntKind.i64 l2 fun n2 l3=>
 unNil l3<|
 some ((AV.agg [iv n,sv s,iv n1,iv n2],[BO.set (ABlk.mk [AV.ls p0_0,iv p0_1,AV.ls p0_2,bv p0_3] true false)]))):=by kernel_rfl

theorem e96(A:Ar)(D:Orc)(p0_0:List (List AV))(p0_1:Int)(p0_2:List (List AV))(p0_3:Bool)(x1:ByteArray):fnK A D ownC hn96 .n 96 mf96 [AV.ptr 0 0,sv x1] [{ cells:=[AV.ls p0_0,iv p0_1,AV.ls p0_2,bv p0_3],st:=true,ex:=false }] =
 askK D (Key.fn 92) [AV.ptr 0 0] [ABlk.mk [AV.ls p0_0,iv p0_1,AV.ls p0_2,bv p0_3] true false] fun r o=>
 unAgg r fun cs=>
 cInt IntKind.i64 cs fun n l=>
 cStr l fun s l1=>
 cInt IntKind.i64 l1 fun _ l2=>
 cInt IntKind.i64 l2 fun _ l3=>
 unNil l3<|
 unOut o fun c l4=>
 unSet true false c fun cs1=>
 cLs cs1 fun xs l5=>
 cInt IntKind.i64 l5 fun n3 l6=>
 cLs l6 fun xs1 l7=>
 cBool l7 fun b l8=>
 unNil l8<|
 unEnd l4<|
 br (A.seq s x1)
 (br (A.eq n 2)
 (some ((bv true,[BO.set (ABlk.mk [AV.ls xs,iv n3,AV.ls xs1,bv b] true false)])))
 (br (A.eq n 1)
 (some ((bv true,[BO.set (ABlk.mk [AV.ls xs,iv n3,AV.ls xs1,bv b] true false)])))
 (br (A.eq n 4)
 (some ((bv true,[BO.set (ABlk.mk [AV.ls xs,iv n3,AV.ls xs1,bv b] true false)])))
 (some ((bv false,[BO.set (ABlk.mk [AV.ls xs,iv n3,AV.ls xs1,bv b] true false)]))))))
 (some ((bv false,[BO.set (ABlk.mk [AV.ls xs,iv n3,AV.ls xs1,bv b] true false)]))):=by kernel_rfl

theorem e93(A:Ar)(D:Orc)(p0_0:List (List AV))(p0_1:Int)(p0_2:List (List AV))(p0_3:Bool)(x1:ByteArray):fnK A D ownC hn93 .n 93 mf93 [AV.ptr 0 0,sv x1] [{ cells:=[AV.ls p0_0,iv p0_1,AV.ls p0_2,bv p0_3],st:=true,ex:=false }] =
 askK D (Key.fn 96) [AV.ptr 0 0,sv x1] [ABlk.mk [AV.ls p0_0,iv p0_1,AV.ls p0_2,bv p0_3] true false] fun r o=>
 unBool r fun b=>
 unOut o fun c l=>
 unSet true false c fun cs=>
 cLs cs fun xs l1=>
 cInt IntKind.i64 l1 fun n l2=>
 cLs l2 fun xs1 l3=>
 cBool l3 fun b1 l4=>
 unNil l4<|
 unEnd l<|
 br b
 (some ((bv true,[BO.set (ABlk.mk [AV.ls xs,iv (A.add IntKind.i64 n 1),AV.ls xs1,bv b1] true false)])))
 (some ((bv false,[BO.set (ABlk.mk [AV.ls xs,iv n,AV.ls xs1,bv b1] true false)]))):=by kernel_rfl

theorem e248(A:Ar)(D:Orc)(p0_0:List (List AV))(p0_1:Int)(p0_2:List (List AV))(p0_3:Bool)(x1:ByteArray):fnK A D ownC hn248 .n 248 mf248 [AV.ptr 0 0,sv x1] [{ cells:=[AV.ls p0_0,iv p0_1,AV.ls p0_2,bv p0_3],st:=true,ex:=false }] =
 askK D (Key.fn 93) [AV.ptr 0 0,sv x1] [ABlk.mk [AV.ls p0_0,iv p0_1,AV.ls p0_2,bv p0_3] true false] fun r o=>
 unBool r fun b=>
 unOut o fun c l=>
 unSet true false c fun cs=>
 cLs cs fun xs l1=>
 cInt IntKind.i64 l1 fun n l2=>
 cLs l2 fun xs1 l3=>
 cBool l3 fun b1 l4=>
 unNil l4<|
 unEnd l<|
 br b
 (some ((iv 0,[BO.set (ABlk.mk [AV.ls xs,iv n,AV.ls xs1,bv b1] true false)])))
 (some ((iv 101,[BO.set (ABlk.mk [AV.ls xs,iv n,AV.ls xs1,bv b1] true false)]))):=by kernel_rfl

theorem e162(A:Ar)(D:Orc)(p0_0:List (List AV))(p0_1:Int)(p0_2:List (List AV))(p0_3:Bool):fnK A D ownC hn162 .n 162 mf162 [AV.ptr 0 0] [{ cells:=[AV.ls p0_0,iv p0_1,AV.ls p0_2,bv p0_3],st:=true,ex:=false }] =
 askK D (Key.fn 92) [AV.ptr 0 0] [ABlk.mk [AV.ls p0_0,iv p0_1,AV.ls p0_2,bv p0_3] true false] fun r o=>
 unAgg r fun cs=>
 cInt IntKind.i64 cs fun n l=>
 cStr l fun s l1=>
 cInt IntKind.i64 l1 fun _ l2=>
 cInt IntKind.i64 l2 fun _ l3=>
 unNil l3<|
 unOut o fun c l4=>
 unSet true false c fun cs1=>
 cLs cs1 fun xs l5=>
 cInt IntKind.i64 l5 fun n3 l6=>
 cLs l6 fun xs1 l7=>
 cBool l7 fun b l8=>
 unNil l8<|
 unEnd l4<|
 br (A.eq n 1)
 (askK D (Key.fn 109) [sv s] [] fun r1 o1=>
 unBool r1 fun b1=>
 unEnd o1<|
 br b1
 (some ((bv true,[BO.set (ABlk.mk [AV.ls xs,iv n3,AV.ls xs1,bv b] true false)])))
 (some ((bv false,[BO.set (ABlk.mk [AV.ls xs,iv n3,AV.ls xs1,bv b] true false)]))))
 (some ((bv false,[BO.set (ABlk.mk [AV.ls xs,iv n3,AV.ls xs1,bv b] true false)]))):=by kernel_rfl

theorem e163(A:Ar)(D:Orc)(p0_0:List (List AV))(p0_1:Int)(p0_2:List (List AV))(p0_3:Bool):fnK A D ownC hn163 (.b (.b .n (.b .n (.b (.t (.t (.t (.t (.t (.t (.b (.t (.b .n (.t .n))) (.t (.b (.t .n) .n))))))))) (.f (.f (.f (.f (.f (.f (.f (.f .n))))))))))) .n) 163 mf163 [AV.ptr 0 0] [{ cells:=[AV.ls p0_0,iv p0_1,AV.ls p0_2,bv p0_3],st:=true,ex:=false }] =
 askK D (Key.fn 92) [AV.ptr 0 0] [ABlk.mk [AV.ls p0_0,iv p0_1,AV.ls p0_2,bv p0_3] true false] fun r o=>
 unAgg r fun cs=>
 cInt IntKind.i64 cs fun _ l=>
 cStr l fun s l1=>
 cInt IntKind.i64 l1 fun _ l2=>
 cInt IntKind.i64 l2 fun _ l3=>
 unNil l3<|
 unOut o fun c l4=>
 unSet true false c fun cs1=>
 cLs cs1 fun xs l5=>
 cInt IntKind.i64 l5 fun n3 l6=>
 cLs l6 fun xs1 l7=>
 cBool l7 fun b l8=>
 unNil l8<|
 unEnd l4<|
 askK D (Key.fn 162) [AV.ptr 0 0] [ABlk.mk [AV.ls xs,iv n3,AV.ls xs1,bv b] true false] fun r1 o1=>
 unBool r1 fun b1=>
 unOut o1 fun c1 l9=>
 unSet true false c1 fun cs2=>
 cLs cs2 fun xs2 l10=>
 cInt IntKind.i64 l10 fun n4 l11=>
 cLs l11 fun xs3 l12=>
 cBool l12 fun b2 l13=>
 unNil l13<|
 unEnd l9<|
 br b1
 (br b2
 (br b2 (br b2 (br b2 (br b2 (br b2 (br b2 (askK D (Key.fn 219) [AV.ls xs3,sv s] [] fun r2 o2=>
 unBool r2 fun b3=>
 unEnd o2<|
 br b3
 (br b2 (br b2 (some ((AV.tup [sv s,iv 0],[BO.set (ABlk.mk [AV.ls xs2,iv (A.add IntKind.i64 n4 1),AV.ls xs3,bv b2] true false)]))) none) none)
 (br b2 (br b2 (some ((AV.tup [sv (bstr []),iv 110],[BO.set (ABlk.mk [AV.ls xs2,iv n4,AV.ls xs3,bv b2] true false)]))) none) none)) none) none) none) none) none) none)
 (br b2 none (br b2 none (br b2 none (br b2 none (br b2 none (br b2 none (br b2 none (br b2 none (some ((AV.tup [sv s,iv 0],[BO.set (ABlk.mk [AV.ls xs2,iv (A.add IntKind.i64 n4 1),AV.ls xs3,bv b2] true false)]))))))))))))
 (some ((AV.tup [sv (bstr []),iv 101],[BO.set (ABlk.mk [AV.ls xs2,iv n4,AV.ls xs3,bv b2] true false)]))):=by kernel_rfl

theorem e95(A:Ar)(D:Orc)(p0_0:List (List AV))(p0_1:Int)(p0_2:List (List AV))(p0_3:Bool)(x1:Bool):fnK A D ownC hn95 .n 95 mf95 [AV.ptr 0 0,bv x1] [{ cells:=[AV.ls p0_0,iv p0_1,AV.ls p0_2,bv p0_3],st:=true,ex:=false }] =
 askK D (Key.fn 92) [AV.ptr 0 0] [ABlk.mk [AV.ls p0_0,iv p0_1,AV.ls p0_2,bv p0_3] true false] fun r o=>
 unAgg r fun cs=>
 cInt IntKind.i64 cs fun n l=>
 cStr l fun s l1=>
 cInt IntKind.i64 l1 fun _ l2=>
 cInt IntKind.i64 l2 fun _ l3=>
 unNil l3<|
 unOut o fun c l4=>
 unSet true false c fun cs1=>
 cLs cs1 fun xs l5=>
 cInt IntKind.i64 l5 fun n3 l6=>
 cLs l6 fun xs1 l7=>
 cBool l7 fun b l8=>
 unNil l8<|
 unEnd l4<|
 br (A.eq n 3)
 (askK D (Key.fn 93) [AV.ptr 0 0,sv (bstr [42])] [ABlk.mk [AV.ls xs,iv (A.add IntKind.i64 n3 1),AV.ls xs1,bv b] true false] fun r1 o1=>
 unBool r1 fun b1=>
 unOut o1 fun c1 l9=>
 unSet true false c1 fun cs2=>
 cLs cs2 fun xs2 l10=>
 cInt IntKind.i64 l10 fun n4 l11=>
 cLs l11 fun xs3 l12=>
 cBool l12 fun b2 l13=>
 unNil l13<|
 unEnd l9<|
 br b1
 (askK D (Key.fn 163) [AV.ptr 0 0] [ABlk.mk [AV.ls xs2,iv n4,AV.ls xs3,bv b2] true false] fun r2 o2=>
 unTup r2 fun cs3=>
 cStr cs3 fun s1 l14=>
 cInt IntKind.i64 l14 fun n5 l15=>
 unNil l15<|
 unOut o2 fun c2 l16=>
 unSet true false c2 fun cs4=>
 cLs cs4 fun xs4 l17=>
 cInt IntKind.i64 l17 fun n6 l18=>
 cLs l18 fun xs5 l19=>
 cBool l19 fun b3 l20=>
 unNil l20<|
 unEnd l16<|
 some ((AV.tup [AV.agg [bv x1,sv s,sv s1],iv n5],[BO.set (ABlk.mk [AV.ls xs4,iv n6,AV.ls xs5,bv b3] true false)])))
 (some ((AV.tup [AV.agg [bv x1,sv s,sv (bstr [])],iv 0],[BO.set (ABlk.mk [AV.ls xs2,iv n4,AV.ls xs3,bv b2] true false)]))))
 (askK D (Key.fn 163) [AV.ptr 0 0] [ABlk.mk [AV.ls xs,iv n3,AV.ls xs1,bv b] true false] fun r1 o1=>
 unTup r1 fun cs2=>
 cStr cs2 fun s1 l9=>
 cInt IntKind.i64 l9 fun n4 l10=>
 unNil l10<|
 unOut o1 fun c1 l11=>
 unSet true false c1 fun cs3=>
 cLs cs3 fun xs2 l12=>
 cInt IntKind.i64 l12 fun n5 l13=>
 cLs l13 fun xs3 l14=>
 cBool l14 fun b1 l15=>
 unNil l15<|
 unEnd l11<|
 some ((AV.tup [AV.agg [bv x1,sv (bstr []),sv s1],iv n4],[BO.set (ABlk.mk [AV.ls xs2,iv n5,AV.ls xs3,bv b1] true false)]))):=by kernel_rfl

theorem e94(A:Ar)(D:Orc)(p0_0:List (List AV))(p0_1:Int)(p0_2:List (List AV))(p0_3:Bool):fnK A D ownC hn94 .n 94 mf94 [AV.ptr 0 0] [{ cells:=[AV.ls p0_0,iv p0_1,AV.ls p0_2,bv p0_3],st:=true,ex:=false }] =
 askK D (Key.fn 92) [AV.ptr 0 0] [ABlk.mk [AV.ls p0_0,iv p0_1,AV.ls p0_2,bv p0_3] true false] fun r o=>
 unAgg r fun cs=>
 cInt IntKind.i64 cs fun n l=>
 cStr l fun _ l1=>
 cInt IntKind.i64 l1 fun _ l2=>
 cInt IntKind.i64 l2 fun _ l3=>
 unNil l3<|
 unOut o fun c l4=>
 unSet true false c fun cs1=>
 cLs cs1 fun xs l5=>
 cInt IntKind.i64 l5 fun n3 l6=>
 cLs l6 fun xs1 l7=>
 cBool l7 fun b l8=>
 unNil l8<|
 unEnd l4<|
 br (A.eq n 3)
 (some ((bv true,[BO.set (ABlk.mk [AV.ls xs,iv n3,AV.ls xs1,bv b] true false)])))
 (askK D (Key.fn 162) [AV.ptr 0 0] [ABlk.mk [AV.ls xs,iv n3,AV.ls xs1,bv b] true false] fun r1 o1=>
 unBool r1 fun b1=>
 unOut o1 fun c1 l9=>
 unSet true false c1 fun cs2=>
 cLs cs2 fun xs2 l10=>
 cInt IntKind.i64 l10 fun n4 l11=>
 cLs l11 fun xs3 l12=>
 cBool l12 fun b2 l13=>
 unNil l13<|
 unEnd l9<|
 br b1
 (some ((bv true,[BO.set (ABlk.mk [AV.ls xs2,iv n4,AV.ls xs3,bv b2] true false)])))
 (some ((bv false,[BO.set (ABlk.mk [AV.ls xs2,iv n4,AV.ls xs3,bv b2] true false)])))):=by kernel_rfl

theorem e49(A:Ar)(D:Orc)(p0_0:List (List AV))(p0_1:Int)(p0_2:List (List AV))(p0_3:Bool):fnK A D ownC hn49 .n 49 mf49 [AV.ptr 0 0] [{ cells:=[AV.ls p0_0,iv p0_1,AV.ls p0_2,bv p0_3],st:=true,ex:=false }] =
 askK D (Key.fn 93) [AV.ptr 0 0,sv (bstr [45])] [ABlk.mk [AV.ls p0_0,iv p0_1,AV.ls p0_2,bv p0_3] true false] fun r o=>
 unBool r fun b=>
 unOut o fun c l=>
 unSet true false c fun cs=>
 cLs cs fun xs l1=>
 cInt IntKind.i64 l1 fun n l2=>
 cLs l2 fun xs1 l3=>
 cBool l3 fun b1 l4=>
 unNil l4<|
 unEnd l<|
 br b
 (askK D (Key.lp 49 0) [AV.ptr 0 0,AV.sl 1 0 0 3,bv true] [ABlk.mk [AV.ls xs,iv n,AV.ls xs1,bv b1] true false,ABlk.mk [] true true] fun r1 o1=>
 unTup r1 fun cs1=>
 unCons cs1 fun c1 l5=>
 br (axIs 0 c1)
 (unCons l5 fun c2 l6=>
 unPtr 0 0 c2<|
 cLs l6 fun xs2 l7=>
 cInt IntKind.i64 l7 fun n1 l8=>
 unNil l8<|
 unOut o1 fun c3 l9=>
 unSet true false c3 fun cs2=>
 cLs cs2 fun xs3 l10=>
 cInt IntKind.i64 l10 fun n2 l11=>
 cLs l11 fun xs4 l12=>
 cBool l12 fun b2 l13=>
 unNil l13<|
 unOut l9 fun c4 l14=>
 unDel c4<|
 unEnd l14<|
 some ((AV.tup [AV.ls xs2,iv n1],[BO.set (ABlk.mk [AV.ls xs3,iv n2,AV.ls xs4,bv b2] true false)])))
 (none))
 (askK D (Key.lp 49 0) [AV.ptr 0 0,AV.sl 1 0 0 3,bv false] [ABlk.mk [AV.ls xs,iv n,AV.ls xs1,bv b1] true false,ABlk.mk [] true true] fun r1 o1=>
 unTup r1 fun cs1=>
 unCons cs1 fun c1 l5=>
 br (axIs 0 c1)
 (unCons l5 fun c2 l6=>
 unPtr 0 0 c2<|
 cLs l6 fun xs2 l7=>
 cInt IntKind.i64 l7 fun n1 l8=>
 unNil l8<|
 unOut o1 fun c3 l9=>
 unSet true false c3 fun cs2=>
 cLs cs2 fun xs3 l10=>
 cInt IntKind.i64 l10 fun n2 l11=>
 cLs l11 fun xs4 l12=>
 cBool l12 fun b2 l13=>
 unNil l13<|
 unOut l9 fun c4 l14=>
 unDel c4<|
 unEnd l14<|
 some ((AV.tup [AV.ls xs2,iv n1],[BO.set (ABlk.mk [AV.ls xs3,iv n2,AV.ls xs4,bv b2] true false)])))
 (none)):=by kernel_rfl

theorem e49_0(A:Ar)(D:Orc)(b0_0:List (List AV))(b0_1:Int)(b0_2:List (List AV))(b0_3:Bool)(n4:Nat)(c4:List AV)(t5:Bool):lpK A D ownC hn49 .n 49 0 (lpAt mf49 0).fst (lpAt mf49 0).snd [AV.ptr 0 0,AV.sl 1 0 n4 3,bv t5] [{ cells:=[AV.ls b0_0,iv b0_1,AV.ls b0_2,bv b0_3],st:=true,ex:=false },{ cells:=c4,st:=true,ex:=true }] =
 br (A.eq (↑n4) 64)
 (askK D (Key.fn 94) [AV.ptr 0 0] [ABlk.mk [AV.ls b0_0,iv b0_1,AV.ls b0_2,bv b0_3] true false] fun r o=>
 unBool r fun b=>
 unOut o fun c l=>
 unSet true false c fun cs=>
 cLs cs fun xs l1=>
 cInt IntKind.i64 l1 fun n l2=>
 cLs l2 fun xs1 l3=>
 cBool l3 fun b1 l4=>
 unNil l4<|
 unEnd l<|
 br b
 (some ((AV.tup [bv true,AV.ptr 0 0,AV.ls [],iv 3],[BO.set (ABlk.mk [AV.ls xs,iv n,AV.ls xs1,bv b1] true false),BO.del])))
 (askK D (Key.fn 95) [AV.ptr 0 0,bv t5] [ABlk.mk [AV.ls xs,iv n,AV.ls xs1,bv b1] true false] fun r1 o1=>
 unTup r1 fun cs1=>
 unCons cs1 fun c1 l5=>
 unAgg c1 fun cs2=>
 cBool cs2 fun b2 l6=>
 cStr l6 fun s l7=>
 cStr l7 fun s1 l8=>
 unNil l8<|
 cInt IntKind.i64 l5 fun n1 l9=>
 unNil l9<|
 unOut o1 fun c2 l10=>
 unSet true false c2 fun cs3=>
 cLs cs3 fun xs2 l11=>
 cInt IntKind.i64 l11 fun n2 l12=>
 cLs l12 fun xs3 l13=>
 cBool l13 fun b3 l14=>
 unNil l14<|
 unEnd l10<|
 br (A.eq n1 0)
 (br (fitsB (n4+1) 40) (br ((0+n4*3).ble c4.length) (askK D (Key.fn 96) [AV.ptr 0 0,sv (bstr [45])] [ABlk.mk [AV.ls xs2,iv n2,AV.ls xs3,bv b3] true false] fun r2 o2=>
 unBool r2 fun b4=>
 unOut o2 fun c3 l15=>
 unSet true false c3 fun cs4=>
 cLs cs4 fun xs4 l16=>
 cInt IntKind.i64 l16 fun n3 l17=>
 cLs l17 fun xs5 l18=>
 cBool l18 fun b5 l19=>
 unNil l19<|
 unEnd l15<|
 br b4
 (askK D (Key.fn 93) [AV.ptr 0 0,sv (bstr [45])] [ABlk.mk [AV.ls xs4,iv n3,AV.ls xs5,bv b5] true false] fun r3 o3=>
 unBool r3 fun b6=>
 unOut o3 fun c5 l20=>
 unSet true false c5 fun cs5=>
 cLs cs5 fun xs6 l21=>
 cInt IntKind.i64 l21 fun n5 l22=>
 cLs l22 fun xs7 l23=>
 cBool l23 fun b7 l24=>
 unNil l24<|
 unEnd l20<|
 br b6
 (askK D (Key.lp 49 0) [AV.ptr 0 0,AV.sl 1 0 (n4+1) 3,bv true] [ABlk.mk [AV.ls xs6,iv n5,AV.ls xs7,bv b7] true false,ABlk.mk (List.drop 0 (List.take (0+n4*3) c4)++[bv b2,sv s,sv s1]) true true] fun r4 o4=>
 tailK 2 [0,4] (AH.mk [(0,ABlk.mk [AV.ls xs6,iv n5,AV.ls xs7,bv b7] true false),(4,ABlk.mk (List.drop 0 (List.take (0+n4*3) c4)++[bv b2,sv s,sv s1]) true true),(3,ABlk.mk [bv b2,sv s,sv s1] true true),(2,ABlk.mk [bv b2,sv s,sv s1] true false)] 5 none) [1,0] r4 o4)
 (askK D (Key.fn 93) [AV.ptr 0 0,sv (bstr [43])] [ABlk.mk [AV.ls xs6,iv n5,AV.ls xs7,bv b7] true false] fun r4 o4=>
 unBool r4 fun b8=>
 unOut o4 fun c6 l25=>
 unSet true false c6 fun cs6=>
 cLs cs6 fun xs8 l26=>
 cInt IntKind.i64 l26 fun n6 l27=>
 cLs l27 fun xs9 l28=>
 cBool l28 fun b9 l29=>
 unNil l29<|
 unEnd l25<|
 br b8
 (askK D (Key.lp 49 0) [AV.ptr 0 0,AV.sl 1 0 (n4+1) 3,bv true] [ABlk.mk [AV.ls xs8,iv n6,AV.ls xs9,bv b9] true false,ABlk.mk (List.drop 0 (List.take (0+n4*3) c4)++[bv b2,sv s,sv s1]) true true] fun r5 o5=>
 tailK 2 [0,4] (AH.mk [(0,ABlk.mk [AV.ls xs8,iv n6,AV.ls xs9,bv b9] true false),(4,ABlk.mk (List.drop 0 (List.take (0+n4*3) c4)++[bv b2,sv s,sv s1]) true true),(3,ABlk.mk [bv b2,sv s,sv s1] true true),(2,ABlk.mk [bv b2,sv s,sv s1] true false)] 5 none) [1,0] r5 o5)
 (br ((0+(n4+1)*3).ble (List.drop 0 (List.take (0+n4*3) c4)++[bv b2,sv s,sv s1]).length) (some ((AV.tup [bv true,AV.ptr 0 0,AV.ls (chunk (n4+1) 3 (List.take ((n4+1)*3) (List.drop 0 (List.drop 0 (List.take (0+n4*3) c4)++[bv b2,sv s,sv s1])))),iv 0],[BO.set (ABlk.mk [AV.ls xs8,iv n6,AV.ls xs9,bv b9] true false),BO.del]))) none)))
 (askK D (Key.fn 93) [AV.ptr 0 0,sv (bstr [45])] [ABlk.mk [AV.ls xs4,iv n3,AV.ls xs5,bv b5] true false] fun r3 o3=>
 unBool r3 fun b6=>
 unOut o3 fun c5 l20=>
 unSet true false c5 fun cs5=>
 cLs cs5 fun xs6 l21=>
 cInt IntKind.i64 l21 fun n5 l22=>
 cLs l22 fun xs7 l23=>
 cBool l23 fun b7 l24=>
 unNil l24<|
 unEnd l20<|
 br b6
 (askK D (Key.lp 49 0) [AV.ptr 0 0,AV.sl 1 0 (n4+1) 3,bv false] [ABlk.mk [AV.ls xs6,iv n5,AV.ls xs7,bv b7] true false,ABlk.mk (List.drop 0 (List.take (0+n4*3) c4)++[bv b2,sv s,sv s1]) true true] fun r4 o4=>
 tailK 2 [0,4] (AH.mk [(0,ABlk.mk [AV.ls xs6,iv n5,AV.ls xs7,bv b7] true false),(4,ABlk.mk (List.drop 0 (List.take (0+n4*3) c4)++[bv b2,sv s,sv s1]) true true),(3,ABlk.mk [bv b2,sv s,sv s1] true true),(2,ABlk.mk [bv b2,sv s,sv s1] true false)] 5 none) [1,0] r4 o4)
 (askK D (Key.fn 93) [AV.ptr 0 0,sv (bstr [43])] [ABlk.mk [AV.ls xs6,iv n5,AV.ls xs7,bv b7] true false] fun r4 o4=>
 unBool r4 fun b8=>
 unOut o4 fun c6 l25=>
 unSet true false c6 fun cs6=>
 cLs cs6 fun xs8 l26=>
 cInt IntKind.i64 l26 fun n6 l27=>
 cLs l27 fun xs9 l28=>
 cBool l28 fun b9 l29=>
 unNil l29<|
 unEnd l25<|
 br b8
 (askK D (Key.lp 49 0) [AV.ptr 0 0,AV.sl 1 0 (n4+1) 3,bv false] [ABlk.mk [AV.ls xs8,iv n6,AV.ls xs9,bv b9] true false,ABlk.mk (List.drop 0 (List.take (0+n4*3) c4)++[bv b2,sv s,sv s1]) true true] fun r5 o5=>
 tailK 2 [0,4] (AH.mk [(0,ABlk.mk [AV.ls xs8,iv n6,AV.ls xs9,bv b9] true false),(4,ABlk.mk (List.drop 0 (List.take (0+n4*3) c4)++[bv b2,sv s,sv s1]) true true),(3,ABlk.mk [bv b2,sv s,sv s1] true true),(2,ABlk.mk [bv b2,sv s,sv s1] true false)] 5 none) [1,0] r5 o5)
 (br ((0+(n4+1)*3).ble (List.drop 0 (List.take (0+n4*3) c4)++[bv b2,sv s,sv s1]).length) (some ((AV.tup [bv true,AV.ptr 0 0,AV.ls (chunk (n4+1) 3 (List.take ((n4+1)*3) (List.drop 0 (List.drop 0 (List.take (0+n4*3) c4)++[bv b2,sv s,sv s1])))),iv 0],[BO.set (ABlk.mk [AV.ls xs8,iv n6,AV.ls xs9,bv b9] true false),BO.del]))) none)))) none) none)
 (some ((AV.tup [bv true,AV.ptr 0 0,AV.ls [],iv n1],[BO.set (ABlk.mk [AV.ls xs2,iv n2,AV.ls xs3,bv b3] true false),BO.del])))))
 (askK D (Key.fn 95) [AV.ptr 0 0,bv t5] [ABlk.mk [AV.ls b0_0,iv b0_1,AV.ls b0_2,bv b0_3] true false] fun r o=>
 unTup r fun cs=>
 unCons cs fun c l=>
 unAgg c fun cs1=>
 cBool cs1 fun b l1=>
 cStr l1 fun s l2=>
 cStr l2 fun s1 l3=>
 unNil l3<|
 cInt IntKind.i64 l fun n l4=>
 unNil l4<|
 unOut o fun c1 l5=>
 unSet true false c1 fun cs2=>
 cLs cs2 fun xs l6=>
 cInt IntKind.i64 l6 fun n1 l7=>
 cLs l7 fun xs1 l8=>
 cBool l8 fun b1 l9=>
 unNil l9<|
 unEnd l5<|
 br (A.eq n 0)
 (br (fitsB (n4+1) 40) (br ((0+n4*3).ble c4.length) (askK D (Key.fn 96) [AV.ptr 0 0,sv (bstr [45])] [ABlk.mk [AV.ls xs,iv n1,AV.ls xs1,bv b1] true false] fun r1 o1=>
 unBool r1 fun b2=>
 unOut o1 fun c2 l10=>
 unSet true false c2 fun cs3=>
 cLs cs3 fun xs2 l11=>
 cInt IntKind.i64 l11 fun n2 l12=>
 cLs l12 fun xs3 l13=>
 cBool l13 fun b3 l14=>
 unNil l14<|
 unEnd l10<|
 br b2
 (askK D (Key.fn 93) [AV.ptr 0 0,sv (bstr [45])] [ABlk.mk [AV.ls xs2,iv n2,AV.ls xs3,bv b3] true false] fun r2 o2=>
 unBool r2 fun b4=>
 unOut o2 fun c3 l15=>
 unSet true false c3 fun cs4=>
 cLs cs4 fun xs4 l16=>
 cInt IntKind.i64 l16 fun n3 l17=>
 cLs l17 fun xs5 l18=>
 cBool l18 fun b5 l19=>
 unNil l19<|
 unEnd l15<|
 br b4
 (askK D (Key.lp 49 0) [AV.ptr 0 0,AV.sl 1 0 (n4+1) 3,bv true] [ABlk.mk [AV.ls xs4,iv n3,AV.ls xs5,bv b5] true false,ABlk.mk (List.drop 0 (List.take (0+n4*3) c4)++[bv b,sv s,sv s1]) true true] fun r3 o3=>
 tailK 2 [0,4] (AH.mk [(0,ABlk.mk [AV.ls xs4,iv n3,AV.ls xs5,bv b5] true false),(4,ABlk.mk (List.drop 0 (List.take (0+n4*3) c4)++[bv b,sv s,sv s1]) true true),(3,ABlk.mk [bv b,sv s,sv s1] true true),(2,ABlk.mk [bv b,sv s,sv s1] true false)] 5 none) [1,0] r3 o3)
 (askK D (Key.fn 93) [AV.ptr 0 0,sv (bstr [43])] [ABlk.mk [AV.ls xs4,iv n3,AV.ls xs5,bv b5] true false] fun r3 o3=>
 unBool r3 fun b6=>
 unOut o3 fun c5 l20=>
 unSet true false c5 fun cs5=>
 cLs cs5 fun xs6 l21=>
 cInt IntKind.i64 l21 fun n5 l22=>
 cLs l22 fun xs7 l23=>
 cBool l23 fun b7 l24=>
 unNil l24<|
 unEnd l20<|
 br b6
 (askK D (Key.lp 49 0) [AV.ptr 0 0,AV.sl 1 0 (n4+1) 3,bv true] [ABlk.mk [AV.ls xs6,iv n5,AV.ls xs7,bv b7] true false,ABlk.mk (List.drop 0 (List.take (0+n4*3) c4)++[bv b,sv s,sv s1]) true true] fun r4 o4=>
 tailK 2 [0,4] (AH.mk [(0,ABlk.mk [AV.ls xs6,iv n5,AV.ls xs7,bv b7] true false),(4,ABlk.mk (List.drop 0 (List.take (0+n4*3) c4)++[bv b,sv s,sv s1]) true true),(3,ABlk.mk [bv b,sv s,sv s1] true true),(2,ABlk.mk [bv b,sv s,sv s1] true false)] 5 none) [1,0] r4 o4)
 (br ((0+(n4+1)*3).ble (List.drop 0 (List.take (0+n4*3) c4)++[bv b,sv s,sv s1]).length) (some ((AV.tup [bv true,AV.ptr 0 0,AV.ls (chunk (n4+1) 3 (List.take ((n4+1)*3) (List.drop 0 (List.drop 0 (List.take (0+n4*3) c4)++[bv b,sv s,sv s1])))),iv 0],[BO.set (ABlk.mk [AV.ls xs6,iv n5,AV.ls xs7,bv b7] true false),BO.del]))) none)))
 (askK D (Key.fn 93) [AV.ptr 0 0,sv (bstr [45])] [ABlk.mk [AV.ls xs2,iv n2,AV.ls xs3,bv b3] true false] fun r2 o2=>
 unBool r2 fun b4=>
 unOut o2 fun c3 l15=>
 unSet true false c3 fun cs4=>
 cLs cs4 fun xs4 l16=>
 cInt IntKind.i64 l16 fun n3 l17=>
 cLs l17 fun xs5 l18=>
 cBool l18 fun b5 l19=>
 unNil l19<|
 unEnd l15<|
 br b4
 (askK D (Key.lp 49 0) [AV.ptr 0 0,AV.sl 1 0 (n4+1) 3,bv false] [ABlk.mk [AV.ls xs4,iv n3,AV.ls xs5,bv b5] true false,ABlk.mk (List.drop 0 (List.take (0+n4*3) c4)++[bv b,sv s,sv s1]) true true] fun r3 o3=>
 tailK 2 [0,4] (AH.mk [(0,ABlk.mk [AV.ls xs4,iv n3,AV.ls xs5,bv b5] true false),(4,ABlk.mk (List.drop 0 (List.take (0+n4*3) c4)++[bv b,sv s,sv s1]) true true),(3,ABlk.mk [bv b,sv s,sv s1] true true),(2,ABlk.mk [bv b,sv s,sv s1] true false)] 5 none) [1,0] r3 o3)
 (askK D (Key.fn 93) [AV.ptr 0 0,sv (bstr [43])] [ABlk.mk [AV.ls xs4,iv n3,AV.ls xs5,bv b5] true false] fun r3 o3=>
 unBool r3 fun b6=>
 unOut o3 fun c5 l20=>
 unSet true false c5 fun cs5=>
 cLs cs5 fun xs6 l21=>
 cInt IntKind.i64 l21 fun n5 l22=>
 cLs l22 fun xs7 l23=>
 cBool l23 fun b7 l24=>
 unNil l24<|
 unEnd l20<|
 br b6
 (askK D (Key.lp 49 0) [AV.ptr 0 0,AV.sl 1 0 (n4+1) 3,bv false] [ABlk.mk [AV.ls xs6,iv n5,AV.ls xs7,bv b7] true false,ABlk.mk (List.drop 0 (List.take (0+n4*3) c4)++[bv b,sv s,sv s1]) true true] fun r4 o4=>
 tailK 2 [0,4] (AH.mk [(0,ABlk.mk [AV.ls xs6,iv n5,AV.ls xs7,bv b7] true false),(4,ABlk.mk (List.drop 0 (List.take (0+n4*3) c4)++[bv b,sv s,sv s1]) true true),(3,ABlk.mk [bv b,sv s,sv s1] true true),(2,ABlk.mk [bv b,sv s,sv s1] true false)] 5 none) [1,0] r4 o4)
 (br ((0+(n4+1)*3).ble (List.drop 0 (List.take (0+n4*3) c4)++[bv b,sv s,sv s1]).length) (some ((AV.tup [bv true,AV.ptr 0 0,AV.ls (chunk (n4+1) 3 (List.take ((n4+1)*3) (List.drop 0 (List.drop 0 (List.take (0+n4*3) c4)++[bv b,sv s,sv s1])))),iv 0],[BO.set (ABlk.mk [AV.ls xs6,iv n5,AV.ls xs7,bv b7] true false),BO.del]))) none)))) none) none)
 (some ((AV.tup [bv true,AV.ptr 0 0,AV.ls [],iv n],[BO.set (ABlk.mk [AV.ls xs,iv n1,AV.ls xs1,bv b1] true false),BO.del])))):=by kernel_rfl

theorem e90(A:Ar)(D:Orc):fnK A D ownC hn90 .n 90 mf90 [] [] =
 some ((AV.ls [[sv (bstr [61])],[sv (bstr [33,61])],[sv (bstr [60])],[sv (bstr [60,61])],[sv (bstr [62])],[sv (bstr [62,61])]],[])):=by kernel_rfl

theorem e88(A:Ar)(D:Orc)(x0:List (List AV))(x1:ByteArray):fnK A D ownC hn88 .n 88 mf88 [AV.ls x0,sv x1] [] =
 askK D (Key.lp 88 0) [AV.ls x0,sv x1,iv ↑(lenR x0),iv 0] [] fun r o=>
 unTup r fun cs=>
 unCons cs fun c l=>
 br (axIs 0 c)
 (cInt IntKind.i64 l fun n l1=>
 unNil l1<|
 unEnd o<|
 some ((iv n,[])))
 (br (axIs 1 c)
 (unNil l<|
 unEnd o<|
 some ((iv (-1),[])))
 (none)):=by kernel_rfl

theorem e88_0(A:Ar)(D:Orc)(t0:List (List AV))(t1:ByteArray)(t7:Int)(t8:Int):lpK A D ownC hn88 .n 88 0 (lpAt mf88 0).fst (lpAt mf88 0).snd [AV.ls t0,sv t1,iv t7,iv t8] [] =
 br (A.lt t8 t7)
 (unI t8 fun i=>
 nthK t0 i fun cs=>
 cStr cs fun s l=>
 unNil l<|
 br (A.seq t1 s)
 (some ((AV.tup [bv true,iv t8],[])))
 (askK D (Key.lp 88 0) [AV.ls t0,sv t1,iv t7,iv (A.add IntKind.i64 t8 1)] [] fun r o=>
 tailK 0 [] (AH.mk [] 0 none) [] r o))
 (some ((AV.tup [iv 0],[]))):=by kernel_rfl

theorem e219(A:Ar)(D:Orc)(x0:List (List AV))(x1:ByteArray):fnK A D ownC hn219 .n 219 mf219 [AV.ls x0,sv x1] [] =
 askK D (Key.fn 88) [AV.ls x0,sv x1] [] fun r o=>
 unInt IntKind.i64 r fun n=>
 unEnd o<|
 br (A.le 0 n)
 (some ((bv true,[])))
 (some ((bv false,[]))):=by kernel_rfl
end Go.Proofs.YtlmhajfbpplpoaaGreat
namespace Go.Proofs.YtlmhajfbpplpoaaGreat
open Go.RowKit

section
variable {D:Orc}
theorem nth_last{α:Type}(l:List α)(h:l≠[])(d:α):l[l.length-1]? = some (l.getLastD d):=by
 rw[←List.getLast?_eq_getElem?,List.getLast?_eq_some_getLast h,List.getLastD_eq_getLast?,List.getLast?_eq_some_getLast h]
 rfl
theorem at_ok(K:Knows ownC tabEa D)(ts:List Tk)(vars:List ByteArray)(kn:Bool)(i:Nat)(hts:ts.length<4611686018427387904)(hi:i<4611686018427387904):D.ask (.fn 92) [.ptr 0 0] [cuB ts vars kn i]=some (.agg (eTk (nx ts i)),[.set (cuB ts vars kn i)]):=by
 refine K.fn' hn92 _ rfl ((e92 ..).trans ?_)
 simp only[r_eq,lenR_map,br_if]
 by_cases h0:ts=[]
 .subst h0
  rw[if_pos (by simp)]
  rfl
 .have hl:0<ts.length:=List.length_pos_iff.2 h0
  rw[if_neg (by simp[h0])]
  have e1:realA.sub .i64 (ts.length:Int) 1=((ts.length-1:Nat):Int):=by rw[r_sub (by omega) (by omega)];omega
  obtain⟨k,e2,e3⟩:∃ k:Nat,realA.min (realA.max (i:Int) 0) (realA.sub .i64 (ts.length:Int) 1)=(k:Int)/\ts[k]? = some (nx ts i):=by
   rw[e1,r_max,r_min]
   unfold nx
   by_cases h:i<ts.length
   .exact⟨i,by omega,by rw[List.getElem?_eq_getElem h]⟩
   .exact⟨ts.length-1,by omega,by rw[List.getElem?_eq_none (show ts.length<=i by omega),nth_last ts h0 ⟨5,[],0,0⟩]⟩
  rw[e2,unI_n]
  rw[nthK_some e3]
  simp only[eTk,ND]
  rfl
theorem is_ok(K:Knows ownC tabEa D)(ts:List Tk)(vars:List ByteArray)(kn:Bool)(i:Nat)(hts:ts.length<4611686018427387904)(hi:i<4611686018427387904)(s:List UInt8):D.ask (.fn 96) [.ptr 0 0,sv (bstr s)] [cuB ts vars kn i]=some (bv (isT ts i s),[.set (cuB ts vars kn i)]):=by
 refine K.fn' hn96 _ rfl ((e96 ..).trans ?_)
 refine(askK_of (at_ok K ts vars kn i hts hi) _).trans ?_
 unfold isT
 simp only[eTk,cuB,ND,ci0,ci1,ci2,ci3,ci4,ci5,ci6,r_lt,r_le,r_eq,r_seq,r_slen,r_cat,r_beq,br_if,bstr_inj]
 by_cases h1:(nx ts i).text=s<;>by_cases h2:(nx ts i).kind=1<;>by_cases h3:(nx ts i).kind=2<;>by_cases h4:(nx ts i).kind=4<;>simp[h1,h2,h3,h4]
theorem take_ok(K:Knows ownC tabEa D)(ts:List Tk)(vars:List ByteArray)(kn:Bool)(i:Nat)(hts:ts.length<4611686018427387904)(hi:i<4611686018427387904)(s:List UInt8):D.ask (.fn 93) [.ptr 0 0,sv (bstr s)] [cuB ts vars kn i]=some (bv (isT ts i s),[.set (cuB ts vars kn (if isT ts i s then i+1 else i))]):=by
 refine K.fn' hn93 _ rfl ((e93 ..).trans ?_)
 refine(askK_of (is_ok K ts vars kn i hts hi s) _).trans ?_
 simp only[cuB,ND,add1 hi]
 cases isT ts i s<;>rfl
theorem want_ok(K:Knows ownC tabEa D)(ts:List Tk)(vars:List ByteArray)(kn:Bool)(i:Nat)(hts:ts.length<4611686018427387904)(hi:i<4611686018427387904)(s:List UInt8):D.ask (.fn 248) [.ptr 0 0,sv (bstr s)] [cuB ts vars kn i]=some (iv (if isT ts i s then 0 else 101),[.set (cuB ts vars kn (if isT ts i s then i+1 else i))]):=by
 refine K.fn' hn248 _ rfl ((e248 ..).trans ?_)
 refine(askK_of (take_ok K ts vars kn i hts hi s) _).trans ?_
 simp only[cuB,ND]
 cases isT ts i s<;>rfl
structure NameF (D:Orc):Prop where
 name:∀ s:List UInt8,s.length<4611686018427387904->D.ask (.fn 109) [sv (bstr s)] []=some (bv (nameB s),[])
def ShortT(ts:List Tk):Prop:=∀ i,(nx ts i).text.length<4611686018427387904
theorem name_ok(K:Knows ownC tabEa D)(L:NameF D)(ts:List Tk)(vars:List ByteArray)(kn:Bool)(i:Nat)(hts:ts.length<4611686018427387904)(hs:ShortT ts)(hi:i<4611686018427387904):D.ask (.fn 162) [.ptr 0 0] [cuB ts vars kn i]=some (bv (isN ts i),[.set (cuB ts vars kn i)]):=by
 refine K.fn' hn162 _ rfl ((e162 ..).trans ?_)
 refine(askK_of (at_ok K ts vars kn i hts hi) _).trans ?_
 unfold isN
 simp only[eTk,cuB,ND,ci0,ci1,ci2,ci3,ci4,ci5,ci6,r_lt,r_le,r_eq,r_seq,r_slen,r_cat,r_beq]
 by_cases h:(nx ts i).kind=1
 .simp only[h,decide_true,ND]
  refine(askK_of (L.name _ (hs i)) _).trans ?_
  simp only[ND]
  cases nameB (nx ts i).text<;>rfl
 .simp only[h,decide_false,ND]
  rfl
theorem begins_ok(K:Knows ownC tabEa D)(L:NameF D)(ts:List Tk)(vars:List ByteArray)(kn:Bool)(i:Nat)(hts:ts.length<4611686018427387904)(hs:ShortT ts)(hi:i<4611686018427387904):D.ask (.fn 94) [.ptr 0 0] [cuB ts vars kn i]=some (bv (begP ts i),[.set (cuB ts vars kn i)]):=by
 refine K.fn' hn94 _ rfl ((e94 ..).trans ?_)
 refine(askK_of (at_ok K ts vars kn i hts hi) _).trans ?_
 unfold begP
 simp only[eTk,cuB,ND,ci0,ci1,ci2,ci3,ci4,ci5,ci6,r_lt,r_le,r_eq,r_seq,r_slen,r_cat,r_beq]
 by_cases h:(nx ts i).kind=3
 .simp only[h,decide_true,ND]
  rfl
 .simp only[h,decide_false,ND]
  refine(askK_of (name_ok K L ts vars kn i hts hs hi) _).trans ?_
  simp only[cuB,ND]
  cases isN ts i<;>rfl
def placeI:Option Nat->Int
 |some j=>j
 |none=>-1
def placeR(i:Nat):Option Nat->AV
 |some j=>.tup [bv true,iv ((i+j:Nat):Int)]
 |none=>.tup [iv 0]
theorem index_lp(K:Knows ownC tabEa D)(xs:List ByteArray)(hx:xs.length<4611686018427387904)(s:ByteArray):∀(k i:Nat),xs.length-i=k->D.ask (.lp 88 0) [.ls (xs.map eS),sv s,iv (xs.length:Int),iv (i:Int)] []=some (placeR i ((xs.drop i).findIdx? (s = ·)),[]):=by
 intro k
 induction k with
 |zero=>
  intro i hi
  refine K.lp' hn88 _ rfl (by kernel_rfl) ((e88_0 ..).trans ?_)
  have:xs.drop i=[]:=List.drop_eq_nil_of_le (by omega)
  simp only[r_lt,this,br_if]
  rw[if_neg (by simp;omega)]
  rfl
 |succ k ih=>
  intro i hi
  have hlt:i<xs.length:=by omega
  refine K.lp' hn88 _ rfl (by kernel_rfl) ((e88_0 ..).trans ?_)
  have e1:xs.drop i=xs[i]::xs.drop (i+1):=List.drop_eq_getElem_cons hlt
  have ih':=ih (i+1) (by omega)
  have e2:realA.add .i64 (i:Int) 1=((i+1:Nat):Int):=add1 (by omega)
  simp only[r_lt,unI_n,nthK_map,List.getElem?_eq_getElem hlt,eS,cStr_sv,unNil_nil,r_seq,e2,br_if]
  rw[if_pos (by simpa using hlt),e1,List.findIdx?_cons]
  by_cases h:s=xs[i]
  .simp[←h,placeR]
  .rw[if_neg (by simpa using h),if_neg (by simpa using h)]
   refine(askK_of ih' _).trans ?_
   cases (xs.drop (i+1)).findIdx? (s = ·) with
   |none=>rfl
   |some j=>
    simp only[placeR,Option.map_some,show i+(j+1)=i+1+j by omega]
    rfl
theorem index_ok(K:Knows ownC tabEa D)(xs:List ByteArray)(hx:xs.length<4611686018427387904)(s:ByteArray):D.ask (.fn 88) [.ls (xs.map eS),sv s] []=some (iv (placeI (xs.findIdx? (s = ·))),[]):=by
 refine K.fn' hn88 _ rfl ((e88 ..).trans ?_)
 rw[lenR_map]
 refine(askK_of (index_lp K xs hx s _ 0 rfl) _).trans ?_
 rw[List.drop_zero]
 cases xs.findIdx? (s = ·) with
 |none=>rfl
 |some j=>simp only[placeR,ND,Nat.zero_add];rfl
theorem placeI_mem(xs:List ByteArray)(s:ByteArray):decide (0<=placeI (xs.findIdx? (s = ·)))=decide (s∈xs):=by
 cases e:xs.findIdx? (s = ·) with
 |none=>
  have:=List.findIdx?_eq_none_iff.1 e
  have h:s∉xs:=fun h=>by simpa using this s h
  simp[placeI,h]
 |some j=>
  obtain⟨h,h2,_⟩:=List.findIdx?_eq_some_iff_getElem.1 e
  have:s∈xs:=by
   have h2:s=xs[j]:=by simpa using h2
   rw[h2];exact List.getElem_mem h
  simp[placeI,this]
theorem contains_ok(K:Knows ownC tabEa D)(xs:List ByteArray)(hx:xs.length<4611686018427387904)(s:ByteArray):D.ask (.fn 219) [.ls (xs.map eS),sv s] []=some (bv (decide (s∈xs)),[]):=by
 refine K.fn' hn219 _ rfl ((e219 ..).trans ?_)
 refine(askK_of (index_ok K xs hx s) _).trans ?_
 simp only[ND,r_le,placeI_mem]
 cases decide (s∈xs)<;>rfl
theorem variable_ok(K:Knows ownC tabEa D)(L:NameF D)(ts:List Tk)(vars:List ByteArray)(kn:Bool)(i:Nat)(hts:ts.length<4611686018427387904)(hv:vars.length<4611686018427387904)(hs:ShortT ts)(hi:i<4611686018427387904):D.ask (.fn 163) [.ptr 0 0] [cuB ts vars kn i]=some (.tup [sv (varP ts vars kn i).2.2,iv ((varP ts vars kn i).2.1:Int)],[.set (cuB ts vars kn (varP ts vars kn i).1)]):=by
 refine K.fn' hn163 _ rfl ((e163 ..).trans ?_)
 refine(askK_of (at_ok K ts vars kn i hts hi) _).trans ?_
 simp only[eTk,cuB,ND]
 refine(askK_of (name_ok K L ts vars kn i hts hs hi) _).trans ?_
 unfold varP
 simp only[cuB,ND,add1 hi]
 cases isN ts i with
 |false=>rfl
 |true=>
  cases kn with
  |false=>rfl
  |true=>
   simp only[ND,Bool.true_eq_false,if_false,true_and]
   refine(askK_of (contains_ok K vars hv _) _).trans ?_
   simp only[ND]
   by_cases h:bstr (nx ts i).text∈vars<;>simp only[h,decide_true,decide_false,ND,not_true,not_false_eq_true,if_true,if_false]<;>rfl
theorem varP_le(ts:List Tk)(vars:List ByteArray)(kn:Bool)(i:Nat):i<=(varP ts vars kn i).1/\(varP ts vars kn i).1<=i+1:=by
 unfold varP
 split
 .simp
 .split<;>simp
theorem monoP_le(ts:List Tk)(vars:List ByteArray)(kn:Bool)(i:Nat)(neg:Bool):i<=(monoP ts vars kn i neg).1/\(monoP ts vars kn i neg).1<=i+3:=by
 unfold monoP
 have h1:=varP_le ts vars kn i
 have h2:=varP_le ts vars kn (i+2)
 split
 .split
  .simp only;omega
  .simp
 .simp only;omega
theorem mono_ok(K:Knows ownC tabEa D)(L:NameF D)(ts:List Tk)(vars:List ByteArray)(kn:Bool)(i:Nat)(hts:ts.length<4611686018427387904)(hv:vars.length<4611686018427387904)(hs:ShortT ts)(hi:i+3<4611686018427387904)(neg:Bool):D.ask (.fn 95) [.ptr 0 0,bv neg] [cuB ts vars kn i]=some (.tup [.agg (eMo (monoP ts vars kn i neg).2.2),iv ((monoP ts vars kn i neg).2.1:Int)],[.set (cuB ts vars kn (monoP ts vars kn i neg).1)]):=by
 refine K.fn' hn95 _ rfl ((e95 ..).trans ?_)
 refine(askK_of (at_ok K ts vars kn i hts (by omega)) _).trans ?_
 unfold monoP eMo
 simp only[eTk,cuB,ND,ci0,ci1,ci2,ci3,ci4,ci5,ci6,r_lt,r_le,r_eq,r_seq,r_slen,r_cat,r_beq]
 by_cases h:(nx ts i).kind=3
 .simp only[h,decide_true,ND,add1 (show i<4611686018427387904 by omega),if_true]
  refine(askK_of (take_ok K ts vars kn (i+1) hts (by omega) _) _).trans ?_
  simp only[cuB,ND]
  cases isT ts (i+1) [42]with
  |false=>rfl
  |true=>
   simp only[if_true,ND]
   refine(askK_of (variable_ok K L ts vars kn (i+2) hts hv hs (by omega)) _).trans ?_
   simp only[cuB,ND]
 .simp only[h,decide_false,ND,if_false]
  refine(askK_of (variable_ok K L ts vars kn i hts hv hs (by omega)) _).trans ?_
  simp only[cuB,ND]
end
end Go.Proofs.YtlmhajfbpplpoaaGreat
namespace Go.Proofs.YtlmhajfbpplpoaaGreat
open Go.RowKit
def hs121:Hints:=[⟨19,[true,true,false,false,false,true],[],[],[(0,([false,false,false,false,true],([],[]))),(1,([],([],[])))]⟩]
noncomputable def mf121:MFn:=mfD Tryz.prog entsC hs121 false false 121
def hn121:Hnt:=⟨[],[(0,[(0,([.int .i64],[])),(1,([],[]))])],[(14,[.str]),(15,[.str])]⟩
def hs103:Hints:=[]
noncomputable def mf103:MFn:=mfD Tryz.prog entsC hs103 false false 103
def hn103:Hnt:=⟨[(121,(.int .i64,[]))],[],[]⟩
def hs101:Hints:=[]
noncomputable def mf101:MFn:=mfD Tryz.prog entsC hs101 false false 101
def hn101:Hnt:=⟨[],[],[(4,[.ls]),(9,[.int .i64]),(12,[.ls]),(13,[.int .i64,.str,.int .i64,.int .i64]),(14,[.int .i64,.str,.int .i64,.int .i64]),(16,[.int .i64]),(18,[.ls]),(22,[.ls]),(24,[.ls]),(27,[.int .i64,.str,.int .i64,.int .i64]),(28,[.int .i64,.str,.int .i64,.int .i64]),(30,[.ls]),(32,[.int .i64]),(33,[.int .i64,.str,.int .i64,.int .i64]),(34,[.int .i64,.str,.int .i64,.int .i64])]⟩
def hs99:Hints:=[]
noncomputable def mf99:MFn:=mfD Tryz.prog entsC hs99 false false 99
def hn99:Hnt:=⟨[(101,(.agg [.int .i64,.str,.int .i64,.int .i64],[]))],[],[(6,[.ls,.int .i64,.ls,.bool]),(9,[.str]),(14,[.int .i64]),(18,[.int .i64]),(23,[.int .i64])]⟩
def hs100:Hints:=[]
noncomputable def mf100:MFn:=mfD Tryz.prog entsC hs100 false false 100
def hn100:Hnt:=⟨[],[],[(4,[.int .i64]),(7,[.ls,.int .i64,.ls,.bool])]⟩
def hs102:Hints:=[]
noncomputable def mf102:MFn:=mfD Tryz.prog entsC hs102 false false 102
def hn102:Hnt:=⟨[(77,(.bool,[])),(101,(.agg [.int .i64,.str,.int .i64,.int .i64],[]))],[],[(4,[.ls,.int .i64,.ls,.bool]),(7,[.int .i64]),(11,[.str])]⟩
def hs237:Hints:=[]
noncomputable def mf237:MFn:=mfD Tryz.prog entsC hs237 false false 237
def hn237:Hnt:=⟨[],[],[]⟩
def hs51:Hints:=[⟨90,[false,true,true,false,false,true,true],[(5,3)],[1,2],[(0,([false,false,true,true,true],([2,3],[1,5])))]⟩]
noncomputable def mf51:MFn:=mfD Tryz.prog entsC hs51 false false 51
def hn51:Hnt:=⟨[(99,(.bool,[])),(100,(.agg [.ls,.int .i64,.ls,.bool],[])),(101,(.agg [.int .i64,.str,.int .i64,.int .i64],[])),(102,(.bool,[])),(103,(.bool,[]))],[(0,[(0,([.ptr 1 0,.ls,.int .i64],[.del,.box [.ls,.int .i64,.ls,.bool],.del]))])],[(10,[.ls,.int .i64,.ls,.bool]),(13,[.ls,.int .i64,.ls,.bool]),(15,[.ls,.int .i64,.ls,.bool]),(18,[.int .i64]),(21,[.ls,.int .i64,.ls,.bool]),(25,[.ls,.int .i64,.ls,.bool]),(29,[.ls,.int .i64,.ls,.bool]),(33,[.int .i64]),(36,[.str]),(38,[.ls,.int .i64,.ls,.bool]),(41,[.str]),(44,[.ls,.int .i64,.ls,.bool]),(48,[.str]),(50,[.ls,.int .i64,.ls,.bool]),(52,[.ls,.int .i64,.ls,.bool]),(55,[.ls,.int .i64,.ls,.bool]),(56,[.ls,.int .i64,.ls,.bool]),(61,[.bool]),(64,[.ls]),(66,[.str]),(70,[.ls,.int .i64,.ls,.bool]),(71,[.ls,.int .i64,.ls,.bool]),(74,[.bool,.str,.str]),(77,[.ls,.int .i64,.ls,.bool]),(82,[.ls,.int .i64,.ls,.bool]),(86,[.ls,.int .i64,.ls,.bool]),(88,[.ls,.int .i64,.ls,.bool])]⟩
def hs221:Hints:=[⟨52,[false,true,true,true,false,true,false,true,true],[],[1,2,3],[(1,([false,true,true,true,false,true,false,true],([],[])))]⟩]
noncomputable def mf221:MFn:=mfD Tryz.prog entsC hs221 false false 221
def hn221:Hnt:=⟨[(51,(.tup [.agg [.ls,.int .i64,.ls,.bool],.ls,.int .i64],[])),(99,(.bool,[])),(100,(.agg [.ls,.int .i64,.ls,.bool],[])),(237,(.str,[]))],[(0,[(1,([.ptr 0 0,.ptr 1 0,.ptr 2 0,.ls,.int .i64],[.box [.ls,.int .i64,.ls,.bool],.box [.ls,.int .i64,.ls,.bool],.box [.int .i64,.ls,.ls,.int .i64,.str,.str,.ls]]))])],[(12,[.ls,.int .i64,.ls,.bool]),(19,[.ls,.int .i64,.ls,.bool]),(26,[.ls,.int .i64,.ls,.bool]),(33,[.ls,.int .i64,.ls,.bool]),(36,[.ls,.int .i64,.ls,.bool]),(44,[.ls,.int .i64,.ls,.bool]),(47,[.ls,.int .i64,.ls,.bool])]⟩
def hs166:Hints:=[]
noncomputable def mf166:MFn:=mfD Tryz.prog entsC hs166 false false 166
def hs105:Hints:=[⟨46,[false,true,true,false,true,true,false,true,true],[],[2,4,5,7],[(1,([false,false,true,false,true,true,false,true,true],([],[])))]⟩]
noncomputable def mf105:MFn:=mfD Tryz.prog entsC hs105 false false 105
def hs55:Hints:=[⟨46,[false,true,true,false,true,true,false,true,true],[],[2,4,5,7],[(1,([false,false,true,false,true,true,false,true,true],([],[])))]⟩]
noncomputable def mf55:MFn:=mfD Tryz.prog entsC hs55 false false 55
def hs52:Hints:=[]
noncomputable def mf52:MFn:=mfD Tryz.prog entsC hs52 false false 52
def hn52:Hnt:=⟨[(101,(.agg [.int .i64,.str,.int .i64,.int .i64],[]))],[],[(9,[.ls,.int .i64,.ls,.bool]),(16,[.ls,.int .i64,.ls,.bool])]⟩
noncomputable def tabRa:List (Nat × MFn):=[(121,mf121),(103,mf103),(101,mf101),(99,mf99),(100,mf100),(102,mf102),(237,mf237),(51,mf51),(221,mf221),(166,mf166),(105,mf105),(55,mf55),(52,mf52)]
theorem e121(A:Ar)(D:Orc)(x0:List (List AV))(x1:ByteArray):fnK A D ownC hn121 .n 121 mf121 [AV.ls x0,sv x1] [] =
 askK D (Key.lp 121 0) [AV.ls x0,sv x1,iv 0] [] fun r o=>
 unTup r fun cs=>
 unCons cs fun c l=>
 br (axIs 0 c)
 (cInt IntKind.i64 l fun n l1=>
 unNil l1<|
 unEnd o<|
 some ((iv n,[])))
 (br (axIs 1 c)
 (unNil l<|
 unEnd o<|
 some ((iv (-1),[])))
 (none)):=by kernel_rfl

theorem e121_0(A:Ar)(D:Orc)(t0:List (List AV))(t1:ByteArray)(t5:Int):lpK A D ownC hn121 .n 121 0 (lpAt mf121 0).fst (lpAt mf121 0).snd [AV.ls t0,sv t1,iv t5] [] =
 br (A.lt t5 ↑(lenR t0))
 (unI t5 fun i=>
 nthK t0 i fun cs=>
 cStr cs fun s l=>
 unNil l<|
 br (A.seq s t1)
 (some ((AV.tup [bv true,iv t5],[])))
 (askK D (Key.lp 121 0) [AV.ls t0,sv t1,iv (A.add IntKind.i64 t5 1)] [] fun r o=>
 tailK 0 [] (AH.mk [] 0 none) [] r o))
 (some ((AV.tup [iv 0],[]))):=by kernel_rfl

theorem e103(A:Ar)(D:Orc)(x0:List (List AV))(x1:ByteArray):fnK A D ownC hn103 .n 103 mf103 [AV.ls x0,sv x1] [] =
 askK D (Key.fn 121) [AV.ls x0,sv x1] [] fun r o=>
 unInt IntKind.i64 r fun n=>
 unEnd o<|
 br (A.le 0 n)
 (some ((bv true,[])))
 (some ((bv false,[]))):=by kernel_rfl

theorem e101(A:Ar)(D:Orc)(x0_0:List (List AV))(x0_1:Int)(x0_2:List (List AV))(x0_3:Bool):fnK A D ownC hn101 .n 101 mf101 [AV.agg [AV.ls x0_0,iv x0_1,AV.ls x0_2,bv x0_3]] [] =
 br (A.eq (↑(lenR x0_0)) 0)
 (some ((AV.agg [iv 5,sv (bstr []),iv 0,iv 0],[])))
 (br (A.lt x0_1 0)
 (nthK x0_0 0 fun cs=>
 cInt IntKind.i64 cs fun n l=>
 cStr l fun s l1=>
 cInt IntKind.i64 l1 fun n1 l2=>
 cInt IntKind.i64 l2 fun n2 l3=>
 unNil l3<|
 some ((AV.agg [iv n,sv s,iv n1,iv n2],[])))
 (br (A.le (↑(lenR x0_0)) x0_1)
 (unI (A.sub IntKind.i64 (↑(lenR x0_0)) 1) fun i=>
 nthK x0_0 i fun cs=>
 cInt IntKind.i64 cs fun n l=>
 cStr l fun s l1=>
 cInt IntKind.i64 l1 fun n1 l2=>
 cInt IntKind.i64 l2 fun n2 l3=>
 unNil l3<|
 some ((AV.agg [iv n,sv s,iv n1,iv n2],[])))
 (unI x0_1 fun i=>
 nthK x0_0 i fun cs=>
 cInt IntKind.i64 cs fun n l=>
 cStr l fun s l1=>
 cInt IntKind.i64 l1 fun n1 l2=>
 cInt IntKind.i64 l2 fun n2 l3=>
 unNil l3<|
 some ((AV.agg [iv n,sv s,iv n1,iv n2],[]))))):=by kernel_rfl

theorem e99(A:Ar)(D:Orc)(x0_0:List (List AV))(x0_1:Int)(x0_2:List (List AV))(x0_3:Bool)(x1:ByteArray):fnK A D ownC hn99 .n 99 mf99 [AV.agg [AV.ls x0_0,iv x0_1,AV.ls x0_2,bv x0_3],sv x1] [] =
 askK D (Key.fn 101) [AV.agg [AV.ls x0_0,iv x0_1,AV.ls x0_2,bv x0_3]] [] fun r o=>
 unAgg r fun cs=>
 cInt IntKind.i64 cs fun n l=>
 cStr l fun s l1=>
 cInt IntKind.i64 l1 fun _ l2=>
 cInt IntKind.i64 l2 fun _ l3=>
 unNil l3<|
 unEnd o<|
 br (A.seq s x1)
 (br (A.eq n 1)
 (some ((bv true,[])))
 (br (A.eq n 2)
 (some ((bv true,[])))
 (br (A.eq n 4)
 (some ((bv true,[])))
 (some ((bv false,[]))))))
 (some ((bv false,[]))):=by kernel_rfl

theorem e100(A:Ar)(D:Orc)(x0_0:List (List AV))(x0_1:Int)(x0_2:List (List AV))(x0_3:Bool):fnK A D ownC hn100 .n 100 mf100 [AV.agg [AV.ls x0_0,iv x0_1,AV.ls x0_2,bv x0_3]] [] =
 some ((AV.agg [AV.ls x0_0,iv (A.add IntKind.i64 x0_1 1),AV.ls x0_2,bv x0_3],[])):=by kernel_rfl

theorem e102(A:Ar)(D:Orc)(x0_0:List (List AV))(x0_1:Int)(x0_2:List (List AV))(x0_3:Bool):fnK A D ownC hn102 .n 102 mf102 [AV.agg [AV.ls x0_0,iv x0_1,AV.ls x0_2,bv x0_3]] [] =
 askK D (Key.fn 101) [AV.agg [AV.ls x0_0,iv x0_1,AV.ls x0_2,bv x0_3]] [] fun r o=>
 unAgg r fun cs=>
 cInt IntKind.i64 cs fun n l=>
 cStr l fun s l1=>
 cInt IntKind.i64 l1 fun _ l2=>
 cInt IntKind.i64 l2 fun _ l3=>
 unNil l3<|
 unEnd o<|
 br (A.eq n 1)
 (askK D (Key.fn 77) [sv s] [] fun r1 o1=>
 unBool r1 fun b=>
 unEnd o1<|
 br b
 (some ((bv true,[])))
 (some ((bv false,[]))))
 (some ((bv false,[]))):=by kernel_rfl

theorem e237(A:Ar)(D:Orc)(x0:Int):fnK A D ownC hn237 .n 237 mf237 [iv x0] [] =
 br (A.eq x0 0)
 (some ((sv (bstr [61]),[])))
 (br (A.eq x0 1)
 (some ((sv (bstr [33,61]),[])))
 (br (A.eq x0 2)
 (some ((sv (bstr [60]),[])))
 (br (A.eq x0 3)
 (some ((sv (bstr [60,61]),[])))
 (br (A.eq x0 4)
 (some ((sv (bstr [62]),[])))
 (some ((sv (bstr [62,61]),[]))))))):=by kernel_rfl

theorem e51(A:Ar)(D:Orc)(x0_0:List (List AV))(x0_1:Int)(x0_2:List (List AV))(x0_3:Bool):fnK A D ownC hn51 .n 51 mf51 [AV.agg [AV.ls x0_0,iv x0_1,AV.ls x0_2,bv x0_3]] [] =
 askK D (Key.fn 99) [AV.agg [AV.ls x0_0,iv x0_1,AV.ls x0_2,bv x0_3],sv (bstr [45])] [] fun r o=>
 unBool r fun b=>
 unEnd o<|
 br b
 (askK D (Key.fn 100) [AV.agg [AV.ls x0_0,iv x0_1,AV.ls x0_2,bv x0_3]] [] fun r1 o1=>
 unAgg r1 fun cs=>
 cLs cs fun xs l=>
 cInt IntKind.i64 l fun n l1=>
 cLs l1 fun xs1 l2=>
 cBool l2 fun b1 l3=>
 unNil l3<|
 unEnd o1<|
 askK D (Key.lp 51 0) [AV.ptr 0 0,AV.ptr 1 0,AV.sl 2 0 0 3,bv true] [ABlk.mk [AV.ls xs,iv n,AV.ls xs1,bv b1] true false,ABlk.mk [AV.ls [],iv 0,AV.ls [],bv false] true false,ABlk.mk [] true true] fun r2 o2=>
 unTup r2 fun cs1=>
 unCons cs1 fun c l4=>
 br (axIs 0 c)
 (unCons l4 fun c1 l5=>
 unPtr 1 0 c1<|
 cLs l5 fun xs2 l6=>
 cInt IntKind.i64 l6 fun n1 l7=>
 unNil l7<|
 unOut o2 fun c2 l8=>
 unDel c2<|
 unOut l8 fun c3 l9=>
 unSet true false c3 fun cs2=>
 cLs cs2 fun xs3 l10=>
 cInt IntKind.i64 l10 fun n2 l11=>
 cLs l11 fun xs4 l12=>
 cBool l12 fun b2 l13=>
 unNil l13<|
 unOut l9 fun c4 l14=>
 unDel c4<|
 unEnd l14<|
 some ((AV.tup [AV.agg [AV.ls xs3,iv n2,AV.ls xs4,bv b2],AV.ls xs2,iv n1],[])))
 (none))
 (askK D (Key.lp 51 0) [AV.ptr 0 0,AV.ptr 1 0,AV.sl 2 0 0 3,bv false] [ABlk.mk [AV.ls x0_0,iv x0_1,AV.ls x0_2,bv x0_3] true false,ABlk.mk [AV.ls [],iv 0,AV.ls [],bv false] true false,ABlk.mk [] true true] fun r1 o1=>
 unTup r1 fun cs=>
 unCons cs fun c l=>
 br (axIs 0 c)
 (unCons l fun c1 l1=>
 unPtr 1 0 c1<|
 cLs l1 fun xs l2=>
 cInt IntKind.i64 l2 fun n l3=>
 unNil l3<|
 unOut o1 fun c2 l4=>
 unDel c2<|
 unOut l4 fun c3 l5=>
 unSet true false c3 fun cs1=>
 cLs cs1 fun xs1 l6=>
 cInt IntKind.i64 l6 fun n1 l7=>
 cLs l7 fun xs2 l8=>
 cBool l8 fun b1 l9=>
 unNil l9<|
 unOut l5 fun c4 l10=>
 unDel c4<|
 unEnd l10<|
 some ((AV.tup [AV.agg [AV.ls xs1,iv n1,AV.ls xs2,bv b1],AV.ls xs,iv n],[])))
 (none)):=by kernel_rfl

theorem e51_0(A:Ar)(D:Orc)(b1_0:List (List AV))(b1_1:Int)(b1_2:List (List AV))(b1_3:Bool)(b2_0:List (List AV))(b2_1:Int)(b2_2:List (List AV))(b2_3:Bool)(n5:Nat)(c5:List AV)(t6:Bool):lpK A D ownC hn51 (.b (.b .n (.b .n (.b .n (.b .n (.b .n (.b .n (.b .n (.b .n (.b .n (.t (.b (.b (.b .n (.b .n (.b (.b (.b (.t (.b .n (.b .n (.b (.b .n (.b .n (.b (.t (.t (.t (.t (.b (.t (.b .n (.t .n))) (.t (.b (.t .n) .n))))))) (.f (.f (.f (.f (.f (.f .n))))))))) .n)))) .n) .n) .n))) (.b (.b (.b (.b .n (.b (.b (.f (.b (.b (.b (.b .n (.b .n (.b (.t (.t (.t (.t (.b (.t (.b .n (.t .n))) (.t (.b (.t .n) .n))))))) (.f (.f (.f (.f (.f (.f .n))))))))) .n) .n) .n)) .n) .n)) .n) .n) .n)) .n))))))))))) (.b (.b (.b (.b (.b (.b .n (.b (.b .n (.b .n (.b .n (.b .n (.f (.b .n (.b (.b .n (.b .n (.b (.b (.b (.t (.b .n (.b .n (.b (.b .n (.b .n (.b (.t (.t (.t (.t (.b (.t (.b .n (.t .n))) (.t (.b (.t .n) .n))))))) (.f (.f (.f (.f (.f (.f .n))))))))) .n)))) .n) .n) .n))) (.b (.b (.b (.b .n (.b (.b (.f (.b (.b (.b (.b .n (.b .n (.b (.t (.t (.t (.t (.b (.t (.b .n (.t .n))) (.t (.b (.t .n) .n))))))) (.f (.f (.f (.f (.f (.f .n))))))))) .n) .n) .n)) .n) .n)) .n) .n) .n)))))))) .n)) .n) .n) .n) .n) .n)) 51 0 (lpAt mf51 0).fst (lpAt mf51 0).snd [AV.ptr 0 0,AV.ptr 1 0,AV.sl 2 0 n5 3,bv t6] [{ cells:=[AV.ls b1_0,iv b1_1,AV.ls b1_2,bv b1_3],st:=true,ex:=false },{ cells:=[AV.ls b2_0,iv b2_1,AV.ls b2_2,bv b2_3],st:=true,ex:=false },{ cells:=c5,st:=true,ex:=true }] =
 askK D (Key.fn 101) [AV.agg [AV.ls b1_0,iv b1_1,AV.ls b1_2,bv b1_3]] [] fun r o=>
 unAgg r fun cs=>
 cInt IntKind.i64 cs fun n l=>
 cStr l fun s l1=>
 cInt IntKind.i64 l1 fun n1 l2=>
 cInt IntKind.i64 l2 fun n2 l3=>
 unNil l3<|
 unEnd o<|
 br (A.eq n 3)
 (br (A.eq (↑n5) 64)
 (some ((AV.tup [bv true,AV.ptr 1 0,AV.ls [],iv 3],[BO.del,BO.set (ABlk.mk [AV.ls b1_0,iv b1_1,AV.ls b1_2,bv b1_3] true false),BO.del])))
 (br (A.eq n 3) (askK D (Key.fn 100) [AV.agg [AV.ls b1_0,iv b1_1,AV.ls b1_2,bv b1_3]] [] fun r1 o1=>
 unAgg r1 fun cs1=>
 cLs cs1 fun xs l4=>
 cInt IntKind.i64 l4 fun n3 l5=>
 cLs l5 fun xs1 l6=>
 cBool l6 fun b l7=>
 unNil l7<|
 unEnd o1<|
 br (A.seq s (bstr []))
 (br (A.seq s (bstr [])) (askK D (Key.fn 102) [AV.agg [AV.ls xs,iv n3,AV.ls xs1,bv b]] [] fun r2 o2=>
 unBool r2 fun b1=>
 unEnd o2<|
 br b1
 (askK D (Key.fn 101) [AV.agg [AV.ls xs,iv n3,AV.ls xs1,bv b]] [] fun r3 o3=>
 unAgg r3 fun cs2=>
 cInt IntKind.i64 cs2 fun _ l8=>
 cStr l8 fun s1 l9=>
 cInt IntKind.i64 l9 fun _ l10=>
 cInt IntKind.i64 l10 fun _ l11=>
 unNil l11<|
 unEnd o3<|
 br b
 (br b (br b (br b (br b (askK D (Key.fn 103) [AV.ls xs1,sv s1] [] fun r4 o4=>
 unBool r4 fun b2=>
 unEnd o4<|
 br b2
 (br b (br b (askK D (Key.fn 100) [AV.agg [AV.ls xs,iv n3,AV.ls xs1,bv b]] [] fun r5 o5=>
 unAgg r5 fun cs3=>
 cLs cs3 fun xs2 l12=>
 cInt IntKind.i64 l12 fun n8 l13=>
 cLs l13 fun xs3 l14=>
 cBool l14 fun b3 l15=>
 unNil l15<|
 unEnd o5<|
 br (fitsB (n5+1) 40) (br ((0+n5*3).ble c5.length) (askK D (Key.fn 99) [AV.agg [AV.ls xs2,iv n8,AV.ls xs3,bv b3],sv (bstr [45])] [] fun r6 o6=>
 unBool r6 fun b4=>
 unEnd o6<|
 br b4
 (askK D (Key.fn 100) [AV.agg [AV.ls xs2,iv n8,AV.ls xs3,bv b3]] [] fun r7 o7=>
 unAgg r7 fun cs4=>
 cLs cs4 fun xs4 l16=>
 cInt IntKind.i64 l16 fun n9 l17=>
 cLs l17 fun xs5 l18=>
 cBool l18 fun b5 l19=>
 unNil l19<|
 unEnd o7<|
 askK D (Key.lp 51 0) [AV.ptr 0 0,AV.ptr 1 0,AV.sl 2 0 (n5+1) 3,bv true] [ABlk.mk [AV.ls xs4,iv n9,AV.ls xs5,bv b5] true false,ABlk.mk [AV.ls b2_0,iv b2_1,AV.ls b2_2,bv b2_3] true false,ABlk.mk (List.drop 0 (List.take (0+n5*3) c5)++[bv t6,sv s,sv s1]) true true] fun r8 o8=>
 tailK 3 [0,1,6] (AH.mk [(1,ABlk.mk [AV.ls b2_0,iv b2_1,AV.ls b2_2,bv b2_3] true false),(0,ABlk.mk [AV.ls xs4,iv n9,AV.ls xs5,bv b5] true false),(6,ABlk.mk (List.drop 0 (List.take (0+n5*3) c5)++[bv t6,sv s,sv s1]) true true),(5,ABlk.mk [bv t6,sv s,sv s1] true true),(4,ABlk.mk [bv t6,sv s,sv s1] true false),(3,ABlk.mk [iv n,sv s,iv n1,iv n2] true false)] 7 none) [2,0,1] r8 o8)
 (askK D (Key.fn 99) [AV.agg [AV.ls xs2,iv n8,AV.ls xs3,bv b3],sv (bstr [43])] [] fun r7 o7=>
 unBool r7 fun b5=>
 unEnd o7<|
 br b5
 (askK D (Key.fn 100) [AV.agg [AV.ls xs2,iv n8,AV.ls xs3,bv b3]] [] fun r8 o8=>
 unAgg r8 fun cs4=>
 cLs cs4 fun xs4 l16=>
 cInt IntKind.i64 l16 fun n9 l17=>
 cLs l17 fun xs5 l18=>
 cBool l18 fun b6 l19=>
 unNil l19<|
 unEnd o8<|
 askK D (Key.lp 51 0) [AV.ptr 0 0,AV.ptr 1 0,AV.sl 2 0 (n5+1) 3,bv false] [ABlk.mk [AV.ls xs4,iv n9,AV.ls xs5,bv b6] true false,ABlk.mk [AV.ls b2_0,iv b2_1,AV.ls b2_2,bv b2_3] true false,ABlk.mk (List.drop 0 (List.take (0+n5*3) c5)++[bv t6,sv s,sv s1]) true true] fun r9 o9=>
 tailK 3 [0,1,6] (AH.mk [(1,ABlk.mk [AV.ls b2_0,iv b2_1,AV.ls b2_2,bv b2_3] true false),(0,ABlk.mk [AV.ls xs4,iv n9,AV.ls xs5,bv b6] true false),(6,ABlk.mk (List.drop 0 (List.take (0+n5*3) c5)++[bv t6,sv s,sv s1]) true true),(5,ABlk.mk [bv t6,sv s,sv s1] true true),(4,ABlk.mk [bv t6,sv s,sv s1] true false),(3,ABlk.mk [iv n,sv s,iv n1,iv n2] true false)] 7 none) [2,0,1] r9 o9)
 (br ((0+(n5+1)*3).ble (List.drop 0 (List.take (0+n5*3) c5)++[bv t6,sv s,sv s1]).length) (some ((AV.tup [bv true,AV.ptr 1 0,AV.ls (chunk (n5+1) 3 (List.take ((n5+1)*3) (List.drop 0 (List.drop 0 (List.take (0+n5*3) c5)++[bv t6,sv s,sv s1])))),iv 0],[BO.del,BO.set (ABlk.mk [AV.ls xs2,iv n8,AV.ls xs3,bv b3] true false),BO.del]))) none))) none) none) none) none)
 (br b (br b (some ((AV.tup [bv true,AV.ptr 1 0,AV.ls [],iv 110],[BO.del,BO.set (ABlk.mk [AV.ls xs,iv n3,AV.ls xs1,bv b] true false),BO.del]))) none) none)) none) none) none) none)
 (br b none (br b none (br b none (br b none (br b none (br b none (askK D (Key.fn 100) [AV.agg [AV.ls xs,iv n3,AV.ls xs1,bv b]] [] fun r4 o4=>
 unAgg r4 fun cs3=>
 cLs cs3 fun xs2 l12=>
 cInt IntKind.i64 l12 fun n8 l13=>
 cLs l13 fun xs3 l14=>
 cBool l14 fun b2 l15=>
 unNil l15<|
 unEnd o4<|
 br (fitsB (n5+1) 40) (br ((0+n5*3).ble c5.length) (askK D (Key.fn 99) [AV.agg [AV.ls xs2,iv n8,AV.ls xs3,bv b2],sv (bstr [45])] [] fun r5 o5=>
 unBool r5 fun b3=>
 unEnd o5<|
 br b3
 (askK D (Key.fn 100) [AV.agg [AV.ls xs2,iv n8,AV.ls xs3,bv b2]] [] fun r6 o6=>
 unAgg r6 fun cs4=>
 cLs cs4 fun xs4 l16=>
 cInt IntKind.i64 l16 fun n9 l17=>
 cLs l17 fun xs5 l18=>
 cBool l18 fun b4 l19=>
 unNil l19<|
 unEnd o6<|
 askK D (Key.lp 51 0) [AV.ptr 0 0,AV.ptr 1 0,AV.sl 2 0 (n5+1) 3,bv true] [ABlk.mk [AV.ls xs4,iv n9,AV.ls xs5,bv b4] true false,ABlk.mk [AV.ls b2_0,iv b2_1,AV.ls b2_2,bv b2_3] true false,ABlk.mk (List.drop 0 (List.take (0+n5*3) c5)++[bv t6,sv s,sv s1]) true true] fun r7 o7=>
 tailK 3 [0,1,6] (AH.mk [(1,ABlk.mk [AV.ls b2_0,iv b2_1,AV.ls b2_2,bv b2_3] true false),(0,ABlk.mk [AV.ls xs4,iv n9,AV.ls xs5,bv b4] true false),(6,ABlk.mk (List.drop 0 (List.take (0+n5*3) c5)++[bv t6,sv s,sv s1]) true true),(5,ABlk.mk [bv t6,sv s,sv s1] true true),(4,ABlk.mk [bv t6,sv s,sv s1] true false),(3,ABlk.mk [iv n,sv s,iv n1,iv n2] true false)] 7 none) [2,0,1] r7 o7)
 (askK D (Key.fn 99) [AV.agg [AV.ls xs2,iv n8,AV.ls xs3,bv b2],sv (bstr [43])] [] fun r6 o6=>
 unBool r6 fun b4=>
 unEnd o6<|
 br b4
 (askK D (Key.fn 100) [AV.agg [AV.ls xs2,iv n8,AV.ls xs3,bv b2]] [] fun r7 o7=>
 unAgg r7 fun cs4=>
 cLs cs4 fun xs4 l16=>
 cInt IntKind.i64 l16 fun n9 l17=>
 cLs l17 fun xs5 l18=>
 cBool l18 fun b5 l19=>
 unNil l19<|
 unEnd o7<|
 askK D (Key.lp 51 0) [AV.ptr 0 0,AV.ptr 1 0,AV.sl 2 0 (n5+1) 3,bv false] [ABlk.mk [AV.ls xs4,iv n9,AV.ls xs5,bv b5] true false,ABlk.mk [AV.ls b2_0,iv b2_1,AV.ls b2_2,bv b2_3] true false,ABlk.mk (List.drop 0 (List.take (0+n5*3) c5)++[bv t6,sv s,sv s1]) true true] fun r8 o8=>
 tailK 3 [0,1,6] (AH.mk [(1,ABlk.mk [AV.ls b2_0,iv b2_1,AV.ls b2_2,bv b2_3] true false),(0,ABlk.mk [AV.ls xs4,iv n9,AV.ls xs5,bv b5] true false),(6,ABlk.mk (List.drop 0 (List.take (0+n5*3) c5)++[bv t6,sv s,sv s1]) true true),(5,ABlk.mk [bv t6,sv s,sv s1] true true),(4,ABlk.mk [bv t6,sv s,sv s1] true false),(3,ABlk.mk [iv n,sv s,iv n1,iv n2] true false)] 7 none) [2,0,1] r8 o8)
 (br ((0+(n5+1)*3).ble (List.drop 0 (List.take (0+n5*3) c5)++[bv t6,sv s,sv s1]).length) (some ((AV.tup [bv true,AV.ptr 1 0,AV.ls (chunk (n5+1) 3 (List.take ((n5+1)*3) (List.drop 0 (List.drop 0 (List.take (0+n5*3) c5)++[bv t6,sv s,sv s1])))),iv 0],[BO.del,BO.set (ABlk.mk [AV.ls xs2,iv n8,AV.ls xs3,bv b2] true false),BO.del]))) none))) none) none))))))))
 (some ((AV.tup [bv true,AV.ptr 1 0,AV.ls [],iv 101],[BO.del,BO.set (ABlk.mk [AV.ls xs,iv n3,AV.ls xs1,bv b] true false),BO.del])))) none)
 (askK D (Key.fn 99) [AV.agg [AV.ls xs,iv n3,AV.ls xs1,bv b],sv (bstr [42])] [] fun r2 o2=>
 unBool r2 fun b1=>
 unEnd o2<|
 br b1
 (br (A.seq s (bstr [])) none (askK D (Key.fn 100) [AV.agg [AV.ls xs,iv n3,AV.ls xs1,bv b]] [] fun r3 o3=>
 unAgg r3 fun cs2=>
 cLs cs2 fun xs2 l8=>
 cInt IntKind.i64 l8 fun n4 l9=>
 cLs l9 fun xs3 l10=>
 cBool l10 fun b2 l11=>
 unNil l11<|
 unEnd o3<|
 askK D (Key.fn 102) [AV.agg [AV.ls xs2,iv n4,AV.ls xs3,bv b2]] [] fun r4 o4=>
 unBool r4 fun b3=>
 unEnd o4<|
 br b3
 (askK D (Key.fn 101) [AV.agg [AV.ls xs2,iv n4,AV.ls xs3,bv b2]] [] fun r5 o5=>
 unAgg r5 fun cs3=>
 cInt IntKind.i64 cs3 fun _ l12=>
 cStr l12 fun s1 l13=>
 cInt IntKind.i64 l13 fun _ l14=>
 cInt IntKind.i64 l14 fun _ l15=>
 unNil l15<|
 unEnd o5<|
 br b2
 (br b2 (br b2 (br b2 (br b2 (askK D (Key.fn 103) [AV.ls xs3,sv s1] [] fun r6 o6=>
 unBool r6 fun b4=>
 unEnd o6<|
 br b4
 (br b2 (br b2 (askK D (Key.fn 100) [AV.agg [AV.ls xs2,iv n4,AV.ls xs3,bv b2]] [] fun r7 o7=>
 unAgg r7 fun cs4=>
 cLs cs4 fun xs4 l16=>
 cInt IntKind.i64 l16 fun n9 l17=>
 cLs l17 fun xs5 l18=>
 cBool l18 fun b5 l19=>
 unNil l19<|
 unEnd o7<|
 br (fitsB (n5+1) 40) (br ((0+n5*3).ble c5.length) (askK D (Key.fn 99) [AV.agg [AV.ls xs4,iv n9,AV.ls xs5,bv b5],sv (bstr [45])] [] fun r8 o8=>
 unBool r8 fun b6=>
 unEnd o8<|
 br b6
 (askK D (Key.fn 100) [AV.agg [AV.ls xs4,iv n9,AV.ls xs5,bv b5]] [] fun r9 o9=>
 unAgg r9 fun cs5=>
 cLs cs5 fun xs6 l20=>
 cInt IntKind.i64 l20 fun n10 l21=>
 cLs l21 fun xs7 l22=>
 cBool l22 fun b7 l23=>
 unNil l23<|
 unEnd o9<|
 askK D (Key.lp 51 0) [AV.ptr 0 0,AV.ptr 1 0,AV.sl 2 0 (n5+1) 3,bv true] [ABlk.mk [AV.ls xs6,iv n10,AV.ls xs7,bv b7] true false,ABlk.mk [AV.ls b2_0,iv b2_1,AV.ls b2_2,bv b2_3] true false,ABlk.mk (List.drop 0 (List.take (0+n5*3) c5)++[bv t6,sv s,sv s1]) true true] fun r10 o10=>
 tailK 3 [0,1,6] (AH.mk [(1,ABlk.mk [AV.ls b2_0,iv b2_1,AV.ls b2_2,bv b2_3] true false),(0,ABlk.mk [AV.ls xs6,iv n10,AV.ls xs7,bv b7] true false),(6,ABlk.mk (List.drop 0 (List.take (0+n5*3) c5)++[bv t6,sv s,sv s1]) true true),(5,ABlk.mk [bv t6,sv s,sv s1] true true),(4,ABlk.mk [bv t6,sv s,sv s1] true false),(3,ABlk.mk [iv n,sv s,iv n1,iv n2] true false)] 7 none) [2,0,1] r10 o10)
 (askK D (Key.fn 99) [AV.agg [AV.ls xs4,iv n9,AV.ls xs5,bv b5],sv (bstr [43])] [] fun r9 o9=>
 unBool r9 fun b7=>
 unEnd o9<|
 br b7
 (askK D (Key.fn 100) [AV.agg [AV.ls xs4,iv n9,AV.ls xs5,bv b5]] [] fun r10 o10=>
 unAgg r10 fun cs5=>
 cLs cs5 fun xs6 l20=>
 cInt IntKind.i64 l20 fun n10 l21=>
 cLs l21 fun xs7 l22=>
 cBool l22 fun b8 l23=>
 unNil l23<|
 unEnd o10<|
 askK D (Key.lp 51 0) [AV.ptr 0 0,AV.ptr 1 0,AV.sl 2 0 (n5+1) 3,bv false] [ABlk.mk [AV.ls xs6,iv n10,AV.ls xs7,bv b8] true false,ABlk.mk [AV.ls b2_0,iv b2_1,AV.ls b2_2,bv b2_3] true false,ABlk.mk (List.drop 0 (List.take (0+n5*3) c5)++[bv t6,sv s,sv s1]) true true] fun r11 o11=>
 tailK 3 [0,1,6] (AH.mk [(1,ABlk.mk [AV.ls b2_0,iv b2_1,AV.ls b2_2,bv b2_3] true false),(0,ABlk.mk [AV.ls xs6,iv n10,AV.ls xs7,bv b8] true false),(6,ABlk.mk (List.drop 0 (List.take (0+n5*3) c5)++[bv t6,sv s,sv s1]) true true),(5,ABlk.mk [bv t6,sv s,sv s1] true true),(4,ABlk.mk [bv t6,sv s,sv s1] true false),(3,ABlk.mk [iv n,sv s,iv n1,iv n2] true false)] 7 none) [2,0,1] r11 o11)
 (br ((0+(n5+1)*3).ble (List.drop 0 (List.take (0+n5*3) c5)++[bv t6,sv s,sv s1]).length) (some ((AV.tup [bv true,AV.ptr 1 0,AV.ls (chunk (n5+1) 3 (List.take ((n5+1)*3) (List.drop 0 (List.drop 0 (List.take (0+n5*3) c5)++[bv t6,sv s,sv s1])))),iv 0],[BO.del,BO.set (ABlk.mk [AV.ls xs4,iv n9,AV.ls xs5,bv b5] true false),BO.del]))) none))) none) none) none) none)
 (br b2 (br b2 (some ((AV.tup [bv true,AV.ptr 1 0,AV.ls [],iv 110],[BO.del,BO.set (ABlk.mk [AV.ls xs2,iv n4,AV.ls xs3,bv b2] true false),BO.del]))) none) none)) none) none) none) none)
 (br b2 none (br b2 none (br b2 none (br b2 none (br b2 none (br b2 none (askK D (Key.fn 100) [AV.agg [AV.ls xs2,iv n4,AV.ls xs3,bv b2]] [] fun r6 o6=>
 unAgg r6 fun cs4=>
 cLs cs4 fun xs4 l16=>
 cInt IntKind.i64 l16 fun n9 l17=>
 cLs l17 fun xs5 l18=>
 cBool l18 fun b4 l19=>
 unNil l19<|
 unEnd o6<|
 br (fitsB (n5+1) 40) (br ((0+n5*3).ble c5.length) (askK D (Key.fn 99) [AV.agg [AV.ls xs4,iv n9,AV.ls xs5,bv b4],sv (bstr [45])] [] fun r7 o7=>
 unBool r7 fun b5=>
 unEnd o7<|
 br b5
 (askK D (Key.fn 100) [AV.agg [AV.ls xs4,iv n9,AV.ls xs5,bv b4]] [] fun r8 o8=>
 unAgg r8 fun cs5=>
 cLs cs5 fun xs6 l20=>
 cInt IntKind.i64 l20 fun n10 l21=>
 cLs l21 fun xs7 l22=>
 cBool l22 fun b6 l23=>
 unNil l23<|
 unEnd o8<|
 askK D (Key.lp 51 0) [AV.ptr 0 0,AV.ptr 1 0,AV.sl 2 0 (n5+1) 3,bv true] [ABlk.mk [AV.ls xs6,iv n10,AV.ls xs7,bv b6] true false,ABlk.mk [AV.ls b2_0,iv b2_1,AV.ls b2_2,bv b2_3] true false,ABlk.mk (List.drop 0 (List.take (0+n5*3) c5)++[bv t6,sv s,sv s1]) true true] fun r9 o9=>
 tailK 3 [0,1,6] (AH.mk [(1,ABlk.mk [AV.ls b2_0,iv b2_1,AV.ls b2_2,bv b2_3] true false),(0,ABlk.mk [AV.ls xs6,iv n10,AV.ls xs7,bv b6] true false),(6,ABlk.mk (List.drop 0 (List.take (0+n5*3) c5)++[bv t6,sv s,sv s1]) true true),(5,ABlk.mk [bv t6,sv s,sv s1] true true),(4,ABlk.mk [bv t6,sv s,sv s1] true false),(3,ABlk.mk [iv n,sv s,iv n1,iv n2] true false)] 7 none) [2,0,1] r9 o9)
 (askK D (Key.fn 99) [AV.agg [AV.ls xs4,iv n9,AV.ls xs5,bv b4],sv (bstr [43])] [] fun r8 o8=>
 unBool r8 fun b6=>
 unEnd o8<|
 br b6
 (askK D (Key.fn 100) [AV.agg [AV.ls xs4,iv n9,AV.ls xs5,bv b4]] [] fun r9 o9=>
 unAgg r9 fun cs5=>
 cLs cs5 fun xs6 l20=>
 cInt IntKind.i64 l20 fun n10 l21=>
 cLs l21 fun xs7 l22=>
 cBool l22 fun b7 l23=>
 unNil l23<|
 unEnd o9<|
 askK D (Key.lp 51 0) [AV.ptr 0 0,AV.ptr 1 0,AV.sl 2 0 (n5+1) 3,bv false] [ABlk.mk [AV.ls xs6,iv n10,AV.ls xs7,bv b7] true false,ABlk.mk [AV.ls b2_0,iv b2_1,AV.ls b2_2,bv b2_3] true false,ABlk.mk (List.drop 0 (List.take (0+n5*3) c5)++[bv t6,sv s,sv s1]) true true] fun r10 o10=>
 tailK 3 [0,1,6] (AH.mk [(1,ABlk.mk [AV.ls b2_0,iv b2_1,AV.ls b2_2,bv b2_3] true false),(0,ABlk.mk [AV.ls xs6,iv n10,AV.ls xs7,bv b7] true false),(6,ABlk.mk (List.drop 0 (List.take (0+n5*3) c5)++[bv t6,sv s,sv s1]) true true),(5,ABlk.mk [bv t6,sv s,sv s1] true true),(4,ABlk.mk [bv t6,sv s,sv s1] true false),(3,ABlk.mk [iv n,sv s,iv n1,iv n2] true false)] 7 none) [2,0,1] r10 o10)
 (br ((0+(n5+1)*3).ble (List.drop 0 (List.take (0+n5*3) c5)++[bv t6,sv s,sv s1]).length) (some ((AV.tup [bv true,AV.ptr 1 0,AV.ls (chunk (n5+1) 3 (List.take ((n5+1)*3) (List.drop 0 (List.drop 0 (List.take (0+n5*3) c5)++[bv t6,sv s,sv s1])))),iv 0],[BO.del,BO.set (ABlk.mk [AV.ls xs4,iv n9,AV.ls xs5,bv b4] true false),BO.del]))) none))) none) none))))))))
 (some ((AV.tup [bv true,AV.ptr 1 0,AV.ls [],iv 101],[BO.del,BO.set (ABlk.mk [AV.ls xs2,iv n4,AV.ls xs3,bv b2] true false),BO.del])))))
 (br (fitsB (n5+1) 40) (br ((0+n5*3).ble c5.length) (askK D (Key.fn 99) [AV.agg [AV.ls xs,iv n3,AV.ls xs1,bv b],sv (bstr [45])] [] fun r3 o3=>
 unBool r3 fun b2=>
 unEnd o3<|
 br b2
 (askK D (Key.fn 100) [AV.agg [AV.ls xs,iv n3,AV.ls xs1,bv b]] [] fun r4 o4=>
 unAgg r4 fun cs2=>
 cLs cs2 fun xs2 l8=>
 cInt IntKind.i64 l8 fun n4 l9=>
 cLs l9 fun xs3 l10=>
 cBool l10 fun b3 l11=>
 unNil l11<|
 unEnd o4<|
 askK D (Key.lp 51 0) [AV.ptr 0 0,AV.ptr 1 0,AV.sl 2 0 (n5+1) 3,bv true] [ABlk.mk [AV.ls xs2,iv n4,AV.ls xs3,bv b3] true false,ABlk.mk [AV.ls b2_0,iv b2_1,AV.ls b2_2,bv b2_3] true false,ABlk.mk (List.drop 0 (List.take (0+n5*3) c5)++[bv t6,sv s,sv (bstr [])]) true true] fun r5 o5=>
 tailK 3 [0,1,6] (AH.mk [(1,ABlk.mk [AV.ls b2_0,iv b2_1,AV.ls b2_2,bv b2_3] true false),(0,ABlk.mk [AV.ls xs2,iv n4,AV.ls xs3,bv b3] true false),(6,ABlk.mk (List.drop 0 (List.take (0+n5*3) c5)++[bv t6,sv s,sv (bstr [])]) true true),(5,ABlk.mk [bv t6,sv s,sv (bstr [])] true true),(4,ABlk.mk [bv t6,sv s,sv (bstr [])] true false),(3,ABlk.mk [iv n,sv s,iv n1,iv n2] true false)] 7 none) [2,0,1] r5 o5)
 (askK D (Key.fn 99) [AV.agg [AV.ls xs,iv n3,AV.ls xs1,bv b],sv (bstr [43])] [] fun r4 o4=>
 unBool r4 fun b3=>
 unEnd o4<|
 br b3
 (askK D (Key.fn 100) [AV.agg [AV.ls xs,iv n3,AV.ls xs1,bv b]] [] fun r5 o5=>
 unAgg r5 fun cs2=>
 cLs cs2 fun xs2 l8=>
 cInt IntKind.i64 l8 fun n4 l9=>
 cLs l9 fun xs3 l10=>
 cBool l10 fun b4 l11=>
 unNil l11<|
 unEnd o5<|
 askK D (Key.lp 51 0) [AV.ptr 0 0,AV.ptr 1 0,AV.sl 2 0 (n5+1) 3,bv false] [ABlk.mk [AV.ls xs2,iv n4,AV.ls xs3,bv b4] true false,ABlk.mk [AV.ls b2_0,iv b2_1,AV.ls b2_2,bv b2_3] true false,ABlk.mk (List.drop 0 (List.take (0+n5*3) c5)++[bv t6,sv s,sv (bstr [])]) true true] fun r6 o6=>
 tailK 3 [0,1,6] (AH.mk [(1,ABlk.mk [AV.ls b2_0,iv b2_1,AV.ls b2_2,bv b2_3] true false),(0,ABlk.mk [AV.ls xs2,iv n4,AV.ls xs3,bv b4] true false),(6,ABlk.mk (List.drop 0 (List.take (0+n5*3) c5)++[bv t6,sv s,sv (bstr [])]) true true),(5,ABlk.mk [bv t6,sv s,sv (bstr [])] true true),(4,ABlk.mk [bv t6,sv s,sv (bstr [])] true false),(3,ABlk.mk [iv n,sv s,iv n1,iv n2] true false)] 7 none) [2,0,1] r6 o6)
 (br ((0+(n5+1)*3).ble (List.drop 0 (List.take (0+n5*3) c5)++[bv t6,sv s,sv (bstr [])]).length) (some ((AV.tup [bv true,AV.ptr 1 0,AV.ls (chunk (n5+1) 3 (List.take ((n5+1)*3) (List.drop 0 (List.drop 0 (List.take (0+n5*3) c5)++[bv t6,sv s,sv (bstr [])])))),iv 0],[BO.del,BO.set (ABlk.mk [AV.ls xs,iv n3,AV.ls xs1,bv b] true false),BO.del]))) none))) none) none))) none))
 (askK D (Key.fn 102) [AV.agg [AV.ls b1_0,iv b1_1,AV.ls b1_2,bv b1_3]] [] fun r1 o1=>
 unBool r1 fun b=>
 unEnd o1<|
 br b
 (br (A.eq (↑n5) 64)
 (some ((AV.tup [bv true,AV.ptr 1 0,AV.ls [],iv 3],[BO.del,BO.set (ABlk.mk [AV.ls b1_0,iv b1_1,AV.ls b1_2,bv b1_3] true false),BO.del])))
 (br (A.eq n 3) none (br (A.seq (bstr []) (bstr []))
 (br (A.seq (bstr []) (bstr [])) (askK D (Key.fn 102) [AV.agg [AV.ls b1_0,iv b1_1,AV.ls b1_2,bv b1_3]] [] fun r2 o2=>
 unBool r2 fun b1=>
 unEnd o2<|
 br b1
 (askK D (Key.fn 101) [AV.agg [AV.ls b1_0,iv b1_1,AV.ls b1_2,bv b1_3]] [] fun r3 o3=>
 unAgg r3 fun cs1=>
 cInt IntKind.i64 cs1 fun _ l4=>
 cStr l4 fun s1 l5=>
 cInt IntKind.i64 l5 fun _ l6=>
 cInt IntKind.i64 l6 fun _ l7=>
 unNil l7<|
 unEnd o3<|
 br b1_3
 (br b1_3 (br b1_3 (br b1_3 (br b1_3 (askK D (Key.fn 103) [AV.ls b1_2,sv s1] [] fun r4 o4=>
 unBool r4 fun b2=>
 unEnd o4<|
 br b2
 (br b1_3 (br b1_3 (askK D (Key.fn 100) [AV.agg [AV.ls b1_0,iv b1_1,AV.ls b1_2,bv b1_3]] [] fun r5 o5=>
 unAgg r5 fun cs2=>
 cLs cs2 fun xs l8=>
 cInt IntKind.i64 l8 fun n7 l9=>
 cLs l9 fun xs1 l10=>
 cBool l10 fun b3 l11=>
 unNil l11<|
 unEnd o5<|
 br (fitsB (n5+1) 40) (br ((0+n5*3).ble c5.length) (askK D (Key.fn 99) [AV.agg [AV.ls xs,iv n7,AV.ls xs1,bv b3],sv (bstr [45])] [] fun r6 o6=>
 unBool r6 fun b4=>
 unEnd o6<|
 br b4
 (askK D (Key.fn 100) [AV.agg [AV.ls xs,iv n7,AV.ls xs1,bv b3]] [] fun r7 o7=>
 unAgg r7 fun cs3=>
 cLs cs3 fun xs2 l12=>
 cInt IntKind.i64 l12 fun n8 l13=>
 cLs l13 fun xs3 l14=>
 cBool l14 fun b5 l15=>
 unNil l15<|
 unEnd o7<|
 askK D (Key.lp 51 0) [AV.ptr 0 0,AV.ptr 1 0,AV.sl 2 0 (n5+1) 3,bv true] [ABlk.mk [AV.ls xs2,iv n8,AV.ls xs3,bv b5] true false,ABlk.mk [AV.ls b2_0,iv b2_1,AV.ls b2_2,bv b2_3] true false,ABlk.mk (List.drop 0 (List.take (0+n5*3) c5)++[bv t6,sv (bstr []),sv s1]) true true] fun r8 o8=>
 tailK 3 [0,1,6] (AH.mk [(1,ABlk.mk [AV.ls b2_0,iv b2_1,AV.ls b2_2,bv b2_3] true false),(0,ABlk.mk [AV.ls xs2,iv n8,AV.ls xs3,bv b5] true false),(6,ABlk.mk (List.drop 0 (List.take (0+n5*3) c5)++[bv t6,sv (bstr []),sv s1]) true true),(5,ABlk.mk [bv t6,sv (bstr []),sv s1] true true),(4,ABlk.mk [bv t6,sv (bstr []),sv s1] true false),(3,ABlk.mk [iv n,sv s,iv n1,iv n2] true false)] 7 none) [2,0,1] r8 o8)
 (askK D (Key.fn 99) [AV.agg [AV.ls xs,iv n7,AV.ls xs1,bv b3],sv (bstr [43])] [] fun r7 o7=>
 unBool r7 fun b5=>
 unEnd o7<|
 br b5
 (askK D (Key.fn 100) [AV.agg [AV.ls xs,iv n7,AV.ls xs1,bv b3]] [] fun r8 o8=>
 unAgg r8 fun cs3=>
 cLs cs3 fun xs2 l12=>
 cInt IntKind.i64 l12 fun n8 l13=>
 cLs l13 fun xs3 l14=>
 cBool l14 fun b6 l15=>
 unNil l15<|
 unEnd o8<|
 askK D (Key.lp 51 0) [AV.ptr 0 0,AV.ptr 1 0,AV.sl 2 0 (n5+1) 3,bv false] [ABlk.mk [AV.ls xs2,iv n8,AV.ls xs3,bv b6] true false,ABlk.mk [AV.ls b2_0,iv b2_1,AV.ls b2_2,bv b2_3] true false,ABlk.mk (List.drop 0 (List.take (0+n5*3) c5)++[bv t6,sv (bstr []),sv s1]) true true] fun r9 o9=>
 tailK 3 [0,1,6] (AH.mk [(1,ABlk.mk [AV.ls b2_0,iv b2_1,AV.ls b2_2,bv b2_3] true false),(0,ABlk.mk [AV.ls xs2,iv n8,AV.ls xs3,bv b6] true false),(6,ABlk.mk (List.drop 0 (List.take (0+n5*3) c5)++[bv t6,sv (bstr []),sv s1]) true true),(5,ABlk.mk [bv t6,sv (bstr []),sv s1] true true),(4,ABlk.mk [bv t6,sv (bstr []),sv s1] true false),(3,ABlk.mk [iv n,sv s,iv n1,iv n2] true false)] 7 none) [2,0,1] r9 o9)
 (br ((0+(n5+1)*3).ble (List.drop 0 (List.take (0+n5*3) c5)++[bv t6,sv (bstr []),sv s1]).length) (some ((AV.tup [bv true,AV.ptr 1 0,AV.ls (chunk (n5+1) 3 (List.take ((n5+1)*3) (List.drop 0 (List.drop 0 (List.take (0+n5*3) c5)++[bv t6,sv (bstr []),sv s1])))),iv 0],[BO.del,BO.set (ABlk.mk [AV.ls xs,iv n7,AV.ls xs1,bv b3] true false),BO.del]))) none))) none) none) none) none)
 (br b1_3 (br b1_3 (some ((AV.tup [bv true,AV.ptr 1 0,AV.ls [],iv 110],[BO.del,BO.set (ABlk.mk [AV.ls b1_0,iv b1_1,AV.ls b1_2,bv b1_3] true false),BO.del]))) none) none)) none) none) none) none)
 (br b1_3 none (br b1_3 none (br b1_3 none (br b1_3 none (br b1_3 none (br b1_3 none (askK D (Key.fn 100) [AV.agg [AV.ls b1_0,iv b1_1,AV.ls b1_2,bv b1_3]] [] fun r4 o4=>
 unAgg r4 fun cs2=>
 cLs cs2 fun xs l8=>
 cInt IntKind.i64 l8 fun n7 l9=>
 cLs l9 fun xs1 l10=>
 cBool l10 fun b2 l11=>
 unNil l11<|
 unEnd o4<|
 br (fitsB (n5+1) 40) (br ((0+n5*3).ble c5.length) (askK D (Key.fn 99) [AV.agg [AV.ls xs,iv n7,AV.ls xs1,bv b2],sv (bstr [45])] [] fun r5 o5=>
 unBool r5 fun b3=>
 unEnd o5<|
 br b3
 (askK D (Key.fn 100) [AV.agg [AV.ls xs,iv n7,AV.ls xs1,bv b2]] [] fun r6 o6=>
 unAgg r6 fun cs3=>
 cLs cs3 fun xs2 l12=>
 cInt IntKind.i64 l12 fun n8 l13=>
 cLs l13 fun xs3 l14=>
 cBool l14 fun b4 l15=>
 unNil l15<|
 unEnd o6<|
 askK D (Key.lp 51 0) [AV.ptr 0 0,AV.ptr 1 0,AV.sl 2 0 (n5+1) 3,bv true] [ABlk.mk [AV.ls xs2,iv n8,AV.ls xs3,bv b4] true false,ABlk.mk [AV.ls b2_0,iv b2_1,AV.ls b2_2,bv b2_3] true false,ABlk.mk (List.drop 0 (List.take (0+n5*3) c5)++[bv t6,sv (bstr []),sv s1]) true true] fun r7 o7=>
 tailK 3 [0,1,6] (AH.mk [(1,ABlk.mk [AV.ls b2_0,iv b2_1,AV.ls b2_2,bv b2_3] true false),(0,ABlk.mk [AV.ls xs2,iv n8,AV.ls xs3,bv b4] true false),(6,ABlk.mk (List.drop 0 (List.take (0+n5*3) c5)++[bv t6,sv (bstr []),sv s1]) true true),(5,ABlk.mk [bv t6,sv (bstr []),sv s1] true true),(4,ABlk.mk [bv t6,sv (bstr []),sv s1] true false),(3,ABlk.mk [iv n,sv s,iv n1,iv n2] true false)] 7 none) [2,0,1] r7 o7)
 (askK D (Key.fn 99) [AV.agg [AV.ls xs,iv n7,AV.ls xs1,bv b2],sv (bstr [43])] [] fun r6 o6=>
 unBool r6 fun b4=>
 unEnd o6<|
 br b4
 (askK D (Key.fn 100) [AV.agg [AV.ls xs,iv n7,AV.ls xs1,bv b2]] [] fun r7 o7=>
 unAgg r7 fun cs3=>
 cLs cs3 fun xs2 l12=>
 cInt IntKind.i64 l12 fun n8 l13=>
 cLs l13 fun xs3 l14=>
 cBool l14 fun b5 l15=>
 unNil l15<|
 unEnd o7<|
 askK D (Key.lp 51 0) [AV.ptr 0 0,AV.ptr 1 0,AV.sl 2 0 (n5+1) 3,bv false] [ABlk.mk [AV.ls xs2,iv n8,AV.ls xs3,bv b5] true false,ABlk.mk [AV.ls b2_0,iv b2_1,AV.ls b2_2,bv b2_3] true false,ABlk.mk (List.drop 0 (List.take (0+n5*3) c5)++[bv t6,sv (bstr []),sv s1]) true true] fun r8 o8=>
 tailK 3 [0,1,6] (AH.mk [(1,ABlk.mk [AV.ls b2_0,iv b2_1,AV.ls b2_2,bv b2_3] true false),(0,ABlk.mk [AV.ls xs2,iv n8,AV.ls xs3,bv b5] true false),(6,ABlk.mk (List.drop 0 (List.take (0+n5*3) c5)++[bv t6,sv (bstr []),sv s1]) true true),(5,ABlk.mk [bv t6,sv (bstr []),sv s1] true true),(4,ABlk.mk [bv t6,sv (bstr []),sv s1] true false),(3,ABlk.mk [iv n,sv s,iv n1,iv n2] true false)] 7 none) [2,0,1] r8 o8)
 (br ((0+(n5+1)*3).ble (List.drop 0 (List.take (0+n5*3) c5)++[bv t6,sv (bstr []),sv s1]).length) (some ((AV.tup [bv true,AV.ptr 1 0,AV.ls (chunk (n5+1) 3 (List.take ((n5+1)*3) (List.drop 0 (List.drop 0 (List.take (0+n5*3) c5)++[bv t6,sv (bstr []),sv s1])))),iv 0],[BO.del,BO.set (ABlk.mk [AV.ls xs,iv n7,AV.ls xs1,bv b2] true false),BO.del]))) none))) none) none))))))))
 (some ((AV.tup [bv true,AV.ptr 1 0,AV.ls [],iv 101],[BO.del,BO.set (ABlk.mk [AV.ls b1_0,iv b1_1,AV.ls b1_2,bv b1_3] true false),BO.del])))) none)
 (askK D (Key.fn 99) [AV.agg [AV.ls b1_0,iv b1_1,AV.ls b1_2,bv b1_3],sv (bstr [42])] [] fun r2 o2=>
 unBool r2 fun b1=>
 unEnd o2<|
 br b1
 (br (A.seq (bstr []) (bstr [])) none (askK D (Key.fn 100) [AV.agg [AV.ls b1_0,iv b1_1,AV.ls b1_2,bv b1_3]] [] fun r3 o3=>
 unAgg r3 fun cs1=>
 cLs cs1 fun xs l4=>
 cInt IntKind.i64 l4 fun n3 l5=>
 cLs l5 fun xs1 l6=>
 cBool l6 fun b2 l7=>
 unNil l7<|
 unEnd o3<|
 askK D (Key.fn 102) [AV.agg [AV.ls xs,iv n3,AV.ls xs1,bv b2]] [] fun r4 o4=>
 unBool r4 fun b3=>
 unEnd o4<|
 br b3
 (askK D (Key.fn 101) [AV.agg [AV.ls xs,iv n3,AV.ls xs1,bv b2]] [] fun r5 o5=>
 unAgg r5 fun cs2=>
 cInt IntKind.i64 cs2 fun _ l8=>
 cStr l8 fun s1 l9=>
 cInt IntKind.i64 l9 fun _ l10=>
 cInt IntKind.i64 l10 fun _ l11=>
 unNil l11<|
 unEnd o5<|
 br b2
 (br b2 (br b2 (br b2 (br b2 (askK D (Key.fn 103) [AV.ls xs1,sv s1] [] fun r6 o6=>
 unBool r6 fun b4=>
 unEnd o6<|
 br b4
 (br b2 (br b2 (askK D (Key.fn 100) [AV.agg [AV.ls xs,iv n3,AV.ls xs1,bv b2]] [] fun r7 o7=>
 unAgg r7 fun cs3=>
 cLs cs3 fun xs2 l12=>
 cInt IntKind.i64 l12 fun n8 l13=>
 cLs l13 fun xs3 l14=>
 cBool l14 fun b5 l15=>
 unNil l15<|
 unEnd o7<|
 br (fitsB (n5+1) 40) (br ((0+n5*3).ble c5.length) (askK D (Key.fn 99) [AV.agg [AV.ls xs2,iv n8,AV.ls xs3,bv b5],sv (bstr [45])] [] fun r8 o8=>
 unBool r8 fun b6=>
 unEnd o8<|
 br b6
 (askK D (Key.fn 100) [AV.agg [AV.ls xs2,iv n8,AV.ls xs3,bv b5]] [] fun r9 o9=>
 unAgg r9 fun cs4=>
 cLs cs4 fun xs4 l16=>
 cInt IntKind.i64 l16 fun n9 l17=>
 cLs l17 fun xs5 l18=>
 cBool l18 fun b7 l19=>
 unNil l19<|
 unEnd o9<|
 askK D (Key.lp 51 0) [AV.ptr 0 0,AV.ptr 1 0,AV.sl 2 0 (n5+1) 3,bv true] [ABlk.mk [AV.ls xs4,iv n9,AV.ls xs5,bv b7] true false,ABlk.mk [AV.ls b2_0,iv b2_1,AV.ls b2_2,bv b2_3] true false,ABlk.mk (List.drop 0 (List.take (0+n5*3) c5)++[bv t6,sv (bstr []),sv s1]) true true] fun r10 o10=>
 tailK 3 [0,1,6] (AH.mk [(1,ABlk.mk [AV.ls b2_0,iv b2_1,AV.ls b2_2,bv b2_3] true false),(0,ABlk.mk [AV.ls xs4,iv n9,AV.ls xs5,bv b7] true false),(6,ABlk.mk (List.drop 0 (List.take (0+n5*3) c5)++[bv t6,sv (bstr []),sv s1]) true true),(5,ABlk.mk [bv t6,sv (bstr []),sv s1] true true),(4,ABlk.mk [bv t6,sv (bstr []),sv s1] true false),(3,ABlk.mk [iv n,sv s,iv n1,iv n2] true false)] 7 none) [2,0,1] r10 o10)
 (askK D (Key.fn 99) [AV.agg [AV.ls xs2,iv n8,AV.ls xs3,bv b5],sv (bstr [43])] [] fun r9 o9=>
 unBool r9 fun b7=>
 unEnd o9<|
 br b7
 (askK D (Key.fn 100) [AV.agg [AV.ls xs2,iv n8,AV.ls xs3,bv b5]] [] fun r10 o10=>
 unAgg r10 fun cs4=>
 cLs cs4 fun xs4 l16=>
 cInt IntKind.i64 l16 fun n9 l17=>
 cLs l17 fun xs5 l18=>
 cBool l18 fun b8 l19=>
 unNil l19<|
 unEnd o10<|
 askK D (Key.lp 51 0) [AV.ptr 0 0,AV.ptr 1 0,AV.sl 2 0 (n5+1) 3,bv false] [ABlk.mk [AV.ls xs4,iv n9,AV.ls xs5,bv b8] true false,ABlk.mk [AV.ls b2_0,iv b2_1,AV.ls b2_2,bv b2_3] true false,ABlk.mk (List.drop 0 (List.take (0+n5*3) c5)++[bv t6,sv (bstr []),sv s1]) true true] fun r11 o11=>
 tailK 3 [0,1,6] (AH.mk [(1,ABlk.mk [AV.ls b2_0,iv b2_1,AV.ls b2_2,bv b2_3] true false),(0,ABlk.mk [AV.ls xs4,iv n9,AV.ls xs5,bv b8] true false),(6,ABlk.mk (List.drop 0 (List.take (0+n5*3) c5)++[bv t6,sv (bstr []),sv s1]) true true),(5,ABlk.mk [bv t6,sv (bstr []),sv s1] true true),(4,ABlk.mk [bv t6,sv (bstr []),sv s1] true false),(3,ABlk.mk [iv n,sv s,iv n1,iv n2] true false)] 7 none) [2,0,1] r11 o11)
 (br ((0+(n5+1)*3).ble (List.drop 0 (List.take (0+n5*3) c5)++[bv t6,sv (bstr []),sv s1]).length) (some ((AV.tup [bv true,AV.ptr 1 0,AV.ls (chunk (n5+1) 3 (List.take ((n5+1)*3) (List.drop 0 (List.drop 0 (List.take (0+n5*3) c5)++[bv t6,sv (bstr []),sv s1])))),iv 0],[BO.del,BO.set (ABlk.mk [AV.ls xs2,iv n8,AV.ls xs3,bv b5] true false),BO.del]))) none))) none) none) none) none)
 (br b2 (br b2 (some ((AV.tup [bv true,AV.ptr 1 0,AV.ls [],iv 110],[BO.del,BO.set (ABlk.mk [AV.ls xs,iv n3,AV.ls xs1,bv b2] true false),BO.del]))) none) none)) none) none) none) none)
 (br b2 none (br b2 none (br b2 none (br b2 none (br b2 none (br b2 none (askK D (Key.fn 100) [AV.agg [AV.ls xs,iv n3,AV.ls xs1,bv b2]] [] fun r6 o6=>
 unAgg r6 fun cs3=>
 cLs cs3 fun xs2 l12=>
 cInt IntKind.i64 l12 fun n8 l13=>
 cLs l13 fun xs3 l14=>
 cBool l14 fun b4 l15=>
 unNil l15<|
 unEnd o6<|
 br (fitsB (n5+1) 40) (br ((0+n5*3).ble c5.length) (askK D (Key.fn 99) [AV.agg [AV.ls xs2,iv n8,AV.ls xs3,bv b4],sv (bstr [45])] [] fun r7 o7=>
 unBool r7 fun b5=>
 unEnd o7<|
 br b5
 (askK D (Key.fn 100) [AV.agg [AV.ls xs2,iv n8,AV.ls xs3,bv b4]] [] fun r8 o8=>
 unAgg r8 fun cs4=>
 cLs cs4 fun xs4 l16=>
 cInt IntKind.i64 l16 fun n9 l17=>
 cLs l17 fun xs5 l18=>
 cBool l18 fun b6 l19=>
 unNil l19<|
 unEnd o8<|
 askK D (Key.lp 51 0) [AV.ptr 0 0,AV.ptr 1 0,AV.sl 2 0 (n5+1) 3,bv true] [ABlk.mk [AV.ls xs4,iv n9,AV.ls xs5,bv b6] true false,ABlk.mk [AV.ls b2_0,iv b2_1,AV.ls b2_2,bv b2_3] true false,ABlk.mk (List.drop 0 (List.take (0+n5*3) c5)++[bv t6,sv (bstr []),sv s1]) true true] fun r9 o9=>
 tailK 3 [0,1,6] (AH.mk [(1,ABlk.mk [AV.ls b2_0,iv b2_1,AV.ls b2_2,bv b2_3] true false),(0,ABlk.mk [AV.ls xs4,iv n9,AV.ls xs5,bv b6] true false),(6,ABlk.mk (List.drop 0 (List.take (0+n5*3) c5)++[bv t6,sv (bstr []),sv s1]) true true),(5,ABlk.mk [bv t6,sv (bstr []),sv s1] true true),(4,ABlk.mk [bv t6,sv (bstr []),sv s1] true false),(3,ABlk.mk [iv n,sv s,iv n1,iv n2] true false)] 7 none) [2,0,1] r9 o9)
 (askK D (Key.fn 99) [AV.agg [AV.ls xs2,iv n8,AV.ls xs3,bv b4],sv (bstr [43])] [] fun r8 o8=>
 unBool r8 fun b6=>
 unEnd o8<|
 br b6
 (askK D (Key.fn 100) [AV.agg [AV.ls xs2,iv n8,AV.ls xs3,bv b4]] [] fun r9 o9=>
 unAgg r9 fun cs4=>
 cLs cs4 fun xs4 l16=>
 cInt IntKind.i64 l16 fun n9 l17=>
 cLs l17 fun xs5 l18=>
 cBool l18 fun b7 l19=>
 unNil l19<|
 unEnd o9<|
 askK D (Key.lp 51 0) [AV.ptr 0 0,AV.ptr 1 0,AV.sl 2 0 (n5+1) 3,bv false] [ABlk.mk [AV.ls xs4,iv n9,AV.ls xs5,bv b7] true false,ABlk.mk [AV.ls b2_0,iv b2_1,AV.ls b2_2,bv b2_3] true false,ABlk.mk (List.drop 0 (List.take (0+n5*3) c5)++[bv t6,sv (bstr []),sv s1]) true true] fun r10 o10=>
 tailK 3 [0,1,6] (AH.mk [(1,ABlk.mk [AV.ls b2_0,iv b2_1,AV.ls b2_2,bv b2_3] true false),(0,ABlk.mk [AV.ls xs4,iv n9,AV.ls xs5,bv b7] true false),(6,ABlk.mk (List.drop 0 (List.take (0+n5*3) c5)++[bv t6,sv (bstr []),sv s1]) true true),(5,ABlk.mk [bv t6,sv (bstr []),sv s1] true true),(4,ABlk.mk [bv t6,sv (bstr []),sv s1] true false),(3,ABlk.mk [iv n,sv s,iv n1,iv n2] true false)] 7 none) [2,0,1] r10 o10)
 (br ((0+(n5+1)*3).ble (List.drop 0 (List.take (0+n5*3) c5)++[bv t6,sv (bstr []),sv s1]).length) (some ((AV.tup [bv true,AV.ptr 1 0,AV.ls (chunk (n5+1) 3 (List.take ((n5+1)*3) (List.drop 0 (List.drop 0 (List.take (0+n5*3) c5)++[bv t6,sv (bstr []),sv s1])))),iv 0],[BO.del,BO.set (ABlk.mk [AV.ls xs2,iv n8,AV.ls xs3,bv b4] true false),BO.del]))) none))) none) none))))))))
 (some ((AV.tup [bv true,AV.ptr 1 0,AV.ls [],iv 101],[BO.del,BO.set (ABlk.mk [AV.ls xs,iv n3,AV.ls xs1,bv b2] true false),BO.del])))))
 (br (fitsB (n5+1) 40) (br ((0+n5*3).ble c5.length) (askK D (Key.fn 99) [AV.agg [AV.ls b1_0,iv b1_1,AV.ls b1_2,bv b1_3],sv (bstr [45])] [] fun r3 o3=>
 unBool r3 fun b2=>
 unEnd o3<|
 br b2
 (askK D (Key.fn 100) [AV.agg [AV.ls b1_0,iv b1_1,AV.ls b1_2,bv b1_3]] [] fun r4 o4=>
 unAgg r4 fun cs1=>
 cLs cs1 fun xs l4=>
 cInt IntKind.i64 l4 fun n3 l5=>
 cLs l5 fun xs1 l6=>
 cBool l6 fun b3 l7=>
 unNil l7<|
 unEnd o4<|
 askK D (Key.lp 51 0) [AV.ptr 0 0,AV.ptr 1 0,AV.sl 2 0 (n5+1) 3,bv true] [ABlk.mk [AV.ls xs,iv n3,AV.ls xs1,bv b3] true false,ABlk.mk [AV.ls b2_0,iv b2_1,AV.ls b2_2,bv b2_3] true false,ABlk.mk (List.drop 0 (List.take (0+n5*3) c5)++[bv t6,sv (bstr []),sv (bstr [])]) true true] fun r5 o5=>
 tailK 3 [0,1,6] (AH.mk [(1,ABlk.mk [AV.ls b2_0,iv b2_1,AV.ls b2_2,bv b2_3] true false),(0,ABlk.mk [AV.ls xs,iv n3,AV.ls xs1,bv b3] true false),(6,ABlk.mk (List.drop 0 (List.take (0+n5*3) c5)++[bv t6,sv (bstr []),sv (bstr [])]) true true),(5,ABlk.mk [bv t6,sv (bstr []),sv (bstr [])] true true),(4,ABlk.mk [bv t6,sv (bstr []),sv (bstr [])] true false),(3,ABlk.mk [iv n,sv s,iv n1,iv n2] true false)] 7 none) [2,0,1] r5 o5)
 (askK D (Key.fn 99) [AV.agg [AV.ls b1_0,iv b1_1,AV.ls b1_2,bv b1_3],sv (bstr [43])] [] fun r4 o4=>
 unBool r4 fun b3=>
 unEnd o4<|
 br b3
 (askK D (Key.fn 100) [AV.agg [AV.ls b1_0,iv b1_1,AV.ls b1_2,bv b1_3]] [] fun r5 o5=>
 unAgg r5 fun cs1=>
 cLs cs1 fun xs l4=>
 cInt IntKind.i64 l4 fun n3 l5=>
 cLs l5 fun xs1 l6=>
 cBool l6 fun b4 l7=>
 unNil l7<|
 unEnd o5<|
 askK D (Key.lp 51 0) [AV.ptr 0 0,AV.ptr 1 0,AV.sl 2 0 (n5+1) 3,bv false] [ABlk.mk [AV.ls xs,iv n3,AV.ls xs1,bv b4] true false,ABlk.mk [AV.ls b2_0,iv b2_1,AV.ls b2_2,bv b2_3] true false,ABlk.mk (List.drop 0 (List.take (0+n5*3) c5)++[bv t6,sv (bstr []),sv (bstr [])]) true true] fun r6 o6=>
 tailK 3 [0,1,6] (AH.mk [(1,ABlk.mk [AV.ls b2_0,iv b2_1,AV.ls b2_2,bv b2_3] true false),(0,ABlk.mk [AV.ls xs,iv n3,AV.ls xs1,bv b4] true false),(6,ABlk.mk (List.drop 0 (List.take (0+n5*3) c5)++[bv t6,sv (bstr []),sv (bstr [])]) true true),(5,ABlk.mk [bv t6,sv (bstr []),sv (bstr [])] true true),(4,ABlk.mk [bv t6,sv (bstr []),sv (bstr [])] true false),(3,ABlk.mk [iv n,sv s,iv n1,iv n2] true false)] 7 none) [2,0,1] r6 o6)
 (br ((0+(n5+1)*3).ble (List.drop 0 (List.take (0+n5*3) c5)++[bv t6,sv (bstr []),sv (bstr [])]).length) (some ((AV.tup [bv true,AV.ptr 1 0,AV.ls (chunk (n5+1) 3 (List.take ((n5+1)*3) (List.drop 0 (List.drop 0 (List.take (0+n5*3) c5)++[bv t6,sv (bstr []),sv (bstr [])])))),iv 0],[BO.del,BO.set (ABlk.mk [AV.ls b1_0,iv b1_1,AV.ls b1_2,bv b1_3] true false),BO.del]))) none))) none) none)))))
 (some ((AV.tup [bv true,AV.ptr 1 0,AV.ls [],iv 101],[BO.del,BO.set (ABlk.mk [AV.ls b1_0,iv b1_1,AV.ls b1_2,bv b1_3] true false),BO.del])))):=by kernel_rfl

theorem e221(A:Ar)(D:Orc)(x0_0:List (List AV))(x0_1:Int)(x0_2:List (List AV))(x0_3:Bool):fnK A D ownC hn221 .n 221 mf221 [AV.agg [AV.ls x0_0,iv x0_1,AV.ls x0_2,bv x0_3]] [] =
 askK D (Key.fn 51) [AV.agg [AV.ls x0_0,iv x0_1,AV.ls x0_2,bv x0_3]] [] fun r o=>
 unTup r fun cs=>
 unCons cs fun c l=>
 unAgg c fun cs1=>
 cLs cs1 fun xs l1=>
 cInt IntKind.i64 l1 fun n l2=>
 cLs l2 fun xs1 l3=>
 cBool l3 fun b l4=>
 unNil l4<|
 cLs l fun xs2 l5=>
 cInt IntKind.i64 l5 fun n1 l6=>
 unNil l6<|
 unEnd o<|
 br (A.eq n1 0)
 (askK D (Key.lp 221 0) [AV.ptr 0 0,AV.ptr 1 0,AV.ptr 2 0,AV.ls xs2,iv (-1),iv 0] [ABlk.mk [AV.ls xs,iv n,AV.ls xs1,bv b] true false,ABlk.mk [AV.ls [],iv 0,AV.ls [],bv false] true false,ABlk.mk [iv 0,AV.ls [],AV.ls [],iv 0,sv (bstr []),sv (bstr []),AV.ls []] true false] fun r1 o1=>
 unTup r1 fun cs2=>
 unCons cs2 fun c1 l7=>
 br (axIs 1 c1)
 (unCons l7 fun c2 l8=>
 unPtr 0 0 c2<|
 unCons l8 fun c3 l9=>
 unPtr 1 0 c3<|
 unCons l9 fun c4 l10=>
 unPtr 2 0 c4<|
 cLs l10 fun xs3 l11=>
 cInt IntKind.i64 l11 fun n2 l12=>
 unNil l12<|
 unOut o1 fun c5 l13=>
 unSet true false c5 fun cs3=>
 cLs cs3 fun xs4 l14=>
 cInt IntKind.i64 l14 fun n3 l15=>
 cLs l15 fun xs5 l16=>
 cBool l16 fun b1 l17=>
 unNil l17<|
 unOut l13 fun c6 l18=>
 unSet true false c6 fun cs4=>
 cLs cs4 fun _ l19=>
 cInt IntKind.i64 l19 fun _ l20=>
 cLs l20 fun _ l21=>
 cBool l21 fun _ l22=>
 unNil l22<|
 unOut l18 fun c7 l23=>
 unSet true false c7 fun cs5=>
 cInt IntKind.i64 cs5 fun _ l24=>
 cLs l24 fun _ l25=>
 cLs l25 fun _ l26=>
 cInt IntKind.i64 l26 fun _ l27=>
 cStr l27 fun _ l28=>
 cStr l28 fun _ l29=>
 cLs l29 fun _ l30=>
 unNil l30<|
 unEnd l23<|
 br (A.lt n2 0)
 (some ((AV.tup [AV.agg [AV.ls xs4,iv n3,AV.ls xs5,bv b1],AV.agg [iv 0,AV.ls [],AV.ls [],iv 0,sv (bstr []),sv (bstr []),AV.ls []],iv 101],[])))
 (askK D (Key.fn 100) [AV.agg [AV.ls xs4,iv n3,AV.ls xs5,bv b1]] [] fun r2 o2=>
 unAgg r2 fun cs6=>
 cLs cs6 fun xs11 l31=>
 cInt IntKind.i64 l31 fun n7 l32=>
 cLs l32 fun xs12 l33=>
 cBool l33 fun b3 l34=>
 unNil l34<|
 unEnd o2<|
 askK D (Key.fn 51) [AV.agg [AV.ls xs11,iv n7,AV.ls xs12,bv b3]] [] fun r3 o3=>
 unTup r3 fun cs7=>
 unCons cs7 fun c8 l35=>
 unAgg c8 fun cs8=>
 cLs cs8 fun xs13 l36=>
 cInt IntKind.i64 l36 fun n8 l37=>
 cLs l37 fun xs14 l38=>
 cBool l38 fun b4 l39=>
 unNil l39<|
 cLs l35 fun xs15 l40=>
 cInt IntKind.i64 l40 fun n9 l41=>
 unNil l41<|
 unEnd o3<|
 br (A.eq n9 0)
 (some ((AV.tup [AV.agg [AV.ls xs13,iv n8,AV.ls xs14,bv b4],AV.agg [iv 2,AV.ls xs3,AV.ls xs15,iv n2,sv (bstr []),sv (bstr []),AV.ls []],iv 0],[])))
 (some ((AV.tup [AV.agg [AV.ls xs13,iv n8,AV.ls xs14,bv b4],AV.agg [iv 0,AV.ls [],AV.ls [],iv 0,sv (bstr []),sv (bstr []),AV.ls []],iv n9],[])))))
 (none))
 (some ((AV.tup [AV.agg [AV.ls xs,iv n,AV.ls xs1,bv b],AV.agg [iv 0,AV.ls [],AV.ls [],iv 0,sv (bstr []),sv (bstr []),AV.ls []],iv n1],[]))):=by kernel_rfl

theorem e221_0(A:Ar)(D:Orc)(b1_0:List (List AV))(b1_1:Int)(b1_2:List (List AV))(b1_3:Bool)(b2_0:List (List AV))(b2_1:Int)(b2_2:List (List AV))(b2_3:Bool)(b3_0:Int)(b3_1:List (List AV))(b3_2:List (List AV))(b3_3:Int)(b3_4:ByteArray)(b3_5:ByteArray)(b3_6:List (List AV))(t5:List (List AV))(t7:Int)(t8:Int):lpK A D ownC hn221 .n 221 0 (lpAt mf221 0).fst (lpAt mf221 0).snd [AV.ptr 0 0,AV.ptr 1 0,AV.ptr 2 0,AV.ls t5,iv t7,iv t8] [{ cells:=[AV.ls b1_0,iv b1_1,AV.ls b1_2,bv b1_3],st:=true,ex:=false },{ cells:=[AV.ls b2_0,iv b2_1,AV.ls b2_2,bv b2_3],st:=true,ex:=false },{ cells:=[iv b3_0,AV.ls b3_1,AV.ls b3_2,iv b3_3,sv b3_4,sv b3_5,AV.ls b3_6],st:=true,ex:=false }] =
 br (A.lt t8 6)
 (askK D (Key.fn 237) [iv t8] [] fun r o=>
 unStr r fun s=>
 unEnd o<|
 askK D (Key.fn 99) [AV.agg [AV.ls b1_0,iv b1_1,AV.ls b1_2,bv b1_3],sv s] [] fun r1 o1=>
 unBool r1 fun b=>
 unEnd o1<|
 br b
 (askK D (Key.lp 221 0) [AV.ptr 0 0,AV.ptr 1 0,AV.ptr 2 0,AV.ls t5,iv t8,iv (A.add IntKind.i64 t8 1)] [ABlk.mk [AV.ls b1_0,iv b1_1,AV.ls b1_2,bv b1_3] true false,ABlk.mk [AV.ls b2_0,iv b2_1,AV.ls b2_2,bv b2_3] true false,ABlk.mk [iv b3_0,AV.ls b3_1,AV.ls b3_2,iv b3_3,sv b3_4,sv b3_5,AV.ls b3_6] true false] fun r2 o2=>
 tailK 3 [0,1,2] (AH.mk [(2,ABlk.mk [iv b3_0,AV.ls b3_1,AV.ls b3_2,iv b3_3,sv b3_4,sv b3_5,AV.ls b3_6] true false),(1,ABlk.mk [AV.ls b2_0,iv b2_1,AV.ls b2_2,bv b2_3] true false),(0,ABlk.mk [AV.ls b1_0,iv b1_1,AV.ls b1_2,bv b1_3] true false)] 3 none) [0,1,2] r2 o2)
 (askK D (Key.lp 221 0) [AV.ptr 0 0,AV.ptr 1 0,AV.ptr 2 0,AV.ls t5,iv t7,iv (A.add IntKind.i64 t8 1)] [ABlk.mk [AV.ls b1_0,iv b1_1,AV.ls b1_2,bv b1_3] true false,ABlk.mk [AV.ls b2_0,iv b2_1,AV.ls b2_2,bv b2_3] true false,ABlk.mk [iv b3_0,AV.ls b3_1,AV.ls b3_2,iv b3_3,sv b3_4,sv b3_5,AV.ls b3_6] true false] fun r2 o2=>
 tailK 3 [0,1,2] (AH.mk [(2,ABlk.mk [iv b3_0,AV.ls b3_1,AV.ls b3_2,iv b3_3,sv b3_4,sv b3_5,AV.ls b3_6] true false),(1,ABlk.mk [AV.ls b2_0,iv b2_1,AV.ls b2_2,bv b2_3] true false),(0,ABlk.mk [AV.ls b1_0,iv b1_1,AV.ls b1_2,bv b1_3] true false)] 3 none) [0,1,2] r2 o2))
 (some ((AV.tup [iv 0,AV.ptr 0 0,AV.ptr 1 0,AV.ptr 2 0,AV.ls t5,iv t7],[BO.set (ABlk.mk [AV.ls b1_0,iv b1_1,AV.ls b1_2,bv b1_3] true false),BO.set (ABlk.mk [AV.ls b2_0,iv b2_1,AV.ls b2_2,bv b2_3] true false),BO.set (ABlk.mk [iv b3_0,AV.ls b3_1,AV.ls b3_2,iv b3_3,sv b3_4,sv b3_5,AV.ls b3_6] true false)]))):=by kernel_rfl

theorem e52(A:Ar)(D:Orc)(x0_0:List (List AV))(x0_1:Int)(x0_2:List (List AV))(x0_3:Bool)(x1:Int):fnK A D ownC hn52 (.b (.b (.b (.b (.b (.b (.b .n (.b (.b .n (.b .n (.t .n))) .n)) .n) .n) .n) .n) .n) (.b .n (.b .n (.b .n (.b .n (.b .n (.b .n (.b .n (.f .n))))))))) 52 mf52 [AV.agg [AV.ls x0_0,iv x0_1,AV.ls x0_2,bv x0_3],iv x1] [] =
 br (A.eq x1 0)
 (askK D (Key.fn 101) [AV.agg [AV.ls x0_0,iv x0_1,AV.ls x0_2,bv x0_3]] [] fun r o=>
 unAgg r fun cs=>
 cInt IntKind.i64 cs fun n l=>
 cStr l fun _ l1=>
 cInt IntKind.i64 l1 fun _ l2=>
 cInt IntKind.i64 l2 fun _ l3=>
 unNil l3<|
 unEnd o<|
 br (A.eq n 5)
 (br (A.eq x1 0) (some ((AV.tup [AV.agg [iv 0,iv 0],iv 0],[]))) none)
 (br (A.eq 101 0)
 (some ((AV.tup [AV.agg [iv 0,iv 0],iv 0],[])))
 (askK D (Key.fn 101) [AV.agg [AV.ls x0_0,iv x0_1,AV.ls x0_2,bv x0_3]] [] fun r1 o1=>
 unAgg r1 fun cs1=>
 cInt IntKind.i64 cs1 fun _ l4=>
 cStr l4 fun _ l5=>
 cInt IntKind.i64 l5 fun n4 l6=>
 cInt IntKind.i64 l6 fun n5 l7=>
 unNil l7<|
 unEnd o1<|
 some ((AV.tup [AV.agg [iv n4,iv n5],iv 101],[])))))
 (br (A.eq x1 0) none (askK D (Key.fn 101) [AV.agg [AV.ls x0_0,iv x0_1,AV.ls x0_2,bv x0_3]] [] fun r o=>
 unAgg r fun cs=>
 cInt IntKind.i64 cs fun _ l=>
 cStr l fun _ l1=>
 cInt IntKind.i64 l1 fun n1 l2=>
 cInt IntKind.i64 l2 fun n2 l3=>
 unNil l3<|
 unEnd o<|
 some ((AV.tup [AV.agg [iv n1,iv n2],iv x1],[])))):=by kernel_rfl
end Go.Proofs.YtlmhajfbpplpoaaGreat
namespace Go.Proofs.YtlmhajfbpplpoaaGreat
open Go.RowKit

section
variable {D:Orc}
structure RNameF (D:Orc):Prop where
 name:∀ s:List UInt8,s.length<4611686018427387904->D.ask (.fn 77) [sv (bstr s)] []=some (bv (nameB s),[])
theorem place_lp(K:Knows ownC tabRa D)(xs:List ByteArray)(hx:xs.length<4611686018427387904)(s:ByteArray):∀(k i:Nat),xs.length-i=k->D.ask (.lp 121 0) [.ls (xs.map eS),sv s,iv (i:Int)] []=some (placeR i ((xs.drop i).findIdx? (s = ·)),[]):=by
 intro k
 induction k with
 |zero=>
  intro i hi
  refine K.lp' hn121 _ rfl (by kernel_rfl) ((e121_0 ..).trans ?_)
  have:xs.drop i=[]:=List.drop_eq_nil_of_le (by omega)
  simp only[r_lt,lenR_map,this,br_if]
  rw[if_neg (by simp;omega)]
  rfl
 |succ k ih=>
  intro i hi
  have hlt:i<xs.length:=by omega
  refine K.lp' hn121 _ rfl (by kernel_rfl) ((e121_0 ..).trans ?_)
  have e1:xs.drop i=xs[i]::xs.drop (i+1):=List.drop_eq_getElem_cons hlt
  have ih':=ih (i+1) (by omega)
  have e2:realA.add .i64 (i:Int) 1=((i+1:Nat):Int):=add1 (by omega)
  simp only[r_lt,lenR_map,unI_n,nthK_map,List.getElem?_eq_getElem hlt,eS,cStr_sv,unNil_nil,r_seq,e2,br_if]
  rw[if_pos (by simpa using hlt),e1,List.findIdx?_cons]
  by_cases h:s=xs[i]
  .simp[←h,placeR]
  .rw[if_neg (by simpa using fun e=>h e.symm),if_neg (by simpa using h)]
   refine(askK_of ih' _).trans ?_
   cases (xs.drop (i+1)).findIdx? (s = ·) with
   |none=>rfl
   |some j=>
    simp only[placeR,Option.map_some,show i+(j+1)=i+1+j by omega]
    rfl
theorem place_ok(K:Knows ownC tabRa D)(xs:List ByteArray)(hx:xs.length<4611686018427387904)(s:ByteArray):D.ask (.fn 121) [.ls (xs.map eS),sv s] []=some (iv (placeI (xs.findIdx? (s = ·))),[]):=by
 refine K.fn' hn121 _ rfl ((e121 ..).trans ?_)
 refine(askK_of (place_lp K xs hx s _ 0 rfl) _).trans ?_
 rw[List.drop_zero]
 cases xs.findIdx? (s = ·) with
 |none=>rfl
 |some j=>simp only[placeR,ND,Nat.zero_add];rfl
theorem in_ok(K:Knows ownC tabRa D)(xs:List ByteArray)(hx:xs.length<4611686018427387904)(s:ByteArray):D.ask (.fn 103) [.ls (xs.map eS),sv s] []=some (bv (decide (s∈xs)),[]):=by
 refine K.fn' hn103 _ rfl ((e103 ..).trans ?_)
 refine(askK_of (place_ok K xs hx s) _).trans ?_
 simp only[ND,r_le,placeI_mem]
 cases decide (s∈xs)<;>rfl
theorem next_ok(K:Knows ownC tabRa D)(ts:List Tk)(vars:List ByteArray)(kn:Bool)(i:Nat)(hts:ts.length<4611686018427387904):D.ask (.fn 101) [cuA ts vars kn i] []=some (.agg (eTk (nx ts i)),[]):=by
 refine K.fn' hn101 _ rfl ((e101 ..).trans ?_)
 simp only[r_eq,r_lt,r_le,lenR_map,br_if]
 by_cases h0:ts=[]
 .subst h0
  rw[if_pos (by simp)]
  rfl
 .have hl:0<ts.length:=List.length_pos_iff.2 h0
  rw[if_neg (by simp[h0]),if_neg (by simp)]
  unfold nx
  by_cases h:i<ts.length
  .rw[if_neg (by simp;omega),unI_n,nthK_some (List.getElem?_eq_getElem h),List.getElem?_eq_getElem h]
   simp only[eTk,ND]
  .have e1:realA.sub .i64 (ts.length:Int) 1=((ts.length-1:Nat):Int):=by rw[r_sub (by omega) (by omega)];omega
   rw[if_pos (by simp;omega),e1,unI_n,nthK_some (nth_last ts h0 ⟨5,[],0,0⟩),List.getElem?_eq_none (show ts.length<=i by omega)]
   simp only[eTk,ND]
theorem tis_ok(K:Knows ownC tabRa D)(ts:List Tk)(vars:List ByteArray)(kn:Bool)(i:Nat)(hts:ts.length<4611686018427387904)(s:List UInt8):D.ask (.fn 99) [cuA ts vars kn i,sv (bstr s)] []=some (bv (isT ts i s),[]):=by
 refine K.fn' hn99 _ rfl ((e99 ..).trans ?_)
 refine(askK_of (next_ok K ts vars kn i hts) _).trans ?_
 unfold isT
 simp only[eTk,ND,ci0,ci1,ci2,ci3,ci4,ci5,ci6,r_lt,r_le,r_eq,r_seq,r_slen,r_cat,r_beq,br_if,bstr_inj]
 by_cases h1:(nx ts i).text=s<;>by_cases h2:(nx ts i).kind=1<;>by_cases h3:(nx ts i).kind=2<;>by_cases h4:(nx ts i).kind=4<;>simp[h1,h2,h3,h4]
theorem on_ok(K:Knows ownC tabRa D)(ts:List Tk)(vars:List ByteArray)(kn:Bool)(i:Nat)(hi:i<4611686018427387904):D.ask (.fn 100) [cuA ts vars kn i] []=some (cuA ts vars kn (i+1),[]):=by
 refine K.fn' hn100 _ rfl ((e100 ..).trans ?_)
 rw[add1 hi]
 rfl
theorem tname_ok(K:Knows ownC tabRa D)(L:RNameF D)(ts:List Tk)(vars:List ByteArray)(kn:Bool)(i:Nat)(hts:ts.length<4611686018427387904)(hs:ShortT ts):D.ask (.fn 102) [cuA ts vars kn i] []=some (bv (isN ts i),[]):=by
 refine K.fn' hn102 _ rfl ((e102 ..).trans ?_)
 refine(askK_of (next_ok K ts vars kn i hts) _).trans ?_
 unfold isN
 simp only[eTk,ND,ci0,ci1,ci2,ci3,ci4,ci5,ci6,r_lt,r_le,r_eq,r_seq,r_slen,r_cat,r_beq]
 by_cases h:(nx ts i).kind=1
 .simp only[h,decide_true,ND]
  refine(askK_of (L.name _ (hs i)) _).trans ?_
  simp only[ND]
  cases nameB (nx ts i).text<;>rfl
 .simp only[h,decide_false,ND]
  rfl
end
end Go.Proofs.YtlmhajfbpplpoaaGreat
namespace Go.Proofs.YtlmhajfbpplpoaaGreat
open Go.RowKit

section
variable {D:Orc}
theorem eMo_len(m:Mo):(eMo m).length=3:=rfl
theorem begP_mono{ts:List Tk}{vars:List ByteArray}{kn:Bool}{i:Nat}{neg:Bool}(h:begP ts i=false):(monoP ts vars kn i neg).1=i/\(monoP ts vars kn i neg).2.1=101:=by
 unfold begP at h
 simp only[Bool.or_eq_false_iff,decide_eq_false_iff_not]at h
 unfold monoP varP
 rw[if_neg h.1,if_pos h.2]
 exact⟨rfl,rfl⟩
theorem sum_lp(K:Knows ownC tabEa D)(L:NameF D)(ts:List Tk)(vars:List ByteArray)(kn:Bool)(hts:ts.length<4611686018427387904)(hv:vars.length<4611686018427387904)(hs:ShortT ts):∀(k:Nat) (out:List Mo) (neg:Bool) (i:Nat),out.length+k=64->i+4*(k+1)<4611686018427387904->
  D.ask (.lp 49 0) [.ptr 0 0,.sl 1 0 out.length 3,bv neg] [cuB ts vars kn i,ABlk.mk (rowC eMo out) true true]=some (.tup [bv true,.ptr 0 0,.ls ((sumL ts vars kn k out neg i).2.2.map eMo),iv ((sumL ts vars kn k out neg i).2.1:Int)],[.set (cuB ts vars kn (sumL ts vars kn k out neg i).1),.del]):=by
 intro k
 induction k with
 |zero=>
  intro out neg i hk hi
  refine K.lp' hn49 _ rfl (by kernel_rfl) ((e49_0 ..).trans ?_)
  have h64:decide ((out.length:Int)=64)=true:=by simp;omega
  simp only[r_eq,h64,br_t]
  refine(askK_of (begins_ok K L ts vars kn i hts hs (by omega)) _).trans ?_
  simp only[cuB,ND]
  unfold sumL
  cases hb:begP ts i with
  |true=>rfl
  |false=>
   simp only[ND]
   refine(askK_of (mono_ok K L ts vars kn i hts hv hs (by omega) neg) _).trans ?_
   obtain⟨h1,h2⟩:=begP_mono (vars:=vars) (kn:=kn) (neg:=neg) hb
   simp only[cuB,eMo,ND,h1,h2]
   rfl
 |succ k ih=>
  intro out neg i hk hi
  refine K.lp' hn49 _ rfl (by kernel_rfl) ((e49_0 ..).trans ?_)
  have h64:decide ((out.length:Int)=64)=false:=by simp;omega
  simp only[r_eq,h64,br_f]
  refine(askK_of (mono_ok K L ts vars kn i hts hv hs (by omega) neg) _).trans ?_
  have hle:=monoP_le ts vars kn i neg
  cases hb:begP ts i with
  |false=>
   obtain⟨h1,h2⟩:=begP_mono (vars:=vars) (kn:=kn) (neg:=neg) hb
   have e:sumL ts vars kn (k+1) out neg i=(i,101,[]):=by unfold sumL;rw[if_pos hb]
   rw[e]
   simp only[cuB,eMo,ND,h1,h2]
   rfl
  |true=>
   by_cases he:(monoP ts vars kn i neg).2.1=0
   .have e3:List.drop 0 (List.take (0+out.length*3) (rowC eMo out))++[bv (monoP ts vars kn i neg).2.2.neg,sv (monoP ts vars kn i neg).2.2.num,sv (monoP ts vars kn i neg).2.2.var]=rowC eMo (out++[(monoP ts vars kn i neg).2.2]):=by
     rw[List.drop_zero,rowC_all eMo_len out (by omega)]
     exact rowC_snoc eMo out _
    have hf:fitsB (out.length+1) 40=true:=fits_small (by omega) (by omega)
    have hb1:Nat.ble (0+out.length*3) (rowC eMo out).length=true:=ble_row eMo_len out (by omega)
    have hd:decide (((monoP ts vars kn i neg).2.1:Int)=0)=true:=by rw[he];rfl
    have hb2:Nat.ble (0+(out.length+1)*3) (rowC eMo (out++[(monoP ts vars kn i neg).2.2])).length=true:=ble_row eMo_len _ (by simp)
    have hc:chunk (out.length+1) 3 (List.take ((out.length+1)*3) (List.drop 0 (rowC eMo (out++[(monoP ts vars kn i neg).2.2]))))=(out++[(monoP ts vars kn i neg).2.2]).map eMo:=by
     rw[List.drop_zero]
     exact chunk_of eMo_len _ (by simp)
    simp only[cuB,eMo,ND,r_eq,hd,hf,hb1,e3,hb2,hc]
    refine(askK_of (is_ok K ts vars kn _ hts (by omega) _) _).trans ?_
    have ih1:=ih (out++[(monoP ts vars kn i neg).2.2]) true ((monoP ts vars kn i neg).1+1) (by simp;omega) (by omega)
    have ih2:=ih (out++[(monoP ts vars kn i neg).2.2]) false ((monoP ts vars kn i neg).1+1) (by simp;omega) (by omega)
    rw[List.length_append,List.length_singleton]at ih1 ih2
    have e:sumL ts vars kn (k+1) out neg i=if isT ts (monoP ts vars kn i neg).1 [45] then sumL ts vars kn k (out++[(monoP ts vars kn i neg).2.2]) true ((monoP ts vars kn i neg).1+1)
      else if isT ts (monoP ts vars kn i neg).1 [43] then sumL ts vars kn k (out++[(monoP ts vars kn i neg).2.2]) false ((monoP ts vars kn i neg).1+1)
      else((monoP ts vars kn i neg).1,0,out++[(monoP ts vars kn i neg).2.2]):=by
     rw[sumL,hb,if_neg (by simp)]
     rw[if_neg (by simp[he])]
    rw[e]
    simp only[cuB,ND]
    have tk:=take_ok K ts vars kn (monoP ts vars kn i neg).1 hts (by omega) [45]
    have tp:=take_ok K ts vars kn (monoP ts vars kn i neg).1 hts (by omega) [43]
    cases h45:isT ts (monoP ts vars kn i neg).1 [45]with
    |true=>
     rw[h45]at tk
     simp only[ND,if_true]
     refine(askK_of tk _).trans ?_
     simp only[cuB,ND,if_true]
     refine(askK_of ih1 _).trans ?_
     rfl
    |false=>
     rw[h45]at tk
     simp only[ND]
     refine(askK_of tk _).trans ?_
     simp only[cuB,ND,Bool.false_eq_true,if_false]
     refine(askK_of tp _).trans ?_
     simp only[cuB,ND]
     cases h43:isT ts (monoP ts vars kn i neg).1 [43]with
     |true=>
      simp only[ND,if_true]
      refine(askK_of ih2 _).trans ?_
      rfl
     |false=>rfl
   .have e:sumL ts vars kn (k+1) out neg i=((monoP ts vars kn i neg).1,(monoP ts vars kn i neg).2.1,[]):=by
     rw[sumL,hb,if_neg (by simp)]
     rw[if_pos he]
    rw[e]
    have hd:decide (((monoP ts vars kn i neg).2.1:Int)=0)=false:=by simp;exact he
    simp only[cuB,eMo,ND,r_eq,hd]
    rfl
theorem sum_ok(K:Knows ownC tabEa D)(L:NameF D)(ts:List Tk)(vars:List ByteArray)(kn:Bool)(hts:ts.length<4611686018427387904)(hv:vars.length<4611686018427387904)(hs:ShortT ts)(i:Nat)(hi:i+300<4611686018427387904):D.ask (.fn 49) [.ptr 0 0] [cuB ts vars kn i]=some (.tup [.ls ((sumP ts vars kn i).2.2.map eMo),iv ((sumP ts vars kn i).2.1:Int)],[.set (cuB ts vars kn (sumP ts vars kn i).1)]):=by
 refine K.fn' hn49 _ rfl ((e49 ..).trans ?_)
 refine(askK_of (take_ok K ts vars kn i hts (by omega) _) _).trans ?_
 unfold sumP
 simp only[cuB,ND]
 cases isT ts i [45]with
 |true=>
  simp only[ND,if_true]
  refine(askK_of (sum_lp K L ts vars kn hts hv hs 64 [] true (i+1) rfl (by omega)) _).trans ?_
  rfl
 |false=>
  simp only[ND,Bool.false_eq_true,if_false]
  refine(askK_of (sum_lp K L ts vars kn hts hv hs 64 [] false i rfl (by omega)) _).trans ?_
  rfl
end
end Go.Proofs.YtlmhajfbpplpoaaGreat
namespace Go.Proofs.YtlmhajfbpplpoaaGreat
open Go.RowKit
def hs262:Hints:=[⟨19,[true,true,false,false,false,false,false,true,true],[],[],[(0,([false,false,false,false,true],([],[]))),(1,([],([],[])))]⟩]
noncomputable def mf262:MFn:=mfD Tryz.prog entsC hs262 false true 262
def hn262:Hnt:=⟨[(93,(.bool,[.box [.ls,.int .i64,.ls,.bool]]))],[(0,[(0,([.int .i64],[.box [.ls,.int .i64,.ls,.bool]])),(1,([],[.box [.ls,.int .i64,.ls,.bool]]))])],[(14,[.str]),(15,[.str])]⟩
def hs164:Hints:=[⟨46,[true,true,true,true,true,false,false,false,false,false,true,false,true,true],[],[10,12],[(1,([true,false,false,false,false,false,false,false,false,false,true,false,true,true],([],[])))]⟩]
noncomputable def mf164:MFn:=mfD Tryz.prog entsC hs164 false true 164
def hs249:Hints:=[]
noncomputable def mf249:MFn:=mfD Tryz.prog entsC hs249 false true 249
def hn249:Hnt:=⟨[(49,(.tup [.ls,.int .i64],[.box [.ls,.int .i64,.ls,.bool]])),(90,(.ls,[])),(262,(.int .i64,[.box [.ls,.int .i64,.ls,.bool]]))],[],[]⟩
def hs220:Hints:=[]
noncomputable def mf220:MFn:=mfD Tryz.prog entsC hs220 false true 220
def hs165:Hints:=[]
noncomputable def mf165:MFn:=mfD Tryz.prog entsC hs165 false true 165
def hs104:Hints:=[]
noncomputable def mf104:MFn:=mfD Tryz.prog entsC hs104 false true 104
def hs54:Hints:=[]
noncomputable def mf54:MFn:=mfD Tryz.prog entsC hs54 false true 54
noncomputable def tabEb:List (Nat × MFn):=[(262,mf262),(164,mf164),(249,mf249),(220,mf220),(165,mf165),(104,mf104),(54,mf54)]
theorem e262(A:Ar)(D:Orc)(x0:List (List AV))(p_0:List (List AV))(p_1:Int)(p_2:List (List AV))(p_3:Bool):fnK A D ownC hn262 .n 262 mf262 [AV.ls x0,AV.fn (Fn.func 93) [AV.ptr 0 0] []] [{ cells:=[AV.ls p_0,iv p_1,AV.ls p_2,bv p_3],st:=true,ex:=false }] =
 askK D (Key.lp 262 0) [AV.ls x0,AV.fn (Fn.func 93) [AV.ptr 0 0] [],iv ↑(lenR x0),iv 0] [ABlk.mk [AV.ls p_0,iv p_1,AV.ls p_2,bv p_3] true false] fun r o=>
 unTup r fun cs=>
 unCons cs fun c l=>
 br (axIs 0 c)
 (cInt IntKind.i64 l fun n l1=>
 unNil l1<|
 unOut o fun c1 l2=>
 unSet true false c1 fun cs1=>
 cLs cs1 fun xs l3=>
 cInt IntKind.i64 l3 fun n1 l4=>
 cLs l4 fun xs1 l5=>
 cBool l5 fun b l6=>
 unNil l6<|
 unEnd l2<|
 some ((iv n,[BO.set (ABlk.mk [AV.ls xs,iv n1,AV.ls xs1,bv b] true false)])))
 (br (axIs 1 c)
 (unNil l<|
 unOut o fun c1 l1=>
 unSet true false c1 fun cs1=>
 cLs cs1 fun xs l2=>
 cInt IntKind.i64 l2 fun n l3=>
 cLs l3 fun xs1 l4=>
 cBool l4 fun b l5=>
 unNil l5<|
 unEnd l1<|
 some ((iv (-1),[BO.set (ABlk.mk [AV.ls xs,iv n,AV.ls xs1,bv b] true false)])))
 (none)):=by kernel_rfl

theorem e262_0(A:Ar)(D:Orc)(x0:List (List AV))(p_0:List (List AV))(p_1:Int)(p_2:List (List AV))(p_3:Bool)(t7:Int)(t8:Int):lpK A D ownC hn262 .n 262 0 (lpAt mf262 0).fst (lpAt mf262 0).snd [AV.ls x0,AV.fn (Fn.func 93) [AV.ptr 0 0] [],iv t7,iv t8] [{ cells:=[AV.ls p_0,iv p_1,AV.ls p_2,bv p_3],st:=true,ex:=false }] =
 br (A.lt t8 t7)
 (unI t8 fun i=>
 nthK x0 i fun cs=>
 cStr cs fun s l=>
 unNil l<|
 askK D (Key.fn 93) [AV.ptr 0 0,sv s] [ABlk.mk [AV.ls p_0,iv p_1,AV.ls p_2,bv p_3] true false] fun r o=>
 unBool r fun b=>
 unOut o fun c l1=>
 unSet true false c fun cs1=>
 cLs cs1 fun xs l2=>
 cInt IntKind.i64 l2 fun n l3=>
 cLs l3 fun xs1 l4=>
 cBool l4 fun b1 l5=>
 unNil l5<|
 unEnd l1<|
 br b
 (some ((AV.tup [bv true,iv t8],[BO.set (ABlk.mk [AV.ls xs,iv n,AV.ls xs1,bv b1] true false)])))
 (askK D (Key.lp 262 0) [AV.ls x0,AV.fn (Fn.func 93) [AV.ptr 0 0] [],iv t7,iv (A.add IntKind.i64 t8 1)] [ABlk.mk [AV.ls xs,iv n,AV.ls xs1,bv b1] true false] fun r1 o1=>
 tailK 1 [0] (AH.mk [(0,ABlk.mk [AV.ls xs,iv n,AV.ls xs1,bv b1] true false)] 1 none) [0] r1 o1))
 (some ((AV.tup [iv 0],[BO.keep]))):=by kernel_rfl

theorem e249(A:Ar)(D:Orc)(p0_0:List (List AV))(p0_1:Int)(p0_2:List (List AV))(p0_3:Bool):fnK A D ownC hn249 .n 249 mf249 [AV.ptr 0 0] [{ cells:=[AV.ls p0_0,iv p0_1,AV.ls p0_2,bv p0_3],st:=true,ex:=false }] =
 askK D (Key.fn 49) [AV.ptr 0 0] [ABlk.mk [AV.ls p0_0,iv p0_1,AV.ls p0_2,bv p0_3] true false] fun r o=>
 unTup r fun cs=>
 cLs cs fun xs l=>
 cInt IntKind.i64 l fun n l1=>
 unNil l1<|
 unOut o fun c l2=>
 unSet true false c fun cs1=>
 cLs cs1 fun xs1 l3=>
 cInt IntKind.i64 l3 fun n1 l4=>
 cLs l4 fun xs2 l5=>
 cBool l5 fun b l6=>
 unNil l6<|
 unEnd l2<|
 br (A.eq n 0)
 (askK D (Key.fn 90) [] [] fun r1 o1=>
 unLs r1 fun xs3=>
 unEnd o1<|
 askK D (Key.fn 262) [AV.ls xs3,AV.fn (Fn.func 93) [AV.ptr 0 0] []] [ABlk.mk [AV.ls xs1,iv n1,AV.ls xs2,bv b] true false] fun r2 o2=>
 unInt IntKind.i64 r2 fun n2=>
 unOut o2 fun c1 l7=>
 unSet true false c1 fun cs2=>
 cLs cs2 fun xs4 l8=>
 cInt IntKind.i64 l8 fun n3 l9=>
 cLs l9 fun xs5 l10=>
 cBool l10 fun b1 l11=>
 unNil l11<|
 unEnd l7<|
 br (A.lt n2 0)
 (some ((AV.tup [AV.agg [iv 0,AV.ls [],AV.ls [],iv 0,sv (bstr []),sv (bstr []),AV.ls []],iv 101],[BO.set (ABlk.mk [AV.ls xs4,iv n3,AV.ls xs5,bv b1] true false)])))
 (askK D (Key.fn 49) [AV.ptr 0 0] [ABlk.mk [AV.ls xs4,iv n3,AV.ls xs5,bv b1] true false] fun r3 o3=>
 unTup r3 fun cs3=>
 cLs cs3 fun xs6 l12=>
 cInt IntKind.i64 l12 fun n4 l13=>
 unNil l13<|
 unOut o3 fun c2 l14=>
 unSet true false c2 fun cs4=>
 cLs cs4 fun xs7 l15=>
 cInt IntKind.i64 l15 fun n5 l16=>
 cLs l16 fun xs8 l17=>
 cBool l17 fun b2 l18=>
 unNil l18<|
 unEnd l14<|
 br (A.eq n4 0)
 (some ((AV.tup [AV.agg [iv 2,AV.ls xs,AV.ls xs6,iv n2,sv (bstr []),sv (bstr []),AV.ls []],iv 0],[BO.set (ABlk.mk [AV.ls xs7,iv n5,AV.ls xs8,bv b2] true false)])))
 (some ((AV.tup [AV.agg [iv 0,AV.ls [],AV.ls [],iv 0,sv (bstr []),sv (bstr []),AV.ls []],iv n4],[BO.set (ABlk.mk [AV.ls xs7,iv n5,AV.ls xs8,bv b2] true false)])))))
 (some ((AV.tup [AV.agg [iv 0,AV.ls [],AV.ls [],iv 0,sv (bstr []),sv (bstr []),AV.ls []],iv n],[BO.set (ABlk.mk [AV.ls xs1,iv n1,AV.ls xs2,bv b] true false)]))):=by kernel_rfl

end Go.Proofs.YtlmhajfbpplpoaaGreat
namespace Go.Proofs.YtlmhajfbpplpoaaGreat
open Go.RowKit

section
variable {D:Orc}
def eOp(s:List UInt8):List AV:=[sv (bstr s)]
theorem compares_ok(K:Knows ownC tabEa D):D.ask (.fn 90) [] []=some (.ls (opsL.map eOp),[]):=
 K.fn' hn90 _ rfl ((e90 ..).trans rfl)
def keepC(b:Bool)(x:ABlk):List BO:=if b then [.set x] else [.keep]
def pickR(ts:List Tk)(vars:List ByteArray)(kn:Bool)(i j:Nat)(b:Bool):Option Nat->AV × List BO
 |some m=>(.tup [bv true,iv ((j+m:Nat):Int)],[.set (cuB ts vars kn (i+1))])
 |none=>(.tup [iv 0],keepC b (cuB ts vars kn i))
theorem pick_lp(K:Knows ownC tabEa D)(Kb:Knows ownC tabEb D){ts:List Tk}(H:Toks ts)(vars:List ByteArray)(kn:Bool)(i:Nat)(hi:i<=ts.length)(xs:List (List UInt8))(hx:xs.length<4611686018427387904):∀(k j:Nat),xs.length-j=k->
  D.ask (.lp 262 0) [.ls (xs.map eOp),.fn (.func 93) [.ptr 0 0] [],iv (xs.length:Int),iv (j:Int)] [cuB ts vars kn i]=some (pickR ts vars kn i j (decide (j<xs.length)) ((xs.drop j).findIdx? (isT ts i))):=by
 have hl:=H.len
 intro k
 induction k with
 |zero=>
  intro j hj
  refine Kb.lp' hn262 _ rfl (by kernel_rfl) ((e262_0 ..).trans ?_)
  have h1:xs.drop j=[]:=List.drop_eq_nil_of_le (by omega)
  have h2:decide ((j:Int)<(xs.length:Int))=false:=by simp;omega
  have h3:decide (j<xs.length)=false:=by simp;omega
  simp only[r_lt,h1,h2,h3,br_f]
  rfl
 |succ k ih=>
  intro j hj
  have hlt:j<xs.length:=by omega
  refine Kb.lp' hn262 _ rfl (by kernel_rfl) ((e262_0 ..).trans ?_)
  have e1:xs.drop j=xs[j]::xs.drop (j+1):=List.drop_eq_getElem_cons hlt
  have ih':=ih (j+1) (by omega)
  have h2:decide ((j:Int)<(xs.length:Int))=true:=by simp;omega
  have h3:decide (j<xs.length)=true:=by simp;omega
  simp only[r_lt,h2,h3,br_t,unI_n,nthK_map,List.getElem?_eq_getElem hlt,eOp,cStr_sv,unNil_nil,e1,List.findIdx?_cons]
  refine(askK_of (take_ok K ts vars kn i (by omega) (by omega) _) _).trans ?_
  simp only[cuB,ND]
  cases hT:isT ts i xs[j]with
  |true=>
   simp only[ND,if_true]
   rfl
  |false=>
   simp only[ND,Bool.false_eq_true,if_false,add1 (show j<4611686018427387904 by omega)]
   refine(askK_of ih' _).trans ?_
   cases (xs.drop (j+1)).findIdx? (isT ts i) with
   |none=>cases decide (j+1<xs.length)<;>rfl
   |some m=>
    simp only[pickR,Option.map_some,show j+(m+1)=j+1+m by omega]
    rfl
def opAt(ts:List Tk)(i:Nat):Nat:=match opP ts i with
 |some _=>i+1
 |none=>i
theorem pick_ok(K:Knows ownC tabEa D)(Kb:Knows ownC tabEb D){ts:List Tk}(H:Toks ts)(vars:List ByteArray)(kn:Bool)(i:Nat)(hi:i<=ts.length):D.ask (.fn 262) [.ls (opsL.map eOp),.fn (.func 93) [.ptr 0 0] []] [cuB ts vars kn i]=some (iv (placeI (opP ts i)),[.set (cuB ts vars kn (opAt ts i))]):=by
 refine Kb.fn' hn262 _ rfl ((e262 ..).trans ?_)
 rw[lenR_map]
 refine(askK_of (pick_lp K Kb H vars kn i hi opsL (by decide) _ 0 rfl) _).trans ?_
 rw[List.drop_zero]
 unfold opAt
 show _=some (iv (placeI (opP ts i)),_)
 unfold opP
 cases opsL.findIdx? (isT ts i) with
 |none=>rfl
 |some j=>simp only[pickR,cuB,ND,Nat.zero_add];rfl
theorem compare_ok(K:Knows ownC tabEa D)(Kb:Knows ownC tabEb D)(L:NameF D){ts:List Tk}(H:Toks ts)(vars:List ByteArray)(kn:Bool)(hv:vars.length<4611686018427387904)(i:Nat)(hi:i<=ts.length):D.ask (.fn 249) [.ptr 0 0] [cuB ts vars kn i]=some (.tup [.agg (eTr (cmpP ts vars kn i).2.2),iv ((cmpP ts vars kn i).2.1:Int)],[.set (cuB ts vars kn (cmpP ts vars kn i).1)]):=by
 have hl:=H.len
 refine Kb.fn' hn249 _ rfl ((e249 ..).trans ?_)
 refine(askK_of (sum_ok K L ts vars kn (by omega) hv H.short i (by omega)) _).trans ?_
 have m:=sumP_far H vars kn hi
 unfold cmpP
 simp only[cuB,ND,r_eq,ci0]
 by_cases h0:(sumP ts vars kn i).2.1=0
 .simp only[h0,decide_true,ND,ne_eq,not_true,if_false]
  refine(askK_of (compares_ok K) _).trans ?_
  simp only[ND]
  refine(askK_of (pick_ok K Kb H vars kn _ m.le) _).trans ?_
  simp only[cuB,ND,r_lt]
  unfold opAt
  cases ho:opP ts (sumP ts vars kn i).1 with
  |none=>rfl
  |some op=>
   have h1:decide (placeI (some op)<0)=false:=decide_eq_false (show ¬ ((op:Int)<0) by omega)
   have h2:=opP_far H ho
   simp only[h1,ND]
   refine(askK_of (sum_ok K L ts vars kn (by omega) hv H.short ((sumP ts vars kn i).1+1) (by omega)) _).trans ?_
   simp only[cuB,ND,r_eq,ci0]
   by_cases h3:(sumP ts vars kn ((sumP ts vars kn i).1+1)).2.1=0
   .simp only[h3,decide_true,ND,ne_eq,not_true,if_false]
    rfl
   .simp only[h3,decide_false,ND,ne_eq,not_false_eq_true,if_true]
    rfl
 .simp only[h0,decide_false,ND,ne_eq,not_false_eq_true,if_true]
  rfl
end
end Go.Proofs.YtlmhajfbpplpoaaGreat
namespace Go.Proofs.YtlmhajfbpplpoaaGreat
open Go.RowKit

theorem br_eqT{a b:Int}(h:a=b){x y:KR}:br (realA.eq a b) x y=x:=by rw[r_eq,decide_eq_true h];rfl
theorem br_eqF{a b:Int}(h:¬ a=b){x y:KR}:br (realA.eq a b) x y=y:=by rw[r_eq,decide_eq_false h];rfl
set_option linter.unusedSectionVars false
section
variable {D:Orc}
def trB(x:Tr):ABlk:=ABlk.mk (eTr x) true false
variable (K:Knows ownC tabEa D) (Kb:Knows ownC tabEb D) (L:NameF D) {ts:List Tk} (H:Toks ts) (vars:List ByteArray) (kn:Bool) (hv:vars.length<4611686018427387904)
include K Kb L H hv
end
end Go.Proofs.YtlmhajfbpplpoaaGreat
