/-
  Functions of the program as trees: what a call comes to.
  Functions of the program as trees: what a call comes to.
  Functions of the program as trees: what a call comes to.
  Functions of the program as trees: what a call comes to.
-/
import Derived.Test.YtlmhajfbpplpoaaGreatUAS
set_option linter.unusedSectionVars false
set_option linter.unusedSimpArgs false
set_option linter.unusedVariables false
namespace Go.Proofs.YtlmhajfbpplpoaaGreat
open Go.RowKit
def hs53:Hints:=[]
noncomputable def mf53:MFn:=mfD Tryz.prog entsC hs53 false false 53
def hn53:Hnt:=⟨[(54,(.tup [.agg [.int .i64,.ls,.ls,.int .i64,.str,.str,.ls],.int .i64],[.box [.ls,.int .i64,.ls,.bool]])),(69,(.tup [.agg [.int .i64,.ls,.ls,.int .i64,.str,.str,.ls],.int .i64],[.box [.ls,.int .i64,.ls,.bool],.keep])),(91,(.tup [.ls,.agg [.int .i64,.int .i64],.int .i64],[])),(92,(.agg [.int .i64,.str,.int .i64,.int .i64],[.box [.ls,.int .i64,.ls,.bool]]))],[],[(25,[.int .i64,.ls,.ls,.int .i64,.str,.str,.ls]),(26,[.int .i64,.int .i64]),(49,[.int .i64,.ls,.ls,.int .i64,.str,.str,.ls]),(54,[.int .i64,.ls,.ls,.int .i64,.str,.str,.ls])]⟩
noncomputable def tabWa:List (Nat × MFn):=[(53,mf53)]
theorem e53l(A:Ar)(D:Orc)(x0:ByteArray)(x1:List (List AV))(x2:Bool)(s1:List (List AV))(s2:List (List AV))(s3:Int)(s4:List (List AV))(s5:Bool)(s6:List (List AV))(s7:Bool)(s8:List (List AV))(s9:List (List AV))(s10:List (List AV)):fnK A D ownC hn53 (.b (.b .n (.b .n (.b (.b (.b (.b (.b (.b (.b .n (.b (.b .n (.b .n (.t .n))) .n)) .n) .n) .n) .n) .n) (.b .n (.b .n (.b .n (.b .n (.b .n (.b .n (.b .n (.f .n))))))))))) .n) 53 mf53 [sv x0,AV.ls x1,bv x2,AV.fn (Fn.func 69) [] [AV.ptr 0 0]] [{ cells:=[AV.ls s1,AV.ls s2,iv s3,AV.ls s4,bv s5,AV.ls s6,bv s7,AV.ls s8,AV.ls s9,AV.ls s10],st:=true,ex:=false }] =
 askK D (Key.fn 91) [sv x0] [] fun r o=>
 unTup r fun cs=>
 cLs cs fun xs l=>
 unCons l fun c l1=>
 unAgg c fun cs1=>
 cInt IntKind.i64 cs1 fun n l2=>
 cInt IntKind.i64 l2 fun n1 l3=>
 unNil l3<|
 cInt IntKind.i64 l1 fun n2 l4=>
 unNil l4<|
 unEnd o<|
 br (A.eq n2 0)
 (askK D (Key.fn 69) [AV.ptr 0 0,AV.ptr 1 0] [ABlk.mk [AV.ls xs,iv 0,AV.ls x1,bv x2] true false,ABlk.mk [AV.ls s1,AV.ls s2,iv s3,AV.ls s4,bv s5,AV.ls s6,bv s7,AV.ls s8,AV.ls s9,AV.ls s10] true false] fun r1 o1=>
 unTup r1 fun cs2=>
 unCons cs2 fun c1 l5=>
 unAgg c1 fun cs3=>
 cInt IntKind.i64 cs3 fun n3 l6=>
 cLs l6 fun xs1 l7=>
 cLs l7 fun xs2 l8=>
 cInt IntKind.i64 l8 fun n4 l9=>
 cStr l9 fun s l10=>
 cStr l10 fun s11 l11=>
 cLs l11 fun xs3 l12=>
 unNil l12<|
 cInt IntKind.i64 l5 fun n5 l13=>
 unNil l13<|
 unOut o1 fun c2 l14=>
 unSet true false c2 fun cs4=>
 cLs cs4 fun xs4 l15=>
 cInt IntKind.i64 l15 fun n6 l16=>
 cLs l16 fun xs5 l17=>
 cBool l17 fun b l18=>
 unNil l18<|
 unOut l14 fun c3 l19=>
 unKeep c3<|
 unEnd l19<|
 br (A.eq n5 0)
 (askK D (Key.fn 92) [AV.ptr 0 0] [ABlk.mk [AV.ls xs4,iv n6,AV.ls xs5,bv b] true false] fun r2 o2=>
 unAgg r2 fun cs5=>
 cInt IntKind.i64 cs5 fun n7 l20=>
 cStr l20 fun _ l21=>
 cInt IntKind.i64 l21 fun _ l22=>
 cInt IntKind.i64 l22 fun _ l23=>
 unNil l23<|
 unOut o2 fun c4 l24=>
 unSet true false c4 fun cs6=>
 cLs cs6 fun xs6 l25=>
 cInt IntKind.i64 l25 fun n10 l26=>
 cLs l26 fun xs7 l27=>
 cBool l27 fun b1 l28=>
 unNil l28<|
 unEnd l24<|
 br (A.eq n7 5)
 (br (A.eq n5 0) (some ((AV.tup [AV.agg [iv n3,AV.ls xs1,AV.ls xs2,iv n4,sv s,sv s11,AV.ls xs3],AV.agg [iv 0,iv 0],iv 0],[BO.keep]))) none)
 (br (A.eq 101 0)
 (some ((AV.tup [AV.agg [iv n3,AV.ls xs1,AV.ls xs2,iv n4,sv s,sv s11,AV.ls xs3],AV.agg [iv 0,iv 0],iv 0],[BO.keep])))
 (askK D (Key.fn 92) [AV.ptr 0 0] [ABlk.mk [AV.ls xs6,iv n10,AV.ls xs7,bv b1] true false] fun r3 o3=>
 unAgg r3 fun cs7=>
 cInt IntKind.i64 cs7 fun _ l29=>
 cStr l29 fun _ l30=>
 cInt IntKind.i64 l30 fun n12 l31=>
 cInt IntKind.i64 l31 fun n13 l32=>
 unNil l32<|
 unOut o3 fun c5 l33=>
 unSet true false c5 fun cs8=>
 cLs cs8 fun _ l34=>
 cInt IntKind.i64 l34 fun _ l35=>
 cLs l35 fun _ l36=>
 cBool l36 fun _ l37=>
 unNil l37<|
 unEnd l33<|
 some ((AV.tup [AV.agg [iv 0,AV.ls [],AV.ls [],iv 0,sv (bstr []),sv (bstr []),AV.ls []],AV.agg [iv n12,iv n13],iv 101],[BO.keep])))))
 (br (A.eq n5 0) none (askK D (Key.fn 92) [AV.ptr 0 0] [ABlk.mk [AV.ls xs4,iv n6,AV.ls xs5,bv b] true false] fun r2 o2=>
 unAgg r2 fun cs5=>
 cInt IntKind.i64 cs5 fun _ l20=>
 cStr l20 fun _ l21=>
 cInt IntKind.i64 l21 fun n8 l22=>
 cInt IntKind.i64 l22 fun n9 l23=>
 unNil l23<|
 unOut o2 fun c4 l24=>
 unSet true false c4 fun cs6=>
 cLs cs6 fun _ l25=>
 cInt IntKind.i64 l25 fun _ l26=>
 cLs l26 fun _ l27=>
 cBool l27 fun _ l28=>
 unNil l28<|
 unEnd l24<|
 some ((AV.tup [AV.agg [iv 0,AV.ls [],AV.ls [],iv 0,sv (bstr []),sv (bstr []),AV.ls []],AV.agg [iv n8,iv n9],iv n5],[BO.keep])))))
 (some ((AV.tup [AV.agg [iv 0,AV.ls [],AV.ls [],iv 0,sv (bstr []),sv (bstr []),AV.ls []],AV.agg [iv n,iv n1],iv n2],[BO.keep]))):=by kernel_rfl
end Go.Proofs.YtlmhajfbpplpoaaGreat
namespace Go.Proofs.YtlmhajfbpplpoaaGreat
open Go.RowKit
def hs132:Hints:=[]
noncomputable def mf132:MFn:=mfD Tryz.prog entsC hs132 false false 132
def hn132:Hnt:=⟨[],[],[]⟩
def hs194:Hints:=[]
noncomputable def mf194:MFn:=mfD Tryz.prog entsC hs194 false false 194
def hn194:Hnt:=⟨[],[],[]⟩
def hs134:Hints:=[]
noncomputable def mf134:MFn:=mfD Tryz.prog entsC hs134 false false 134
def hn134:Hnt:=⟨[(132,(.int .i64,[])),(194,(.int .i64,[]))],[],[(13,[.int .i64])]⟩
def hs133:Hints:=[]
noncomputable def mf133:MFn:=mfD Tryz.prog entsC hs133 false false 133
def hn133:Hnt:=⟨[(45,(.bool,[])),(46,(.bool,[])),(109,(.bool,[]))],[],[(4,[.int .i64]),(7,[.int .i64,.ls,.ls,.int .i64,.str,.str,.ls]),(12,[.ls]),(17,[.ls]),(23,[.int .i64]),(28,[.str]),(33,[.str]),(36,[.int .i64,.ls,.ls,.int .i64,.str,.str,.ls])]⟩
def hs74:Hints:=[⟨57,[false,true,true,false,false,false,false,false,false,false,false,false,false,false,false,false,false,false,false,false,false,false,false,false,false,false,false,false,false,false,false,false,false,true,true,true],[],[2],[(0,([false,false,false,false,true],([],[2]))),(1,([],([],[2])))]⟩]
noncomputable def mf74:MFn:=mfD Tryz.prog entsC hs74 false false 74
def hn74:Hnt:=⟨[(45,(.bool,[])),(74,(.bool,[])),(132,(.int .i64,[])),(133,(.bool,[])),(134,(.bool,[]))],[(0,[(0,([.bool],[.del])),(1,([],[.del]))])],[(10,[.int .i64]),(13,[.ls]),(19,[.int .i64,.ls,.ls,.int .i64,.str,.str,.ls]),(28,[.int .i64,.ls,.ls,.int .i64,.str,.str,.ls]),(33,[.ls]),(38,[.int .i64,.ls,.ls,.int .i64,.str,.str,.ls]),(39,[.int .i64,.ls,.ls,.int .i64,.str,.str,.ls]),(42,[.int .i64]),(44,[.int .i64,.ls,.ls,.int .i64,.str,.str,.ls]),(51,[.int .i64,.ls,.ls,.int .i64,.str,.str,.ls])]⟩
def hs36:Hints:=[]
noncomputable def mf36:MFn:=mfD Tryz.prog entsC hs36 false false 36
def hn36:Hnt:=⟨[(74,(.bool,[]))],[],[(3,[.int .i64,.ls,.ls,.int .i64,.str,.str,.ls])]⟩
noncomputable def tabTl:List (Nat × MFn):=[(132,mf132),(194,mf194),(134,mf134),(133,mf133),(74,mf74),(36,mf36)]
theorem e132(A:Ar)(D:Orc)(x0:Int):fnK A D ownC hn132 .n 132 mf132 [iv x0] [] =
 br (A.eq x0 0)
 (some ((iv 0,[])))
 (br (A.eq x0 1)
 (some ((iv 0,[])))
 (br (A.eq x0 2)
 (some ((iv 0,[])))
 (br (A.eq x0 6)
 (some ((iv 0,[])))
 (br (A.eq x0 3)
 (some ((iv 1,[])))
 (br (A.eq x0 8)
 (some ((iv 1,[])))
 (br (A.eq x0 9)
 (some ((iv 1,[])))
 (br (A.eq x0 10)
 (some ((iv 1,[])))
 (br (A.eq x0 4)
 (some ((iv 2,[])))
 (br (A.eq x0 5)
 (some ((iv 2,[])))
 (br (A.eq x0 7)
 (some ((iv 2,[])))
 (br (A.eq x0 11)
 (some ((iv 2,[])))
 (br (A.eq x0 12)
 (some ((iv 2,[])))
 (some ((iv (-1),[]))))))))))))))):=by kernel_rfl

theorem e194(A:Ar)(D:Orc)(x0:Int):fnK A D ownC hn194 .n 194 mf194 [iv x0] [] =
 br (A.eq x0 7)
 (some ((iv 1,[])))
 (br (A.eq x0 5)
 (some ((iv 2,[])))
 (br (A.eq x0 4)
 (some ((iv 3,[])))
 (br (A.eq x0 11)
 (some ((iv 4,[])))
 (br (A.eq x0 12)
 (some ((iv 4,[])))
 (some ((iv 5,[]))))))):=by kernel_rfl

theorem e134(A:Ar)(D:Orc)(x0:Int)(x1:Int)(x2_0:Int)(x2_1:List (List AV))(x2_2:List (List AV))(x2_3:Int)(x2_4:ByteArray)(x2_5:ByteArray)(x2_6:List (List AV)):fnK A D ownC hn134 .n 134 mf134 [iv x0,iv x1,AV.agg [iv x2_0,AV.ls x2_1,AV.ls x2_2,iv x2_3,sv x2_4,sv x2_5,AV.ls x2_6]] [] =
 askK D (Key.fn 194) [iv x0] [] fun r o=>
 unInt IntKind.i64 r fun n=>
 unEnd o<|
 askK D (Key.fn 194) [iv x2_0] [] fun r1 o1=>
 unInt IntKind.i64 r1 fun n1=>
 unEnd o1<|
 askK D (Key.fn 132) [iv x0] [] fun r2 o2=>
 unInt IntKind.i64 r2 fun n2=>
 unEnd o2<|
 br (A.eq n2 1)
 (br (A.lt n1 5)
 (some ((bv true,[])))
 (some ((bv false,[]))))
 (br (A.eq n n1)
 (br (A.eq n 1)
 (br (A.eq x1 0)
 (br (A.beq true true)
 (some ((bv true,[])))
 (some ((bv false,[]))))
 (br (A.beq true false)
 (some ((bv true,[])))
 (some ((bv false,[])))))
 (br (A.eq n 4)
 (br (A.eq x1 0)
 (br (A.beq true true)
 (some ((bv true,[])))
 (some ((bv false,[]))))
 (br (A.beq true false)
 (some ((bv true,[])))
 (some ((bv false,[])))))
 (br (A.eq x1 0)
 (br (A.beq false true)
 (some ((bv true,[])))
 (some ((bv false,[]))))
 (br (A.beq false false)
 (some ((bv true,[])))
 (some ((bv false,[])))))))
 (br (A.lt n1 n)
 (some ((bv true,[])))
 (some ((bv false,[]))))):=by kernel_rfl

theorem e133(A:Ar)(D:Orc)(x0_0:Int)(x0_1:List (List AV))(x0_2:List (List AV))(x0_3:Int)(x0_4:ByteArray)(x0_5:ByteArray)(x0_6:List (List AV)):fnK A D ownC hn133 .n 133 mf133 [AV.agg [iv x0_0,AV.ls x0_1,AV.ls x0_2,iv x0_3,sv x0_4,sv x0_5,AV.ls x0_6]] [] =
 br (A.eq x0_0 2)
 (askK D (Key.fn 46) [AV.agg [iv x0_0,AV.ls x0_1,AV.ls x0_2,iv x0_3,sv x0_4,sv x0_5,AV.ls x0_6]] [] fun r o=>
 unBool r fun b=>
 unEnd o<|
 br b
 (some ((bv true,[])))
 (some ((bv false,[]))))
 (br (A.eq x0_0 6)
 (br (A.eq (↑(lenR x0_1)) 0)
 (br (A.eq (↑(lenR x0_2)) 0)
 (br (A.eq x0_3 0)
 (askK D (Key.fn 109) [sv x0_4] [] fun r o=>
 unBool r fun b=>
 unEnd o<|
 br b
 (askK D (Key.fn 109) [sv x0_5] [] fun r1 o1=>
 unBool r1 fun b1=>
 unEnd o1<|
 br b1
 (some ((bv true,[])))
 (some ((bv false,[]))))
 (some ((bv false,[]))))
 (some ((bv false,[]))))
 (some ((bv false,[]))))
 (some ((bv false,[]))))
 (askK D (Key.fn 45) [AV.agg [iv x0_0,AV.ls x0_1,AV.ls x0_2,iv x0_3,sv x0_4,sv x0_5,AV.ls x0_6]] [] fun r o=>
 unBool r fun b=>
 unEnd o<|
 br b
 (some ((bv true,[])))
 (some ((bv false,[]))))):=by kernel_rfl

theorem e74(A:Ar)(D:Orc)(x0_0:Int)(x0_1:List (List AV))(x0_2:List (List AV))(x0_3:Int)(x0_4:ByteArray)(x0_5:ByteArray)(x0_6:List (List AV))(x1:Int):fnK A D ownC hn74 .n 74 mf74 [AV.agg [iv x0_0,AV.ls x0_1,AV.ls x0_2,iv x0_3,sv x0_4,sv x0_5,AV.ls x0_6],iv x1] [] =
 askK D (Key.fn 132) [iv x0_0] [] fun r o=>
 unInt IntKind.i64 r fun n=>
 unEnd o<|
 br (A.eq (↑(lenR x0_6)) n)
 (br (A.eq n 0)
 (askK D (Key.fn 133) [AV.agg [iv x0_0,AV.ls x0_1,AV.ls x0_2,iv x0_3,sv x0_4,sv x0_5,AV.ls x0_6]] [] fun r1 o1=>
 unBool r1 fun b=>
 unEnd o1<|
 br b
 (some ((bv true,[])))
 (some ((bv false,[]))))
 (br (A.eq n 1)
 (br (A.lt 60 (A.add IntKind.i64 x1 1))
 (some ((bv false,[])))
 (askK D (Key.fn 45) [AV.agg [iv x0_0,AV.ls x0_1,AV.ls x0_2,iv x0_3,sv x0_4,sv x0_5,AV.ls x0_6]] [] fun r1 o1=>
 unBool r1 fun b=>
 unEnd o1<|
 br b
 (askK D (Key.lp 74 0) [iv (A.add IntKind.i64 x1 1),AV.ptr 0 0,AV.ls x0_6,iv ↑(lenR x0_6),iv 0] [ABlk.mk [iv x0_0,AV.ls x0_1,AV.ls x0_2,iv x0_3,sv x0_4,sv x0_5,AV.ls x0_6] true false] fun r2 o2=>
 unTup r2 fun cs=>
 unCons cs fun c l=>
 br (axIs 0 c)
 (cBool l fun b1 l1=>
 unNil l1<|
 unOut o2 fun c1 l2=>
 unDel c1<|
 unEnd l2<|
 some ((bv b1,[])))
 (br (axIs 1 c)
 (unNil l<|
 unOut o2 fun c1 l1=>
 unDel c1<|
 unEnd l1<|
 some ((bv true,[])))
 (none)))
 (some ((bv false,[])))))
 (br (A.lt 60 x1)
 (some ((bv false,[])))
 (askK D (Key.fn 45) [AV.agg [iv x0_0,AV.ls x0_1,AV.ls x0_2,iv x0_3,sv x0_4,sv x0_5,AV.ls x0_6]] [] fun r1 o1=>
 unBool r1 fun b=>
 unEnd o1<|
 br b
 (askK D (Key.lp 74 0) [iv x1,AV.ptr 0 0,AV.ls x0_6,iv ↑(lenR x0_6),iv 0] [ABlk.mk [iv x0_0,AV.ls x0_1,AV.ls x0_2,iv x0_3,sv x0_4,sv x0_5,AV.ls x0_6] true false] fun r2 o2=>
 unTup r2 fun cs=>
 unCons cs fun c l=>
 br (axIs 0 c)
 (cBool l fun b1 l1=>
 unNil l1<|
 unOut o2 fun c1 l2=>
 unDel c1<|
 unEnd l2<|
 some ((bv b1,[])))
 (br (axIs 1 c)
 (unNil l<|
 unOut o2 fun c1 l1=>
 unDel c1<|
 unEnd l1<|
 some ((bv true,[])))
 (none)))
 (some ((bv false,[])))))))
 (some ((bv false,[]))):=by kernel_rfl

theorem e74_0(A:Ar)(D:Orc)(t1:Int)(b2_0:Int)(b2_1:List (List AV))(b2_2:List (List AV))(b2_3:Int)(b2_4:ByteArray)(b2_5:ByteArray)(b2_6:List (List AV))(t33:List (List AV))(t34:Int)(t35:Int):lpK A D ownC hn74 .n 74 0 (lpAt mf74 0).fst (lpAt mf74 0).snd [iv t1,AV.ptr 0 0,AV.ls t33,iv t34,iv t35] [{ cells:=[iv b2_0,AV.ls b2_1,AV.ls b2_2,iv b2_3,sv b2_4,sv b2_5,AV.ls b2_6],st:=true,ex:=false }] =
 br (A.lt t35 t34)
 (unI t35 fun i=>
 nthK t33 i fun cs=>
 cInt IntKind.i64 cs fun n l=>
 cLs l fun xs l1=>
 cLs l1 fun xs1 l2=>
 cInt IntKind.i64 l2 fun n1 l3=>
 cStr l3 fun s l4=>
 cStr l4 fun s1 l5=>
 cLs l5 fun xs2 l6=>
 unNil l6<|
 askK D (Key.fn 134) [iv b2_0,iv t35,AV.agg [iv n,AV.ls xs,AV.ls xs1,iv n1,sv s,sv s1,AV.ls xs2]] [] fun r o=>
 unBool r fun b=>
 unEnd o<|
 br b
 (br (A.lt 60 (A.add IntKind.i64 t1 1))
 (some ((AV.tup [bv true,bv false],[BO.del])))
 (askK D (Key.fn 74) [AV.agg [iv n,AV.ls xs,AV.ls xs1,iv n1,sv s,sv s1,AV.ls xs2],iv (A.add IntKind.i64 t1 1)] [] fun r1 o1=>
 unBool r1 fun b1=>
 unEnd o1<|
 br b1
 (askK D (Key.lp 74 0) [iv t1,AV.ptr 0 0,AV.ls t33,iv t34,iv (A.add IntKind.i64 t35 1)] [ABlk.mk [iv b2_0,AV.ls b2_1,AV.ls b2_2,iv b2_3,sv b2_4,sv b2_5,AV.ls b2_6] true false] fun r2 o2=>
 tailK 1 [0] (AH.mk [(0,ABlk.mk [iv b2_0,AV.ls b2_1,AV.ls b2_2,iv b2_3,sv b2_4,sv b2_5,AV.ls b2_6] true false),(1,ABlk.mk [iv n,AV.ls xs,AV.ls xs1,iv n1,sv s,sv s1,AV.ls xs2] true false)] 2 none) [0] r2 o2)
 (some ((AV.tup [bv true,bv false],[BO.del])))))
 (br (A.lt 60 t1)
 (some ((AV.tup [bv true,bv false],[BO.del])))
 (askK D (Key.fn 74) [AV.agg [iv n,AV.ls xs,AV.ls xs1,iv n1,sv s,sv s1,AV.ls xs2],iv t1] [] fun r1 o1=>
 unBool r1 fun b1=>
 unEnd o1<|
 br b1
 (askK D (Key.lp 74 0) [iv t1,AV.ptr 0 0,AV.ls t33,iv t34,iv (A.add IntKind.i64 t35 1)] [ABlk.mk [iv b2_0,AV.ls b2_1,AV.ls b2_2,iv b2_3,sv b2_4,sv b2_5,AV.ls b2_6] true false] fun r2 o2=>
 tailK 1 [0] (AH.mk [(0,ABlk.mk [iv b2_0,AV.ls b2_1,AV.ls b2_2,iv b2_3,sv b2_4,sv b2_5,AV.ls b2_6] true false),(1,ABlk.mk [iv n,AV.ls xs,AV.ls xs1,iv n1,sv s,sv s1,AV.ls xs2] true false)] 2 none) [0] r2 o2)
 (some ((AV.tup [bv true,bv false],[BO.del]))))))
 (some ((AV.tup [iv 0],[BO.del]))):=by kernel_rfl

theorem e36(A:Ar)(D:Orc)(x0_0:Int)(x0_1:List (List AV))(x0_2:List (List AV))(x0_3:Int)(x0_4:ByteArray)(x0_5:ByteArray)(x0_6:List (List AV)):fnK A D ownC hn36 .n 36 mf36 [AV.agg [iv x0_0,AV.ls x0_1,AV.ls x0_2,iv x0_3,sv x0_4,sv x0_5,AV.ls x0_6]] [] =
 askK D (Key.fn 74) [AV.agg [iv x0_0,AV.ls x0_1,AV.ls x0_2,iv x0_3,sv x0_4,sv x0_5,AV.ls x0_6],iv 0] [] fun r o=>
 unBool r fun b=>
 unEnd o<|
 br b
 (some ((bv true,[])))
 (some ((bv false,[]))):=by kernel_rfl
end Go.Proofs.YtlmhajfbpplpoaaGreat
namespace Go.Proofs.YtlmhajfbpplpoaaGreat
open Go.RowKit
def hs265:Hints:=[]
noncomputable def mf265:MFn:=mfD Tryz.prog entsC hs265 false false 265
def hn265:Hnt:=⟨[],[],[(5,[.int .i64]),(9,[.str]),(14,[.int .i64]),(18,[.str]),(23,[.int .i64]),(27,[.str]),(32,[.int .i64]),(36,[.str])]⟩
def hs126:Hints:=[]
noncomputable def mf126:MFn:=mfD Tryz.prog entsC hs126 false false 126
def hn126:Hnt:=⟨[],[],[]⟩
def hs232:Hints:=[⟨20,[false,false,false,true,false,false,false,true,true,true],[(3,1)],[],[(1,([false,false,false,true],([],[])))]⟩]
noncomputable def mf232:MFn:=mfD Tryz.prog entsC hs232 false false 232
def hn232:Hnt:=⟨[],[(0,[(1,([.sl 1 1],[.del,.row true]))])],[(7,[.ls]),(11,[.str,.ls,.ls]),(12,[.str,.ls,.ls]),(15,[.str])]⟩
def hs276:Hints:=[]
noncomputable def mf276:MFn:=mfD Tryz.prog entsC hs276 false true 276
def hn276:Hnt:=⟨[(88,(.int .i64,[])),(92,(.agg [.int .i64,.str,.int .i64,.int .i64],[.box [.ls,.int .i64,.ls,.bool]])),(109,(.bool,[]))],[],[(9,[.any]),(12,[.int .i64]),(16,[.str]),(22,[.str]),(27,[.any]),(30,[.int .i64])]⟩
def hs266:Hints:=[]
noncomputable def mf266:MFn:=mfD Tryz.prog entsC hs266 false true 266
def hn266:Hnt:=⟨[(232,(.ls,[])),(248,(.int .i64,[.box [.ls,.int .i64,.ls,.bool]])),(276,(.tup [.int .i64,.int .i64],[.box [.ls,.int .i64,.ls,.bool]]))],[],[(9,[.any,.ls,.ls,.int .i64,.ls,.bool,.ls,.bool,.ls,.ls,.ls]),(11,[.ls,.ls,.int .i64,.ls,.bool,.ls,.bool,.ls,.ls,.ls]),(19,[.any]),(27,[.ls]),(29,[.str,.ls,.ls]),(30,[.str,.ls,.ls]),(32,[.any,.ls,.ls,.int .i64,.ls,.bool,.ls,.bool,.ls,.ls,.ls]),(34,[.ls]),(43,[.str]),(45,[.ls]),(47,[.str]),(48,[.str])]⟩
def hs267:Hints:=[]
noncomputable def mf267:MFn:=mfD Tryz.prog entsC hs267 false true 267
def hn267:Hnt:=⟨[(93,(.bool,[.box [.ls,.int .i64,.ls,.bool]])),(126,(.agg [.int .i64,.ls,.ls,.int .i64,.str,.str,.ls],[])),(249,(.tup [.agg [.int .i64,.ls,.ls,.int .i64,.str,.str,.ls],.int .i64],[.box [.ls,.int .i64,.ls,.bool]]))],[],[(6,[.any]),(11,[.any]),(15,[.any])]⟩
def hs185:Hints:=[⟨44,[true,true,true,true,true,true,false,false,false,false,true,false,true,true],[],[5,10,12],[(1,([true,false,false,false,false,false,false,false,false,false,true,false,true,true],([],[5])))]⟩]
noncomputable def mf185:MFn:=mfD Tryz.prog entsC hs185 false true 185
def hn185:Hnt:=⟨[(93,(.bool,[.box [.ls,.int .i64,.ls,.bool]])),(126,(.agg [.int .i64,.ls,.ls,.int .i64,.str,.str,.ls],[])),(186,(.tup [.agg [.int .i64,.ls,.ls,.int .i64,.str,.str,.ls],.int .i64],[.box [.ls,.int .i64,.ls,.bool]])),(230,(.tup [.agg [.int .i64,.ls,.ls,.int .i64,.str,.str,.ls],.int .i64],[.box [.ls,.int .i64,.ls,.bool]]))],[(0,[(1,([.agg [.ptr 0 0,.ls,.ls,.int .i64,.ls,.bool,.ls,.bool,.ls,.ls,.ls],.ptr 2 0,.ptr 3 0,.int .i64],[.box [.ls,.int .i64,.ls,.bool],.del,.box [.int .i64,.ls,.ls,.int .i64,.str,.str,.ls],.box [.int .i64,.ls,.ls,.int .i64,.str,.str,.ls]]))])],[(25,[.any]),(38,[.int .i64,.ls,.ls,.int .i64,.str,.str,.ls]),(39,[.int .i64,.ls,.ls,.int .i64,.str,.str,.ls]),(42,[.int .i64,.ls,.ls,.int .i64,.str,.str,.ls])]⟩
def hs186:Hints:=[]
noncomputable def mf186:MFn:=mfD Tryz.prog entsC hs186 false true 186
def hn186:Hnt:=⟨[(185,(.tup [.agg [.int .i64,.ls,.ls,.int .i64,.str,.str,.ls],.int .i64],[.box [.ls,.int .i64,.ls,.bool]]))],[],[(6,[.any,.ls,.ls,.int .i64,.ls,.bool,.ls,.bool,.ls,.ls,.ls]),(8,[.any,.ls,.ls,.int .i64,.ls,.bool,.ls,.bool,.ls,.ls,.ls])]⟩
def hs125:Hints:=[]
noncomputable def mf125:MFn:=mfD Tryz.prog entsC hs125 false true 125
def hn125:Hnt:=⟨[(185,(.tup [.agg [.int .i64,.ls,.ls,.int .i64,.str,.str,.ls],.int .i64],[.box [.ls,.int .i64,.ls,.bool]]))],[],[(6,[.any,.ls,.ls,.int .i64,.ls,.bool,.ls,.bool,.ls,.ls,.ls]),(8,[.any,.ls,.ls,.int .i64,.ls,.bool,.ls,.bool,.ls,.ls,.ls])]⟩
def hs230:Hints:=[]
noncomputable def mf230:MFn:=mfD Tryz.prog entsC hs230 false true 230
def hn230:Hnt:=⟨[(93,(.bool,[.box [.ls,.int .i64,.ls,.bool]])),(126,(.agg [.int .i64,.ls,.ls,.int .i64,.str,.str,.ls],[])),(230,(.tup [.agg [.int .i64,.ls,.ls,.int .i64,.str,.str,.ls],.int .i64],[.box [.ls,.int .i64,.ls,.bool]])),(252,(.tup [.agg [.int .i64,.ls,.ls,.int .i64,.str,.str,.ls],.int .i64],[.box [.ls,.int .i64,.ls,.bool]]))],[],[(11,[.any,.ls,.ls,.int .i64,.ls,.bool,.ls,.bool,.ls,.ls,.ls]),(18,[.int .i64,.ls,.ls,.int .i64,.str,.str,.ls]),(20,[.int .i64,.ls,.ls,.int .i64,.str,.str,.ls]),(23,[.any]),(27,[.any]),(30,[.any,.ls,.ls,.int .i64,.ls,.bool,.ls,.bool,.ls,.ls,.ls]),(36,[.int .i64,.ls,.ls,.int .i64,.str,.str,.ls]),(37,[.int .i64,.ls,.ls,.int .i64,.str,.str,.ls])]⟩
def hs252:Hints:=[]
noncomputable def mf252:MFn:=mfD Tryz.prog entsC hs252 false true 252
def hn252:Hnt:=⟨[(70,(.tup [.agg [.int .i64,.ls,.ls,.int .i64,.str,.str,.ls],.int .i64],[.box [.ls,.int .i64,.ls,.bool]])),(92,(.agg [.int .i64,.str,.int .i64,.int .i64],[.box [.ls,.int .i64,.ls,.bool]])),(93,(.bool,[.box [.ls,.int .i64,.ls,.bool]])),(126,(.agg [.int .i64,.ls,.ls,.int .i64,.str,.str,.ls],[])),(248,(.int .i64,[.box [.ls,.int .i64,.ls,.bool]])),(252,(.tup [.agg [.int .i64,.ls,.ls,.int .i64,.str,.str,.ls],.int .i64],[.box [.ls,.int .i64,.ls,.bool]])),(265,(.int .i64,[])),(266,(.tup [.agg [.int .i64,.ls,.ls,.int .i64,.str,.str,.ls],.int .i64],[.box [.ls,.int .i64,.ls,.bool]])),(267,(.tup [.agg [.int .i64,.ls,.ls,.int .i64,.str,.str,.ls],.int .i64],[.box [.ls,.int .i64,.ls,.bool]]))],[],[(14,[.any]),(16,[.int .i64,.str,.int .i64,.int .i64]),(19,[.int .i64]),(23,[.str]),(41,[.any]),(44,[.int .i64]),(49,[.any,.ls,.ls,.int .i64,.ls,.bool,.ls,.bool,.ls,.ls,.ls]),(56,[.int .i64,.ls,.ls,.int .i64,.str,.str,.ls]),(62,[.any]),(65,[.any,.ls,.ls,.int .i64,.ls,.bool,.ls,.bool,.ls,.ls,.ls]),(74,[.any]),(76,[.int .i64,.ls,.ls,.int .i64,.str,.str,.ls]),(80,[.any]),(82,[.any,.ls,.ls,.int .i64,.ls,.bool,.ls,.bool,.ls,.ls,.ls]),(86,[.any,.ls,.ls,.int .i64,.ls,.bool,.ls,.bool,.ls,.ls,.ls])]⟩
def hs70:Hints:=[]
noncomputable def mf70:MFn:=mfD Tryz.prog entsC hs70 false true 70
def hn70:Hnt:=⟨[(70,(.tup [.agg [.int .i64,.ls,.ls,.int .i64,.str,.str,.ls],.int .i64],[.box [.ls,.int .i64,.ls,.bool]])),(93,(.bool,[.box [.ls,.int .i64,.ls,.bool]])),(125,(.tup [.agg [.int .i64,.ls,.ls,.int .i64,.str,.str,.ls],.int .i64],[.box [.ls,.int .i64,.ls,.bool]])),(126,(.agg [.int .i64,.ls,.ls,.int .i64,.str,.str,.ls],[]))],[],[(10,[.any,.ls,.ls,.int .i64,.ls,.bool,.ls,.bool,.ls,.ls,.ls]),(19,[.any]),(23,[.int .i64,.ls,.ls,.int .i64,.str,.str,.ls]),(26,[.any,.ls,.ls,.int .i64,.ls,.bool,.ls,.bool,.ls,.ls,.ls]),(31,[.int .i64,.ls,.ls,.int .i64,.str,.str,.ls]),(32,[.int .i64,.ls,.ls,.int .i64,.str,.str,.ls])]⟩
noncomputable def tabTq:List (Nat × MFn):=[(265,mf265),(126,mf126),(232,mf232),(276,mf276),(266,mf266),(267,mf267),(185,mf185),(186,mf186),(125,mf125),(230,mf230),(252,mf252),(70,mf70)]
theorem e265(A:Ar)(D:Orc)(x0_0:Int)(x0_1:ByteArray)(x0_2:Int)(x0_3:Int):fnK A D ownC hn265 (.b (.b (.b (.b (.b .n (.b (.b .n (.b .n (.b (.b (.b (.b (.b .n (.b (.b .n (.b .n (.t (.b (.b (.b (.b .n (.b (.b .n (.b .n (.t .n))) .n)) .n) .n) .n)))) .n)) .n) .n) .n) (.b .n (.b .n (.b .n (.b .n (.b .n (.b .n (.f (.b .n (.b .n (.b .n (.b .n (.b .n (.b .n (.f .n))))))))))))))))) .n)) .n) .n) .n) (.b .n (.b .n (.b .n (.b .n (.b .n (.b .n (.b (.b (.b (.b (.b .n (.b (.b .n (.b .n (.t (.b (.b (.b (.b .n (.b (.b .n (.b .n (.t .n))) .n)) .n) .n) .n)))) .n)) .n) .n) .n) (.b .n (.b .n (.b .n (.b .n (.b .n (.b .n (.f (.b .n (.b .n (.b .n (.b .n (.b .n (.b .n (.f .n)))))))))))))))))))))) 265 mf265 [AV.agg [iv x0_0,sv x0_1,iv x0_2,iv x0_3]] [] =
 br (A.eq x0_0 2)
 (br (A.seq x0_1 (bstr [33]))
 (some ((iv 3,[])))
 (br (A.eq x0_0 4)
 (br (A.seq x0_1 (bstr [88]))
 (some ((iv 8,[])))
 (br (A.eq x0_0 4) (br (A.seq x0_1 (bstr [71]))
 (some ((iv 9,[])))
 (br (A.eq x0_0 4) (br (A.seq x0_1 (bstr [70]))
 (some ((iv 10,[])))
 (some ((iv (-1),[])))) none)) none))
 (br (A.eq x0_0 4) none (br (A.eq x0_0 4) none (some ((iv (-1),[])))))))
 (br (A.eq x0_0 4)
 (br (A.seq x0_1 (bstr [88]))
 (some ((iv 8,[])))
 (br (A.eq x0_0 4) (br (A.seq x0_1 (bstr [71]))
 (some ((iv 9,[])))
 (br (A.eq x0_0 4) (br (A.seq x0_1 (bstr [70]))
 (some ((iv 10,[])))
 (some ((iv (-1),[])))) none)) none))
 (br (A.eq x0_0 4) none (br (A.eq x0_0 4) none (some ((iv (-1),[])))))):=by kernel_rfl

theorem e126(A:Ar)(D:Orc)(x0:Int)(x1:List (List AV)):fnK A D ownC hn126 .n 126 mf126 [iv x0,AV.ls x1] [] =
 some ((AV.agg [iv x0,AV.ls [],AV.ls [],iv 0,sv (bstr []),sv (bstr []),AV.ls x1],[])):=by kernel_rfl

theorem e232(A:Ar)(D:Orc)(x0_0:List (List AV))(x0_1:List (List AV))(x0_2:Int)(x0_3:List (List AV))(x0_4:Bool)(x0_5:List (List AV))(x0_6:Bool)(x0_7:List (List AV))(x0_8:List (List AV))(x0_9:List (List AV)):fnK A D ownC hn232 .n 232 mf232 [AV.agg [AV.ls x0_0,AV.ls x0_1,iv x0_2,AV.ls x0_3,bv x0_4,AV.ls x0_5,bv x0_6,AV.ls x0_7,AV.ls x0_8,AV.ls x0_9]] [] =
 askK D (Key.lp 232 0) [AV.sl 0 0 0 1,AV.ls x0_8,iv ↑(lenR x0_8),iv 0] [ABlk.mk [] true true] fun r o=>
 unTup r fun cs=>
 unCons cs fun c l=>
 br (axIs 1 c)
 (unCons l fun c1 l1=>
 unSl 1 1 c1 fun n=>
 unNil l1<|
 unOut o fun c2 l2=>
 unDel c2<|
 unOut l2 fun c3 l3=>
 unSet true true c3 fun cs1=>
 unEnd l3<|
 br ((0+n*1).ble cs1.length) (some ((AV.ls (chunk n 1 (List.take (n*1) cs1)),[]))) none)
 (none):=by kernel_rfl

theorem e232_0(A:Ar)(D:Orc)(n3:Nat)(c3:List AV)(t7:List (List AV))(t8:Int)(t9:Int):lpK A D ownC hn232 .n 232 0 (lpAt mf232 0).fst (lpAt mf232 0).snd [AV.sl 0 0 n3 1,AV.ls t7,iv t8,iv t9] [{ cells:=c3,st:=true,ex:=true }] =
 br (A.lt t9 t8)
 (unI t9 fun i=>
 nthK t7 i fun cs=>
 cStr cs fun s l=>
 cLs l fun xs l1=>
 cLs l1 fun xs1 l2=>
 unNil l2<|
 br (fitsB (n3+1) 16) (br ((0+n3*1).ble c3.length) (askK D (Key.lp 232 0) [AV.sl 0 0 (n3+1) 1,AV.ls t7,iv t8,iv (A.add IntKind.i64 t9 1)] [ABlk.mk (List.drop 0 (List.take (0+n3*1) c3)++[sv s]) true true] fun r o=>
 tailK 1 [3] (AH.mk [(3,ABlk.mk (List.drop 0 (List.take (0+n3*1) c3)++[sv s]) true true),(2,ABlk.mk [sv s] true true),(1,ABlk.mk [sv s,AV.ls xs,AV.ls xs1] true false)] 4 none) [0] r o) none) none)
 (some ((AV.tup [iv 0,AV.sl 1 0 n3 1],[BO.del,BO.set (ABlk.mk c3 true true)]))):=by kernel_rfl

theorem e276(A:Ar)(D:Orc)(s1:List (List AV))(s2:List (List AV))(s3:Int)(s4:List (List AV))(s5:Bool)(s6:List (List AV))(s7:Bool)(s8:List (List AV))(s9:List (List AV))(s10:List (List AV))(x1:List (List AV))(p_0:List (List AV))(p_1:Int)(p_2:List (List AV))(p_3:Bool):fnK A D ownC hn276 .n 276 mf276 [AV.agg [AV.ptr 0 0,AV.ls s1,AV.ls s2,iv s3,AV.ls s4,bv s5,AV.ls s6,bv s7,AV.ls s8,AV.ls s9,AV.ls s10],AV.ls x1] [{ cells:=[AV.ls p_0,iv p_1,AV.ls p_2,bv p_3],st:=true,ex:=false }] =
 askK D (Key.fn 92) [AV.ptr 0 0] [ABlk.mk [AV.ls p_0,iv p_1,AV.ls p_2,bv p_3] true false] fun r o=>
 unAgg r fun cs=>
 cInt IntKind.i64 cs fun n l=>
 cStr l fun s l1=>
 cInt IntKind.i64 l1 fun _ l2=>
 cInt IntKind.i64 l2 fun _ l3=>
 unNil l3<|
 unOut o fun c l4=>
 unSet true false c fun cs1=>
 cLs cs1 fun xs l5=>
 cInt IntKind.i64 l5 fun n3 l6=>
 cLs l6 fun xs1 l7=>
 cBool l7 fun b l8=>
 unNil l8<|
 unEnd l4<|
 br (A.eq n 1)
 (askK D (Key.fn 109) [sv s] [] fun r1 o1=>
 unBool r1 fun b1=>
 unEnd o1<|
 br b1
 (askK D (Key.fn 88) [AV.ls x1,sv s] [] fun r2 o2=>
 unInt IntKind.i64 r2 fun n4=>
 unEnd o2<|
 br (A.lt n4 0)
 (some ((AV.tup [iv 0,iv 110],[BO.set (ABlk.mk [AV.ls xs,iv n3,AV.ls xs1,bv b] true false)])))
 (some ((AV.tup [iv n4,iv 0],[BO.set (ABlk.mk [AV.ls xs,iv (A.add IntKind.i64 n3 1),AV.ls xs1,bv b] true false)]))))
 (some ((AV.tup [iv 0,iv 101],[BO.set (ABlk.mk [AV.ls xs,iv n3,AV.ls xs1,bv b] true false)]))))
 (some ((AV.tup [iv 0,iv 101],[BO.set (ABlk.mk [AV.ls xs,iv n3,AV.ls xs1,bv b] true false)]))):=by kernel_rfl

theorem e266(A:Ar)(D:Orc)(s1:List (List AV))(s2:List (List AV))(s3:Int)(s4:List (List AV))(s5:Bool)(s6:List (List AV))(s7:Bool)(s8:List (List AV))(s9:List (List AV))(s10:List (List AV))(p_0:List (List AV))(p_1:Int)(p_2:List (List AV))(p_3:Bool):fnK A D ownC hn266 (.b .n (.b .n (.f .n))) 266 mf266 [AV.agg [AV.ptr 0 0,AV.ls s1,AV.ls s2,iv s3,AV.ls s4,bv s5,AV.ls s6,bv s7,AV.ls s8,AV.ls s9,AV.ls s10]] [{ cells:=[AV.ls p_0,iv p_1,AV.ls p_2,bv p_3],st:=true,ex:=false }] =
 askK D (Key.fn 232) [AV.agg [AV.ls s1,AV.ls s2,iv s3,AV.ls s4,bv s5,AV.ls s6,bv s7,AV.ls s8,AV.ls s9,AV.ls s10]] [] fun r o=>
 unLs r fun xs=>
 unEnd o<|
 askK D (Key.fn 276) [AV.agg [AV.ptr 0 0,AV.ls s1,AV.ls s2,iv s3,AV.ls s4,bv s5,AV.ls s6,bv s7,AV.ls s8,AV.ls s9,AV.ls s10],AV.ls xs] [ABlk.mk [AV.ls p_0,iv p_1,AV.ls p_2,bv p_3] true false] fun r1 o1=>
 unTup r1 fun cs=>
 cInt IntKind.i64 cs fun n l=>
 cInt IntKind.i64 l fun n1 l1=>
 unNil l1<|
 unOut o1 fun c l2=>
 unSet true false c fun cs1=>
 cLs cs1 fun xs1 l3=>
 cInt IntKind.i64 l3 fun n2 l4=>
 cLs l4 fun xs2 l5=>
 cBool l5 fun b l6=>
 unNil l6<|
 unEnd l2<|
 br (A.eq n1 0)
 (askK D (Key.fn 248) [AV.ptr 0 0,sv (bstr [46])] [ABlk.mk [AV.ls xs1,iv n2,AV.ls xs2,bv b] true false] fun r2 o2=>
 unInt IntKind.i64 r2 fun n3=>
 unOut o2 fun c1 l7=>
 unSet true false c1 fun cs2=>
 cLs cs2 fun xs3 l8=>
 cInt IntKind.i64 l8 fun n4 l9=>
 cLs l9 fun xs4 l10=>
 cBool l10 fun b1 l11=>
 unNil l11<|
 unEnd l7<|
 br (A.eq n3 0)
 (unI n fun i=>
 nthK s9 i fun cs3=>
 cStr cs3 fun s l12=>
 cLs l12 fun xs5 l13=>
 cLs l13 fun _ l14=>
 unNil l14<|
 askK D (Key.fn 276) [AV.agg [AV.ptr 0 0,AV.ls s1,AV.ls s2,iv s3,AV.ls s4,bv s5,AV.ls s6,bv s7,AV.ls s8,AV.ls s9,AV.ls s10],AV.ls xs5] [ABlk.mk [AV.ls xs3,iv n4,AV.ls xs4,bv b1] true false] fun r3 o3=>
 unTup r3 fun cs4=>
 cInt IntKind.i64 cs4 fun n5 l15=>
 cInt IntKind.i64 l15 fun n6 l16=>
 unNil l16<|
 unOut o3 fun c2 l17=>
 unSet true false c2 fun cs5=>
 cLs cs5 fun xs7 l18=>
 cInt IntKind.i64 l18 fun n7 l19=>
 cLs l19 fun xs8 l20=>
 cBool l20 fun b2 l21=>
 unNil l21<|
 unEnd l17<|
 br (A.eq n6 0)
 (unI n5 fun i1=>
 nthK xs5 i1 fun cs6=>
 cStr cs6 fun s11 l22=>
 unNil l22<|
 some ((AV.tup [AV.agg [iv 6,AV.ls [],AV.ls [],iv 0,sv s,sv s11,AV.ls []],iv 0],[BO.set (ABlk.mk [AV.ls xs7,iv n7,AV.ls xs8,bv b2] true false)])))
 (some ((AV.tup [AV.agg [iv 0,AV.ls [],AV.ls [],iv 0,sv (bstr []),sv (bstr []),AV.ls []],iv n6],[BO.set (ABlk.mk [AV.ls xs7,iv n7,AV.ls xs8,bv b2] true false)]))))
 (some ((AV.tup [AV.agg [iv 0,AV.ls [],AV.ls [],iv 0,sv (bstr []),sv (bstr []),AV.ls []],iv n3],[BO.set (ABlk.mk [AV.ls xs3,iv n4,AV.ls xs4,bv b1] true false)]))))
 (br (A.eq n1 0) none (some ((AV.tup [AV.agg [iv 0,AV.ls [],AV.ls [],iv 0,sv (bstr []),sv (bstr []),AV.ls []],iv n1],[BO.set (ABlk.mk [AV.ls xs1,iv n2,AV.ls xs2,bv b] true false)])))):=by kernel_rfl

theorem e267(A:Ar)(D:Orc)(s1:List (List AV))(s2:List (List AV))(s3:Int)(s4:List (List AV))(s5:Bool)(s6:List (List AV))(s7:Bool)(s8:List (List AV))(s9:List (List AV))(s10:List (List AV))(p_0:List (List AV))(p_1:Int)(p_2:List (List AV))(p_3:Bool):fnK A D ownC hn267 .n 267 mf267 [AV.agg [AV.ptr 0 0,AV.ls s1,AV.ls s2,iv s3,AV.ls s4,bv s5,AV.ls s6,bv s7,AV.ls s8,AV.ls s9,AV.ls s10]] [{ cells:=[AV.ls p_0,iv p_1,AV.ls p_2,bv p_3],st:=true,ex:=false }] =
 askK D (Key.fn 93) [AV.ptr 0 0,sv (bstr [116,114,117,101])] [ABlk.mk [AV.ls p_0,iv p_1,AV.ls p_2,bv p_3] true false] fun r o=>
 unBool r fun b=>
 unOut o fun c l=>
 unSet true false c fun cs=>
 cLs cs fun xs l1=>
 cInt IntKind.i64 l1 fun n l2=>
 cLs l2 fun xs1 l3=>
 cBool l3 fun b1 l4=>
 unNil l4<|
 unEnd l<|
 br b
 (askK D (Key.fn 126) [iv 0,AV.ls []] [] fun r1 o1=>
 unAgg r1 fun cs1=>
 cInt IntKind.i64 cs1 fun n1 l5=>
 cLs l5 fun xs2 l6=>
 cLs l6 fun xs3 l7=>
 cInt IntKind.i64 l7 fun n2 l8=>
 cStr l8 fun s l9=>
 cStr l9 fun s11 l10=>
 cLs l10 fun xs4 l11=>
 unNil l11<|
 unEnd o1<|
 some ((AV.tup [AV.agg [iv n1,AV.ls xs2,AV.ls xs3,iv n2,sv s,sv s11,AV.ls xs4],iv 0],[BO.set (ABlk.mk [AV.ls xs,iv n,AV.ls xs1,bv b1] true false)])))
 (askK D (Key.fn 93) [AV.ptr 0 0,sv (bstr [102,97,108,115,101])] [ABlk.mk [AV.ls xs,iv n,AV.ls xs1,bv b1] true false] fun r1 o1=>
 unBool r1 fun b2=>
 unOut o1 fun c1 l5=>
 unSet true false c1 fun cs1=>
 cLs cs1 fun xs2 l6=>
 cInt IntKind.i64 l6 fun n1 l7=>
 cLs l7 fun xs3 l8=>
 cBool l8 fun b3 l9=>
 unNil l9<|
 unEnd l5<|
 br b2
 (askK D (Key.fn 126) [iv 1,AV.ls []] [] fun r2 o2=>
 unAgg r2 fun cs2=>
 cInt IntKind.i64 cs2 fun n2 l10=>
 cLs l10 fun xs4 l11=>
 cLs l11 fun xs5 l12=>
 cInt IntKind.i64 l12 fun n3 l13=>
 cStr l13 fun s l14=>
 cStr l14 fun s11 l15=>
 cLs l15 fun xs6 l16=>
 unNil l16<|
 unEnd o2<|
 some ((AV.tup [AV.agg [iv n2,AV.ls xs4,AV.ls xs5,iv n3,sv s,sv s11,AV.ls xs6],iv 0],[BO.set (ABlk.mk [AV.ls xs2,iv n1,AV.ls xs3,bv b3] true false)])))
 (askK D (Key.fn 249) [AV.ptr 0 0] [ABlk.mk [AV.ls xs2,iv n1,AV.ls xs3,bv b3] true false] fun r2 o2=>
 unTup r2 fun cs2=>
 unCons cs2 fun c2 l10=>
 unAgg c2 fun cs3=>
 cInt IntKind.i64 cs3 fun n2 l11=>
 cLs l11 fun xs4 l12=>
 cLs l12 fun xs5 l13=>
 cInt IntKind.i64 l13 fun n3 l14=>
 cStr l14 fun s l15=>
 cStr l15 fun s11 l16=>
 cLs l16 fun xs6 l17=>
 unNil l17<|
 cInt IntKind.i64 l10 fun n4 l18=>
 unNil l18<|
 unOut o2 fun c3 l19=>
 unSet true false c3 fun cs4=>
 cLs cs4 fun xs7 l20=>
 cInt IntKind.i64 l20 fun n5 l21=>
 cLs l21 fun xs8 l22=>
 cBool l22 fun b4 l23=>
 unNil l23<|
 unEnd l19<|
 some ((AV.tup [AV.agg [iv n2,AV.ls xs4,AV.ls xs5,iv n3,sv s,sv s11,AV.ls xs6],iv n4],[BO.set (ABlk.mk [AV.ls xs7,iv n5,AV.ls xs8,bv b4] true false)])))):=by kernel_rfl

theorem e185a(A:Ar)(D:Orc)(s1:List (List AV))(s2:List (List AV))(s3:Int)(s4:List (List AV))(s5:Bool)(s6:List (List AV))(s7:Bool)(s8:List (List AV))(s9:List (List AV))(s10:List (List AV))(x1:ByteArray)(x2:Int)(x3:Int)(p_0:List (List AV))(p_1:Int)(p_2:List (List AV))(p_3:Bool):fnK A D ownC hn185 .n 185 mf185 [AV.agg [AV.ptr 0 0,AV.ls s1,AV.ls s2,iv s3,AV.ls s4,bv s5,AV.ls s6,bv s7,AV.ls s8,AV.ls s9,AV.ls s10],sv x1,iv x2,iv x3,AV.fn (Fn.func 186) [AV.agg [AV.ptr 0 0,AV.ls s1,AV.ls s2,iv s3,AV.ls s4,bv s5,AV.ls s6,bv s7,AV.ls s8,AV.ls s9,AV.ls s10]] []] [{ cells:=[AV.ls p_0,iv p_1,AV.ls p_2,bv p_3],st:=true,ex:=false }] =
 askK D (Key.fn 186) [AV.agg [AV.ptr 0 0,AV.ls s1,AV.ls s2,iv s3,AV.ls s4,bv s5,AV.ls s6,bv s7,AV.ls s8,AV.ls s9,AV.ls s10],iv x3] [ABlk.mk [AV.ls p_0,iv p_1,AV.ls p_2,bv p_3] true false] fun r o=>
 unTup r fun cs=>
 unCons cs fun c l=>
 unAgg c fun cs1=>
 cInt IntKind.i64 cs1 fun n l1=>
 cLs l1 fun xs l2=>
 cLs l2 fun xs1 l3=>
 cInt IntKind.i64 l3 fun n1 l4=>
 cStr l4 fun s l5=>
 cStr l5 fun s11 l6=>
 cLs l6 fun xs2 l7=>
 unNil l7<|
 cInt IntKind.i64 l fun n2 l8=>
 unNil l8<|
 unOut o fun c1 l9=>
 unSet true false c1 fun cs2=>
 cLs cs2 fun xs3 l10=>
 cInt IntKind.i64 l10 fun n3 l11=>
 cLs l11 fun xs4 l12=>
 cBool l12 fun b l13=>
 unNil l13<|
 unEnd l9<|
 askK D (Key.lp 185 0) [AV.agg [AV.ptr 0 0,AV.ls s1,AV.ls s2,iv s3,AV.ls s4,bv s5,AV.ls s6,bv s7,AV.ls s8,AV.ls s9,AV.ls s10],sv x1,iv x2,iv x3,AV.fn (Fn.func 186) [AV.agg [AV.ptr 0 0,AV.ls s1,AV.ls s2,iv s3,AV.ls s4,bv s5,AV.ls s6,bv s7,AV.ls s8,AV.ls s9,AV.ls s10]] [],AV.ptr 1 0,AV.ptr 2 0,AV.ptr 3 0,iv n2] [ABlk.mk [AV.ls xs3,iv n3,AV.ls xs4,bv b] true false,ABlk.mk [AV.ptr 0 0,AV.ls s1,AV.ls s2,iv s3,AV.ls s4,bv s5,AV.ls s6,bv s7,AV.ls s8,AV.ls s9,AV.ls s10] true false,ABlk.mk [iv 0,AV.ls [],AV.ls [],iv 0,sv (bstr []),sv (bstr []),AV.ls []] true false,ABlk.mk [iv n,AV.ls xs,AV.ls xs1,iv n1,sv s,sv s11,AV.ls xs2] true false] fun r1 o1=>
 unTup r1 fun cs3=>
 unCons cs3 fun c2 l14=>
 br (axIs 1 c2)
 (unCons l14 fun c3 l15=>
 unAgg c3 fun cs4=>
 unCons cs4 fun c4 l16=>
 unPtr 0 0 c4<|
 cLs l16 fun _ l17=>
 cLs l17 fun _ l18=>
 cInt IntKind.i64 l18 fun _ l19=>
 cLs l19 fun _ l20=>
 cBool l20 fun _ l21=>
 cLs l21 fun _ l22=>
 cBool l22 fun _ l23=>
 cLs l23 fun _ l24=>
 cLs l24 fun _ l25=>
 cLs l25 fun _ l26=>
 unNil l26<|
 unCons l15 fun c5 l27=>
 unPtr 2 0 c5<|
 unCons l27 fun c6 l28=>
 unPtr 3 0 c6<|
 cInt IntKind.i64 l28 fun n5 l29=>
 unNil l29<|
 unOut o1 fun c7 l30=>
 unSet true false c7 fun cs5=>
 cLs cs5 fun xs12 l31=>
 cInt IntKind.i64 l31 fun n6 l32=>
 cLs l32 fun xs13 l33=>
 cBool l33 fun b3 l34=>
 unNil l34<|
 unOut l30 fun c8 l35=>
 unDel c8<|
 unOut l35 fun c9 l36=>
 unSet true false c9 fun cs6=>
 cInt IntKind.i64 cs6 fun _ l37=>
 cLs l37 fun _ l38=>
 cLs l38 fun _ l39=>
 cInt IntKind.i64 l39 fun _ l40=>
 cStr l40 fun _ l41=>
 cStr l41 fun _ l42=>
 cLs l42 fun _ l43=>
 unNil l43<|
 unOut l36 fun c10 l44=>
 unSet true false c10 fun cs7=>
 cInt IntKind.i64 cs7 fun n9 l45=>
 cLs l45 fun xs17 l46=>
 cLs l46 fun xs18 l47=>
 cInt IntKind.i64 l47 fun n10 l48=>
 cStr l48 fun s14 l49=>
 cStr l49 fun s15 l50=>
 cLs l50 fun xs19 l51=>
 unNil l51<|
 unEnd l44<|
 some ((AV.tup [AV.agg [iv n9,AV.ls xs17,AV.ls xs18,iv n10,sv s14,sv s15,AV.ls xs19],iv n5],[BO.set (ABlk.mk [AV.ls xs12,iv n6,AV.ls xs13,bv b3] true false)])))
 (none):=by kernel_rfl

theorem e185a_0(A:Ar)(D:Orc)(t1:ByteArray)(t2:Int)(t3:Int)(s1:List (List AV))(s2:List (List AV))(s3:Int)(s4:List (List AV))(s5:Bool)(s6:List (List AV))(s7:Bool)(s8:List (List AV))(s9:List (List AV))(s10:List (List AV))(p_0:List (List AV))(p_1:Int)(p_2:List (List AV))(p_3:Bool)(a0:Int)(a1:List (List AV))(a2:List (List AV))(a3:Int)(a4:ByteArray)(a5:ByteArray)(a6:List (List AV))(b0:Int)(b1:List (List AV))(b2:List (List AV))(b3:Int)(b4:ByteArray)(b5:ByteArray)(b6:List (List AV))(t13:Int):lpK A D ownC hn185 .n 185 0 (lpAt mf185 0).fst (lpAt mf185 0).snd [AV.agg [AV.ptr 0 0,AV.ls s1,AV.ls s2,iv s3,AV.ls s4,bv s5,AV.ls s6,bv s7,AV.ls s8,AV.ls s9,AV.ls s10],sv t1,iv t2,iv t3,AV.fn (Fn.func 186) [AV.agg [AV.ptr 0 0,AV.ls s1,AV.ls s2,iv s3,AV.ls s4,bv s5,AV.ls s6,bv s7,AV.ls s8,AV.ls s9,AV.ls s10]] [],AV.ptr 1 0,AV.ptr 2 0,AV.ptr 3 0,iv t13] [{ cells:=[AV.ls p_0,iv p_1,AV.ls p_2,bv p_3],st:=true,ex:=false },{ cells:=[AV.ptr 0 0,AV.ls s1,AV.ls s2,iv s3,AV.ls s4,bv s5,AV.ls s6,bv s7,AV.ls s8,AV.ls s9,AV.ls s10],st:=true,ex:=false },{ cells:=[iv a0,AV.ls a1,AV.ls a2,iv a3,sv a4,sv a5,AV.ls a6],st:=true,ex:=false },{ cells:=[iv b0,AV.ls b1,AV.ls b2,iv b3,sv b4,sv b5,AV.ls b6],st:=true,ex:=false }] =
 br (A.eq t13 0)
 (askK D (Key.fn 93) [AV.ptr 0 0,sv t1] [ABlk.mk [AV.ls p_0,iv p_1,AV.ls p_2,bv p_3] true false] fun r o=>
 unBool r fun b=>
 unOut o fun c l=>
 unSet true false c fun cs=>
 cLs cs fun xs l1=>
 cInt IntKind.i64 l1 fun n l2=>
 cLs l2 fun xs1 l3=>
 cBool l3 fun b7 l4=>
 unNil l4<|
 unEnd l<|
 br b
 (askK D (Key.fn 186) [AV.agg [AV.ptr 0 0,AV.ls s1,AV.ls s2,iv s3,AV.ls s4,bv s5,AV.ls s6,bv s7,AV.ls s8,AV.ls s9,AV.ls s10],iv t3] [ABlk.mk [AV.ls xs,iv n,AV.ls xs1,bv b7] true false] fun r1 o1=>
 unTup r1 fun cs1=>
 unCons cs1 fun c1 l5=>
 unAgg c1 fun cs2=>
 cInt IntKind.i64 cs2 fun n1 l6=>
 cLs l6 fun xs2 l7=>
 cLs l7 fun xs3 l8=>
 cInt IntKind.i64 l8 fun n2 l9=>
 cStr l9 fun s l10=>
 cStr l10 fun s11 l11=>
 cLs l11 fun xs4 l12=>
 unNil l12<|
 cInt IntKind.i64 l5 fun n3 l13=>
 unNil l13<|
 unOut o1 fun c2 l14=>
 unSet true false c2 fun cs3=>
 cLs cs3 fun xs5 l15=>
 cInt IntKind.i64 l15 fun n4 l16=>
 cLs l16 fun xs6 l17=>
 cBool l17 fun b8 l18=>
 unNil l18<|
 unEnd l14<|
 br (A.eq n3 0)
 (askK D (Key.fn 126) [iv t2,AV.ls [[iv b0,AV.ls b1,AV.ls b2,iv b3,sv b4,sv b5,AV.ls b6],[iv n1,AV.ls xs2,AV.ls xs3,iv n2,sv s,sv s11,AV.ls xs4]]] [] fun r2 o2=>
 unAgg r2 fun cs4=>
 cInt IntKind.i64 cs4 fun n5 l19=>
 cLs l19 fun xs7 l20=>
 cLs l20 fun xs8 l21=>
 cInt IntKind.i64 l21 fun n6 l22=>
 cStr l22 fun s12 l23=>
 cStr l23 fun s13 l24=>
 cLs l24 fun xs9 l25=>
 unNil l25<|
 unEnd o2<|
 askK D (Key.lp 185 0) [AV.agg [AV.ptr 0 0,AV.ls s1,AV.ls s2,iv s3,AV.ls s4,bv s5,AV.ls s6,bv s7,AV.ls s8,AV.ls s9,AV.ls s10],sv t1,iv t2,iv t3,AV.fn (Fn.func 186) [AV.agg [AV.ptr 0 0,AV.ls s1,AV.ls s2,iv s3,AV.ls s4,bv s5,AV.ls s6,bv s7,AV.ls s8,AV.ls s9,AV.ls s10]] [],AV.ptr 1 0,AV.ptr 2 0,AV.ptr 3 0,iv n3] [ABlk.mk [AV.ls xs5,iv n4,AV.ls xs6,bv b8] true false,ABlk.mk [AV.ptr 0 0,AV.ls s1,AV.ls s2,iv s3,AV.ls s4,bv s5,AV.ls s6,bv s7,AV.ls s8,AV.ls s9,AV.ls s10] true false,ABlk.mk [iv a0,AV.ls a1,AV.ls a2,iv a3,sv a4,sv a5,AV.ls a6] true false,ABlk.mk [iv n5,AV.ls xs7,AV.ls xs8,iv n6,sv s12,sv s13,AV.ls xs9] true false] fun r3 o3=>
 tailK 4 [0,1,2,3] (AH.mk [(3,ABlk.mk [iv n5,AV.ls xs7,AV.ls xs8,iv n6,sv s12,sv s13,AV.ls xs9] true false),(2,ABlk.mk [iv a0,AV.ls a1,AV.ls a2,iv a3,sv a4,sv a5,AV.ls a6] true false),(1,ABlk.mk [AV.ptr 0 0,AV.ls s1,AV.ls s2,iv s3,AV.ls s4,bv s5,AV.ls s6,bv s7,AV.ls s8,AV.ls s9,AV.ls s10] true false),(5,ABlk.mk [iv b0,AV.ls b1,AV.ls b2,iv b3,sv b4,sv b5,AV.ls b6,iv n1,AV.ls xs2,AV.ls xs3,iv n2,sv s,sv s11,AV.ls xs4] false true),(4,ABlk.mk [iv n1,AV.ls xs2,AV.ls xs3,iv n2,sv s,sv s11,AV.ls xs4] true false),(0,ABlk.mk [AV.ls xs5,iv n4,AV.ls xs6,bv b8] true false)] 6 none) [0,1,2,3] r3 o3)
 (askK D (Key.lp 185 0) [AV.agg [AV.ptr 0 0,AV.ls s1,AV.ls s2,iv s3,AV.ls s4,bv s5,AV.ls s6,bv s7,AV.ls s8,AV.ls s9,AV.ls s10],sv t1,iv t2,iv t3,AV.fn (Fn.func 186) [AV.agg [AV.ptr 0 0,AV.ls s1,AV.ls s2,iv s3,AV.ls s4,bv s5,AV.ls s6,bv s7,AV.ls s8,AV.ls s9,AV.ls s10]] [],AV.ptr 1 0,AV.ptr 2 0,AV.ptr 3 0,iv n3] [ABlk.mk [AV.ls xs5,iv n4,AV.ls xs6,bv b8] true false,ABlk.mk [AV.ptr 0 0,AV.ls s1,AV.ls s2,iv s3,AV.ls s4,bv s5,AV.ls s6,bv s7,AV.ls s8,AV.ls s9,AV.ls s10] true false,ABlk.mk [iv a0,AV.ls a1,AV.ls a2,iv a3,sv a4,sv a5,AV.ls a6] true false,ABlk.mk [iv b0,AV.ls b1,AV.ls b2,iv b3,sv b4,sv b5,AV.ls b6] true false] fun r2 o2=>
 tailK 4 [0,1,2,3] (AH.mk [(3,ABlk.mk [iv b0,AV.ls b1,AV.ls b2,iv b3,sv b4,sv b5,AV.ls b6] true false),(2,ABlk.mk [iv a0,AV.ls a1,AV.ls a2,iv a3,sv a4,sv a5,AV.ls a6] true false),(1,ABlk.mk [AV.ptr 0 0,AV.ls s1,AV.ls s2,iv s3,AV.ls s4,bv s5,AV.ls s6,bv s7,AV.ls s8,AV.ls s9,AV.ls s10] true false),(4,ABlk.mk [iv n1,AV.ls xs2,AV.ls xs3,iv n2,sv s,sv s11,AV.ls xs4] true false),(0,ABlk.mk [AV.ls xs5,iv n4,AV.ls xs6,bv b8] true false)] 5 none) [0,1,2,3] r2 o2))
 (some ((AV.tup [iv 0,AV.agg [AV.ptr 0 0,AV.ls s1,AV.ls s2,iv s3,AV.ls s4,bv s5,AV.ls s6,bv s7,AV.ls s8,AV.ls s9,AV.ls s10],AV.ptr 2 0,AV.ptr 3 0,iv t13],[BO.set (ABlk.mk [AV.ls xs,iv n,AV.ls xs1,bv b7] true false),BO.del,BO.set (ABlk.mk [iv a0,AV.ls a1,AV.ls a2,iv a3,sv a4,sv a5,AV.ls a6] true false),BO.set (ABlk.mk [iv b0,AV.ls b1,AV.ls b2,iv b3,sv b4,sv b5,AV.ls b6] true false)]))))
 (some ((AV.tup [iv 0,AV.agg [AV.ptr 0 0,AV.ls s1,AV.ls s2,iv s3,AV.ls s4,bv s5,AV.ls s6,bv s7,AV.ls s8,AV.ls s9,AV.ls s10],AV.ptr 2 0,AV.ptr 3 0,iv t13],[BO.set (ABlk.mk [AV.ls p_0,iv p_1,AV.ls p_2,bv p_3] true false),BO.del,BO.set (ABlk.mk [iv a0,AV.ls a1,AV.ls a2,iv a3,sv a4,sv a5,AV.ls a6] true false),BO.set (ABlk.mk [iv b0,AV.ls b1,AV.ls b2,iv b3,sv b4,sv b5,AV.ls b6] true false)]))):=by kernel_rfl

theorem e185b(A:Ar)(D:Orc)(s1:List (List AV))(s2:List (List AV))(s3:Int)(s4:List (List AV))(s5:Bool)(s6:List (List AV))(s7:Bool)(s8:List (List AV))(s9:List (List AV))(s10:List (List AV))(x1:ByteArray)(x2:Int)(x3:Int)(p_0:List (List AV))(p_1:Int)(p_2:List (List AV))(p_3:Bool):fnK A D ownC hn185 .n 185 mf185 [AV.agg [AV.ptr 0 0,AV.ls s1,AV.ls s2,iv s3,AV.ls s4,bv s5,AV.ls s6,bv s7,AV.ls s8,AV.ls s9,AV.ls s10],sv x1,iv x2,iv x3,AV.fn (Fn.func 230) [AV.agg [AV.ptr 0 0,AV.ls s1,AV.ls s2,iv s3,AV.ls s4,bv s5,AV.ls s6,bv s7,AV.ls s8,AV.ls s9,AV.ls s10]] []] [{ cells:=[AV.ls p_0,iv p_1,AV.ls p_2,bv p_3],st:=true,ex:=false }] =
 askK D (Key.fn 230) [AV.agg [AV.ptr 0 0,AV.ls s1,AV.ls s2,iv s3,AV.ls s4,bv s5,AV.ls s6,bv s7,AV.ls s8,AV.ls s9,AV.ls s10],iv x3] [ABlk.mk [AV.ls p_0,iv p_1,AV.ls p_2,bv p_3] true false] fun r o=>
 unTup r fun cs=>
 unCons cs fun c l=>
 unAgg c fun cs1=>
 cInt IntKind.i64 cs1 fun n l1=>
 cLs l1 fun xs l2=>
 cLs l2 fun xs1 l3=>
 cInt IntKind.i64 l3 fun n1 l4=>
 cStr l4 fun s l5=>
 cStr l5 fun s11 l6=>
 cLs l6 fun xs2 l7=>
 unNil l7<|
 cInt IntKind.i64 l fun n2 l8=>
 unNil l8<|
 unOut o fun c1 l9=>
 unSet true false c1 fun cs2=>
 cLs cs2 fun xs3 l10=>
 cInt IntKind.i64 l10 fun n3 l11=>
 cLs l11 fun xs4 l12=>
 cBool l12 fun b l13=>
 unNil l13<|
 unEnd l9<|
 askK D (Key.lp 185 0) [AV.agg [AV.ptr 0 0,AV.ls s1,AV.ls s2,iv s3,AV.ls s4,bv s5,AV.ls s6,bv s7,AV.ls s8,AV.ls s9,AV.ls s10],sv x1,iv x2,iv x3,AV.fn (Fn.func 230) [AV.agg [AV.ptr 0 0,AV.ls s1,AV.ls s2,iv s3,AV.ls s4,bv s5,AV.ls s6,bv s7,AV.ls s8,AV.ls s9,AV.ls s10]] [],AV.ptr 1 0,AV.ptr 2 0,AV.ptr 3 0,iv n2] [ABlk.mk [AV.ls xs3,iv n3,AV.ls xs4,bv b] true false,ABlk.mk [AV.ptr 0 0,AV.ls s1,AV.ls s2,iv s3,AV.ls s4,bv s5,AV.ls s6,bv s7,AV.ls s8,AV.ls s9,AV.ls s10] true false,ABlk.mk [iv 0,AV.ls [],AV.ls [],iv 0,sv (bstr []),sv (bstr []),AV.ls []] true false,ABlk.mk [iv n,AV.ls xs,AV.ls xs1,iv n1,sv s,sv s11,AV.ls xs2] true false] fun r1 o1=>
 unTup r1 fun cs3=>
 unCons cs3 fun c2 l14=>
 br (axIs 1 c2)
 (unCons l14 fun c3 l15=>
 unAgg c3 fun cs4=>
 unCons cs4 fun c4 l16=>
 unPtr 0 0 c4<|
 cLs l16 fun _ l17=>
 cLs l17 fun _ l18=>
 cInt IntKind.i64 l18 fun _ l19=>
 cLs l19 fun _ l20=>
 cBool l20 fun _ l21=>
 cLs l21 fun _ l22=>
 cBool l22 fun _ l23=>
 cLs l23 fun _ l24=>
 cLs l24 fun _ l25=>
 cLs l25 fun _ l26=>
 unNil l26<|
 unCons l15 fun c5 l27=>
 unPtr 2 0 c5<|
 unCons l27 fun c6 l28=>
 unPtr 3 0 c6<|
 cInt IntKind.i64 l28 fun n5 l29=>
 unNil l29<|
 unOut o1 fun c7 l30=>
 unSet true false c7 fun cs5=>
 cLs cs5 fun xs12 l31=>
 cInt IntKind.i64 l31 fun n6 l32=>
 cLs l32 fun xs13 l33=>
 cBool l33 fun b3 l34=>
 unNil l34<|
 unOut l30 fun c8 l35=>
 unDel c8<|
 unOut l35 fun c9 l36=>
 unSet true false c9 fun cs6=>
 cInt IntKind.i64 cs6 fun _ l37=>
 cLs l37 fun _ l38=>
 cLs l38 fun _ l39=>
 cInt IntKind.i64 l39 fun _ l40=>
 cStr l40 fun _ l41=>
 cStr l41 fun _ l42=>
 cLs l42 fun _ l43=>
 unNil l43<|
 unOut l36 fun c10 l44=>
 unSet true false c10 fun cs7=>
 cInt IntKind.i64 cs7 fun n9 l45=>
 cLs l45 fun xs17 l46=>
 cLs l46 fun xs18 l47=>
 cInt IntKind.i64 l47 fun n10 l48=>
 cStr l48 fun s14 l49=>
 cStr l49 fun s15 l50=>
 cLs l50 fun xs19 l51=>
 unNil l51<|
 unEnd l44<|
 some ((AV.tup [AV.agg [iv n9,AV.ls xs17,AV.ls xs18,iv n10,sv s14,sv s15,AV.ls xs19],iv n5],[BO.set (ABlk.mk [AV.ls xs12,iv n6,AV.ls xs13,bv b3] true false)])))
 (none):=by kernel_rfl

theorem e185b_0(A:Ar)(D:Orc)(t1:ByteArray)(t2:Int)(t3:Int)(s1:List (List AV))(s2:List (List AV))(s3:Int)(s4:List (List AV))(s5:Bool)(s6:List (List AV))(s7:Bool)(s8:List (List AV))(s9:List (List AV))(s10:List (List AV))(p_0:List (List AV))(p_1:Int)(p_2:List (List AV))(p_3:Bool)(a0:Int)(a1:List (List AV))(a2:List (List AV))(a3:Int)(a4:ByteArray)(a5:ByteArray)(a6:List (List AV))(b0:Int)(b1:List (List AV))(b2:List (List AV))(b3:Int)(b4:ByteArray)(b5:ByteArray)(b6:List (List AV))(t13:Int):lpK A D ownC hn185 .n 185 0 (lpAt mf185 0).fst (lpAt mf185 0).snd [AV.agg [AV.ptr 0 0,AV.ls s1,AV.ls s2,iv s3,AV.ls s4,bv s5,AV.ls s6,bv s7,AV.ls s8,AV.ls s9,AV.ls s10],sv t1,iv t2,iv t3,AV.fn (Fn.func 230) [AV.agg [AV.ptr 0 0,AV.ls s1,AV.ls s2,iv s3,AV.ls s4,bv s5,AV.ls s6,bv s7,AV.ls s8,AV.ls s9,AV.ls s10]] [],AV.ptr 1 0,AV.ptr 2 0,AV.ptr 3 0,iv t13] [{ cells:=[AV.ls p_0,iv p_1,AV.ls p_2,bv p_3],st:=true,ex:=false },{ cells:=[AV.ptr 0 0,AV.ls s1,AV.ls s2,iv s3,AV.ls s4,bv s5,AV.ls s6,bv s7,AV.ls s8,AV.ls s9,AV.ls s10],st:=true,ex:=false },{ cells:=[iv a0,AV.ls a1,AV.ls a2,iv a3,sv a4,sv a5,AV.ls a6],st:=true,ex:=false },{ cells:=[iv b0,AV.ls b1,AV.ls b2,iv b3,sv b4,sv b5,AV.ls b6],st:=true,ex:=false }] =
 br (A.eq t13 0)
 (askK D (Key.fn 93) [AV.ptr 0 0,sv t1] [ABlk.mk [AV.ls p_0,iv p_1,AV.ls p_2,bv p_3] true false] fun r o=>
 unBool r fun b=>
 unOut o fun c l=>
 unSet true false c fun cs=>
 cLs cs fun xs l1=>
 cInt IntKind.i64 l1 fun n l2=>
 cLs l2 fun xs1 l3=>
 cBool l3 fun b7 l4=>
 unNil l4<|
 unEnd l<|
 br b
 (askK D (Key.fn 230) [AV.agg [AV.ptr 0 0,AV.ls s1,AV.ls s2,iv s3,AV.ls s4,bv s5,AV.ls s6,bv s7,AV.ls s8,AV.ls s9,AV.ls s10],iv t3] [ABlk.mk [AV.ls xs,iv n,AV.ls xs1,bv b7] true false] fun r1 o1=>
 unTup r1 fun cs1=>
 unCons cs1 fun c1 l5=>
 unAgg c1 fun cs2=>
 cInt IntKind.i64 cs2 fun n1 l6=>
 cLs l6 fun xs2 l7=>
 cLs l7 fun xs3 l8=>
 cInt IntKind.i64 l8 fun n2 l9=>
 cStr l9 fun s l10=>
 cStr l10 fun s11 l11=>
 cLs l11 fun xs4 l12=>
 unNil l12<|
 cInt IntKind.i64 l5 fun n3 l13=>
 unNil l13<|
 unOut o1 fun c2 l14=>
 unSet true false c2 fun cs3=>
 cLs cs3 fun xs5 l15=>
 cInt IntKind.i64 l15 fun n4 l16=>
 cLs l16 fun xs6 l17=>
 cBool l17 fun b8 l18=>
 unNil l18<|
 unEnd l14<|
 br (A.eq n3 0)
 (askK D (Key.fn 126) [iv t2,AV.ls [[iv b0,AV.ls b1,AV.ls b2,iv b3,sv b4,sv b5,AV.ls b6],[iv n1,AV.ls xs2,AV.ls xs3,iv n2,sv s,sv s11,AV.ls xs4]]] [] fun r2 o2=>
 unAgg r2 fun cs4=>
 cInt IntKind.i64 cs4 fun n5 l19=>
 cLs l19 fun xs7 l20=>
 cLs l20 fun xs8 l21=>
 cInt IntKind.i64 l21 fun n6 l22=>
 cStr l22 fun s12 l23=>
 cStr l23 fun s13 l24=>
 cLs l24 fun xs9 l25=>
 unNil l25<|
 unEnd o2<|
 askK D (Key.lp 185 0) [AV.agg [AV.ptr 0 0,AV.ls s1,AV.ls s2,iv s3,AV.ls s4,bv s5,AV.ls s6,bv s7,AV.ls s8,AV.ls s9,AV.ls s10],sv t1,iv t2,iv t3,AV.fn (Fn.func 230) [AV.agg [AV.ptr 0 0,AV.ls s1,AV.ls s2,iv s3,AV.ls s4,bv s5,AV.ls s6,bv s7,AV.ls s8,AV.ls s9,AV.ls s10]] [],AV.ptr 1 0,AV.ptr 2 0,AV.ptr 3 0,iv n3] [ABlk.mk [AV.ls xs5,iv n4,AV.ls xs6,bv b8] true false,ABlk.mk [AV.ptr 0 0,AV.ls s1,AV.ls s2,iv s3,AV.ls s4,bv s5,AV.ls s6,bv s7,AV.ls s8,AV.ls s9,AV.ls s10] true false,ABlk.mk [iv a0,AV.ls a1,AV.ls a2,iv a3,sv a4,sv a5,AV.ls a6] true false,ABlk.mk [iv n5,AV.ls xs7,AV.ls xs8,iv n6,sv s12,sv s13,AV.ls xs9] true false] fun r3 o3=>
 tailK 4 [0,1,2,3] (AH.mk [(3,ABlk.mk [iv n5,AV.ls xs7,AV.ls xs8,iv n6,sv s12,sv s13,AV.ls xs9] true false),(2,ABlk.mk [iv a0,AV.ls a1,AV.ls a2,iv a3,sv a4,sv a5,AV.ls a6] true false),(1,ABlk.mk [AV.ptr 0 0,AV.ls s1,AV.ls s2,iv s3,AV.ls s4,bv s5,AV.ls s6,bv s7,AV.ls s8,AV.ls s9,AV.ls s10] true false),(5,ABlk.mk [iv b0,AV.ls b1,AV.ls b2,iv b3,sv b4,sv b5,AV.ls b6,iv n1,AV.ls xs2,AV.ls xs3,iv n2,sv s,sv s11,AV.ls xs4] false true),(4,ABlk.mk [iv n1,AV.ls xs2,AV.ls xs3,iv n2,sv s,sv s11,AV.ls xs4] true false),(0,ABlk.mk [AV.ls xs5,iv n4,AV.ls xs6,bv b8] true false)] 6 none) [0,1,2,3] r3 o3)
 (askK D (Key.lp 185 0) [AV.agg [AV.ptr 0 0,AV.ls s1,AV.ls s2,iv s3,AV.ls s4,bv s5,AV.ls s6,bv s7,AV.ls s8,AV.ls s9,AV.ls s10],sv t1,iv t2,iv t3,AV.fn (Fn.func 230) [AV.agg [AV.ptr 0 0,AV.ls s1,AV.ls s2,iv s3,AV.ls s4,bv s5,AV.ls s6,bv s7,AV.ls s8,AV.ls s9,AV.ls s10]] [],AV.ptr 1 0,AV.ptr 2 0,AV.ptr 3 0,iv n3] [ABlk.mk [AV.ls xs5,iv n4,AV.ls xs6,bv b8] true false,ABlk.mk [AV.ptr 0 0,AV.ls s1,AV.ls s2,iv s3,AV.ls s4,bv s5,AV.ls s6,bv s7,AV.ls s8,AV.ls s9,AV.ls s10] true false,ABlk.mk [iv a0,AV.ls a1,AV.ls a2,iv a3,sv a4,sv a5,AV.ls a6] true false,ABlk.mk [iv b0,AV.ls b1,AV.ls b2,iv b3,sv b4,sv b5,AV.ls b6] true false] fun r2 o2=>
 tailK 4 [0,1,2,3] (AH.mk [(3,ABlk.mk [iv b0,AV.ls b1,AV.ls b2,iv b3,sv b4,sv b5,AV.ls b6] true false),(2,ABlk.mk [iv a0,AV.ls a1,AV.ls a2,iv a3,sv a4,sv a5,AV.ls a6] true false),(1,ABlk.mk [AV.ptr 0 0,AV.ls s1,AV.ls s2,iv s3,AV.ls s4,bv s5,AV.ls s6,bv s7,AV.ls s8,AV.ls s9,AV.ls s10] true false),(4,ABlk.mk [iv n1,AV.ls xs2,AV.ls xs3,iv n2,sv s,sv s11,AV.ls xs4] true false),(0,ABlk.mk [AV.ls xs5,iv n4,AV.ls xs6,bv b8] true false)] 5 none) [0,1,2,3] r2 o2))
 (some ((AV.tup [iv 0,AV.agg [AV.ptr 0 0,AV.ls s1,AV.ls s2,iv s3,AV.ls s4,bv s5,AV.ls s6,bv s7,AV.ls s8,AV.ls s9,AV.ls s10],AV.ptr 2 0,AV.ptr 3 0,iv t13],[BO.set (ABlk.mk [AV.ls xs,iv n,AV.ls xs1,bv b7] true false),BO.del,BO.set (ABlk.mk [iv a0,AV.ls a1,AV.ls a2,iv a3,sv a4,sv a5,AV.ls a6] true false),BO.set (ABlk.mk [iv b0,AV.ls b1,AV.ls b2,iv b3,sv b4,sv b5,AV.ls b6] true false)]))))
 (some ((AV.tup [iv 0,AV.agg [AV.ptr 0 0,AV.ls s1,AV.ls s2,iv s3,AV.ls s4,bv s5,AV.ls s6,bv s7,AV.ls s8,AV.ls s9,AV.ls s10],AV.ptr 2 0,AV.ptr 3 0,iv t13],[BO.set (ABlk.mk [AV.ls p_0,iv p_1,AV.ls p_2,bv p_3] true false),BO.del,BO.set (ABlk.mk [iv a0,AV.ls a1,AV.ls a2,iv a3,sv a4,sv a5,AV.ls a6] true false),BO.set (ABlk.mk [iv b0,AV.ls b1,AV.ls b2,iv b3,sv b4,sv b5,AV.ls b6] true false)]))):=by kernel_rfl

theorem e186(A:Ar)(D:Orc)(s1:List (List AV))(s2:List (List AV))(s3:Int)(s4:List (List AV))(s5:Bool)(s6:List (List AV))(s7:Bool)(s8:List (List AV))(s9:List (List AV))(s10:List (List AV))(x1:Int)(p_0:List (List AV))(p_1:Int)(p_2:List (List AV))(p_3:Bool):fnK A D ownC hn186 .n 186 mf186 [AV.agg [AV.ptr 0 0,AV.ls s1,AV.ls s2,iv s3,AV.ls s4,bv s5,AV.ls s6,bv s7,AV.ls s8,AV.ls s9,AV.ls s10],iv x1] [{ cells:=[AV.ls p_0,iv p_1,AV.ls p_2,bv p_3],st:=true,ex:=false }] =
 askK D (Key.fn 185) [AV.agg [AV.ptr 0 0,AV.ls s1,AV.ls s2,iv s3,AV.ls s4,bv s5,AV.ls s6,bv s7,AV.ls s8,AV.ls s9,AV.ls s10],sv (bstr [38]),iv 4,iv x1,AV.fn (Fn.func 230) [AV.agg [AV.ptr 0 0,AV.ls s1,AV.ls s2,iv s3,AV.ls s4,bv s5,AV.ls s6,bv s7,AV.ls s8,AV.ls s9,AV.ls s10]] []] [ABlk.mk [AV.ls p_0,iv p_1,AV.ls p_2,bv p_3] true false] fun r o=>
 unTup r fun cs=>
 unCons cs fun c l=>
 unAgg c fun cs1=>
 cInt IntKind.i64 cs1 fun n l1=>
 cLs l1 fun xs l2=>
 cLs l2 fun xs1 l3=>
 cInt IntKind.i64 l3 fun n1 l4=>
 cStr l4 fun s l5=>
 cStr l5 fun s11 l6=>
 cLs l6 fun xs2 l7=>
 unNil l7<|
 cInt IntKind.i64 l fun n2 l8=>
 unNil l8<|
 unOut o fun c1 l9=>
 unSet true false c1 fun cs2=>
 cLs cs2 fun xs3 l10=>
 cInt IntKind.i64 l10 fun n3 l11=>
 cLs l11 fun xs4 l12=>
 cBool l12 fun b l13=>
 unNil l13<|
 unEnd l9<|
 some ((AV.tup [AV.agg [iv n,AV.ls xs,AV.ls xs1,iv n1,sv s,sv s11,AV.ls xs2],iv n2],[BO.set (ABlk.mk [AV.ls xs3,iv n3,AV.ls xs4,bv b] true false)])):=by kernel_rfl

theorem e125(A:Ar)(D:Orc)(s1:List (List AV))(s2:List (List AV))(s3:Int)(s4:List (List AV))(s5:Bool)(s6:List (List AV))(s7:Bool)(s8:List (List AV))(s9:List (List AV))(s10:List (List AV))(x1:Int)(p_0:List (List AV))(p_1:Int)(p_2:List (List AV))(p_3:Bool):fnK A D ownC hn125 .n 125 mf125 [AV.agg [AV.ptr 0 0,AV.ls s1,AV.ls s2,iv s3,AV.ls s4,bv s5,AV.ls s6,bv s7,AV.ls s8,AV.ls s9,AV.ls s10],iv x1] [{ cells:=[AV.ls p_0,iv p_1,AV.ls p_2,bv p_3],st:=true,ex:=false }] =
 askK D (Key.fn 185) [AV.agg [AV.ptr 0 0,AV.ls s1,AV.ls s2,iv s3,AV.ls s4,bv s5,AV.ls s6,bv s7,AV.ls s8,AV.ls s9,AV.ls s10],sv (bstr [124]),iv 5,iv x1,AV.fn (Fn.func 186) [AV.agg [AV.ptr 0 0,AV.ls s1,AV.ls s2,iv s3,AV.ls s4,bv s5,AV.ls s6,bv s7,AV.ls s8,AV.ls s9,AV.ls s10]] []] [ABlk.mk [AV.ls p_0,iv p_1,AV.ls p_2,bv p_3] true false] fun r o=>
 unTup r fun cs=>
 unCons cs fun c l=>
 unAgg c fun cs1=>
 cInt IntKind.i64 cs1 fun n l1=>
 cLs l1 fun xs l2=>
 cLs l2 fun xs1 l3=>
 cInt IntKind.i64 l3 fun n1 l4=>
 cStr l4 fun s l5=>
 cStr l5 fun s11 l6=>
 cLs l6 fun xs2 l7=>
 unNil l7<|
 cInt IntKind.i64 l fun n2 l8=>
 unNil l8<|
 unOut o fun c1 l9=>
 unSet true false c1 fun cs2=>
 cLs cs2 fun xs3 l10=>
 cInt IntKind.i64 l10 fun n3 l11=>
 cLs l11 fun xs4 l12=>
 cBool l12 fun b l13=>
 unNil l13<|
 unEnd l9<|
 some ((AV.tup [AV.agg [iv n,AV.ls xs,AV.ls xs1,iv n1,sv s,sv s11,AV.ls xs2],iv n2],[BO.set (ABlk.mk [AV.ls xs3,iv n3,AV.ls xs4,bv b] true false)])):=by kernel_rfl

theorem e230(A:Ar)(D:Orc)(s1:List (List AV))(s2:List (List AV))(s3:Int)(s4:List (List AV))(s5:Bool)(s6:List (List AV))(s7:Bool)(s8:List (List AV))(s9:List (List AV))(s10:List (List AV))(x1:Int)(p_0:List (List AV))(p_1:Int)(p_2:List (List AV))(p_3:Bool):fnK A D ownC hn230 .n 230 mf230 [AV.agg [AV.ptr 0 0,AV.ls s1,AV.ls s2,iv s3,AV.ls s4,bv s5,AV.ls s6,bv s7,AV.ls s8,AV.ls s9,AV.ls s10],iv x1] [{ cells:=[AV.ls p_0,iv p_1,AV.ls p_2,bv p_3],st:=true,ex:=false }] =
 askK D (Key.fn 252) [AV.agg [AV.ptr 0 0,AV.ls s1,AV.ls s2,iv s3,AV.ls s4,bv s5,AV.ls s6,bv s7,AV.ls s8,AV.ls s9,AV.ls s10],iv x1] [ABlk.mk [AV.ls p_0,iv p_1,AV.ls p_2,bv p_3] true false] fun r o=>
 unTup r fun cs=>
 unCons cs fun c l=>
 unAgg c fun cs1=>
 cInt IntKind.i64 cs1 fun n l1=>
 cLs l1 fun xs l2=>
 cLs l2 fun xs1 l3=>
 cInt IntKind.i64 l3 fun n1 l4=>
 cStr l4 fun s l5=>
 cStr l5 fun s11 l6=>
 cLs l6 fun xs2 l7=>
 unNil l7<|
 cInt IntKind.i64 l fun n2 l8=>
 unNil l8<|
 unOut o fun c1 l9=>
 unSet true false c1 fun cs2=>
 cLs cs2 fun xs3 l10=>
 cInt IntKind.i64 l10 fun n3 l11=>
 cLs l11 fun xs4 l12=>
 cBool l12 fun b l13=>
 unNil l13<|
 unEnd l9<|
 br (A.eq n2 0)
 (askK D (Key.fn 93) [AV.ptr 0 0,sv (bstr [85])] [ABlk.mk [AV.ls xs3,iv n3,AV.ls xs4,bv b] true false] fun r1 o1=>
 unBool r1 fun b1=>
 unOut o1 fun c2 l14=>
 unSet true false c2 fun cs3=>
 cLs cs3 fun xs5 l15=>
 cInt IntKind.i64 l15 fun n4 l16=>
 cLs l16 fun xs6 l17=>
 cBool l17 fun b2 l18=>
 unNil l18<|
 unEnd l14<|
 br b1
 (askK D (Key.fn 230) [AV.agg [AV.ptr 0 0,AV.ls s1,AV.ls s2,iv s3,AV.ls s4,bv s5,AV.ls s6,bv s7,AV.ls s8,AV.ls s9,AV.ls s10],iv x1] [ABlk.mk [AV.ls xs5,iv n4,AV.ls xs6,bv b2] true false] fun r2 o2=>
 unTup r2 fun cs4=>
 unCons cs4 fun c3 l19=>
 unAgg c3 fun cs5=>
 cInt IntKind.i64 cs5 fun n5 l20=>
 cLs l20 fun xs7 l21=>
 cLs l21 fun xs8 l22=>
 cInt IntKind.i64 l22 fun n6 l23=>
 cStr l23 fun s12 l24=>
 cStr l24 fun s13 l25=>
 cLs l25 fun xs9 l26=>
 unNil l26<|
 cInt IntKind.i64 l19 fun n7 l27=>
 unNil l27<|
 unOut o2 fun c4 l28=>
 unSet true false c4 fun cs6=>
 cLs cs6 fun xs10 l29=>
 cInt IntKind.i64 l29 fun n8 l30=>
 cLs l30 fun xs11 l31=>
 cBool l31 fun b3 l32=>
 unNil l32<|
 unEnd l28<|
 askK D (Key.fn 126) [iv 11,AV.ls [[iv n,AV.ls xs,AV.ls xs1,iv n1,sv s,sv s11,AV.ls xs2],[iv n5,AV.ls xs7,AV.ls xs8,iv n6,sv s12,sv s13,AV.ls xs9]]] [] fun r3 o3=>
 unAgg r3 fun cs7=>
 cInt IntKind.i64 cs7 fun n9 l33=>
 cLs l33 fun xs12 l34=>
 cLs l34 fun xs13 l35=>
 cInt IntKind.i64 l35 fun n10 l36=>
 cStr l36 fun s14 l37=>
 cStr l37 fun s15 l38=>
 cLs l38 fun xs14 l39=>
 unNil l39<|
 unEnd o3<|
 some ((AV.tup [AV.agg [iv n9,AV.ls xs12,AV.ls xs13,iv n10,sv s14,sv s15,AV.ls xs14],iv n7],[BO.set (ABlk.mk [AV.ls xs10,iv n8,AV.ls xs11,bv b3] true false)])))
 (askK D (Key.fn 93) [AV.ptr 0 0,sv (bstr [82])] [ABlk.mk [AV.ls xs5,iv n4,AV.ls xs6,bv b2] true false] fun r2 o2=>
 unBool r2 fun b3=>
 unOut o2 fun c3 l19=>
 unSet true false c3 fun cs4=>
 cLs cs4 fun xs7 l20=>
 cInt IntKind.i64 l20 fun n5 l21=>
 cLs l21 fun xs8 l22=>
 cBool l22 fun b4 l23=>
 unNil l23<|
 unEnd l19<|
 br b3
 (askK D (Key.fn 230) [AV.agg [AV.ptr 0 0,AV.ls s1,AV.ls s2,iv s3,AV.ls s4,bv s5,AV.ls s6,bv s7,AV.ls s8,AV.ls s9,AV.ls s10],iv x1] [ABlk.mk [AV.ls xs7,iv n5,AV.ls xs8,bv b4] true false] fun r3 o3=>
 unTup r3 fun cs5=>
 unCons cs5 fun c4 l24=>
 unAgg c4 fun cs6=>
 cInt IntKind.i64 cs6 fun n6 l25=>
 cLs l25 fun xs9 l26=>
 cLs l26 fun xs10 l27=>
 cInt IntKind.i64 l27 fun n7 l28=>
 cStr l28 fun s12 l29=>
 cStr l29 fun s13 l30=>
 cLs l30 fun xs11 l31=>
 unNil l31<|
 cInt IntKind.i64 l24 fun n8 l32=>
 unNil l32<|
 unOut o3 fun c5 l33=>
 unSet true false c5 fun cs7=>
 cLs cs7 fun xs12 l34=>
 cInt IntKind.i64 l34 fun n9 l35=>
 cLs l35 fun xs13 l36=>
 cBool l36 fun b5 l37=>
 unNil l37<|
 unEnd l33<|
 askK D (Key.fn 126) [iv 12,AV.ls [[iv n,AV.ls xs,AV.ls xs1,iv n1,sv s,sv s11,AV.ls xs2],[iv n6,AV.ls xs9,AV.ls xs10,iv n7,sv s12,sv s13,AV.ls xs11]]] [] fun r4 o4=>
 unAgg r4 fun cs8=>
 cInt IntKind.i64 cs8 fun n10 l38=>
 cLs l38 fun xs14 l39=>
 cLs l39 fun xs15 l40=>
 cInt IntKind.i64 l40 fun n11 l41=>
 cStr l41 fun s14 l42=>
 cStr l42 fun s15 l43=>
 cLs l43 fun xs16 l44=>
 unNil l44<|
 unEnd o4<|
 some ((AV.tup [AV.agg [iv n10,AV.ls xs14,AV.ls xs15,iv n11,sv s14,sv s15,AV.ls xs16],iv n8],[BO.set (ABlk.mk [AV.ls xs12,iv n9,AV.ls xs13,bv b5] true false)])))
 (some ((AV.tup [AV.agg [iv n,AV.ls xs,AV.ls xs1,iv n1,sv s,sv s11,AV.ls xs2],iv 0],[BO.set (ABlk.mk [AV.ls xs7,iv n5,AV.ls xs8,bv b4] true false)])))))
 (some ((AV.tup [AV.agg [iv n,AV.ls xs,AV.ls xs1,iv n1,sv s,sv s11,AV.ls xs2],iv n2],[BO.set (ABlk.mk [AV.ls xs3,iv n3,AV.ls xs4,bv b] true false)]))):=by kernel_rfl

theorem e252(A:Ar)(D:Orc)(s1:List (List AV))(s2:List (List AV))(s3:Int)(s4:List (List AV))(s5:Bool)(s6:List (List AV))(s7:Bool)(s8:List (List AV))(s9:List (List AV))(s10:List (List AV))(x1:Int)(p_0:List (List AV))(p_1:Int)(p_2:List (List AV))(p_3:Bool):fnK A D ownC hn252 (.b (.b (.b (.b (.b (.b (.b (.b (.b .n (.b (.b (.b (.b (.b .n (.b (.b .n (.b .n (.t .n))) .n)) .n) .n) .n) .n)) (.b (.b .n (.b (.b (.b (.b .n (.b (.b .n (.b .n (.f .n))) .n)) .n) .n) .n)) .n)) .n) .n) (.b (.b .n (.b (.b .n (.b (.b (.b (.b (.b .n (.b (.b .n (.b .n (.t .n))) .n)) .n) .n) .n) .n)) (.b (.b .n (.b .n (.b .n (.b .n (.b .n (.b .n (.b .n (.f .n)))))))) .n))) .n)) .n) .n) .n) (.b .n (.b .n (.b .n (.b .n (.b .n (.b (.b .n (.b (.b (.b (.b (.b .n (.b (.b .n (.b .n (.t .n))) .n)) .n) .n) .n) .n)) (.b (.b .n (.b .n (.b .n (.b .n (.b .n (.b .n (.b .n (.f .n)))))))) .n)))))))) 252 mf252 [AV.agg [AV.ptr 0 0,AV.ls s1,AV.ls s2,iv s3,AV.ls s4,bv s5,AV.ls s6,bv s7,AV.ls s8,AV.ls s9,AV.ls s10],iv x1] [{ cells:=[AV.ls p_0,iv p_1,AV.ls p_2,bv p_3],st:=true,ex:=false }] =
 askK D (Key.fn 92) [AV.ptr 0 0] [ABlk.mk [AV.ls p_0,iv p_1,AV.ls p_2,bv p_3] true false] fun r o=>
 unAgg r fun cs=>
 cInt IntKind.i64 cs fun n l=>
 cStr l fun s l1=>
 cInt IntKind.i64 l1 fun n1 l2=>
 cInt IntKind.i64 l2 fun n2 l3=>
 unNil l3<|
 unOut o fun c l4=>
 unSet true false c fun cs1=>
 cLs cs1 fun xs l5=>
 cInt IntKind.i64 l5 fun n3 l6=>
 cLs l6 fun xs1 l7=>
 cBool l7 fun b l8=>
 unNil l8<|
 unEnd l4<|
 askK D (Key.fn 265) [AV.agg [iv n,sv s,iv n1,iv n2]] [] fun r1 o1=>
 unInt IntKind.i64 r1 fun n4=>
 unEnd o1<|
 br (A.eq n 2)
 (br (A.seq s (bstr [40]))
 (br (A.le 0 n4)
 (br (A.eq x1 60)
 (some ((AV.tup [AV.agg [iv 0,AV.ls [],AV.ls [],iv 0,sv (bstr []),sv (bstr []),AV.ls []],iv 102],[BO.set (ABlk.mk [AV.ls xs,iv n3,AV.ls xs1,bv b] true false)])))
 (br (A.le 0 n4) (askK D (Key.fn 252) [AV.agg [AV.ptr 0 0,AV.ls s1,AV.ls s2,iv s3,AV.ls s4,bv s5,AV.ls s6,bv s7,AV.ls s8,AV.ls s9,AV.ls s10],iv (A.add IntKind.i64 x1 1)] [ABlk.mk [AV.ls xs,iv (A.add IntKind.i64 n3 1),AV.ls xs1,bv b] true false] fun r2 o2=>
 unTup r2 fun cs2=>
 unCons cs2 fun c1 l9=>
 unAgg c1 fun cs3=>
 cInt IntKind.i64 cs3 fun n5 l10=>
 cLs l10 fun xs2 l11=>
 cLs l11 fun xs3 l12=>
 cInt IntKind.i64 l12 fun n6 l13=>
 cStr l13 fun s11 l14=>
 cStr l14 fun s12 l15=>
 cLs l15 fun xs4 l16=>
 unNil l16<|
 cInt IntKind.i64 l9 fun n7 l17=>
 unNil l17<|
 unOut o2 fun c2 l18=>
 unSet true false c2 fun cs4=>
 cLs cs4 fun xs5 l19=>
 cInt IntKind.i64 l19 fun n8 l20=>
 cLs l20 fun xs6 l21=>
 cBool l21 fun b1 l22=>
 unNil l22<|
 unEnd l18<|
 askK D (Key.fn 126) [iv n4,AV.ls [[iv n5,AV.ls xs2,AV.ls xs3,iv n6,sv s11,sv s12,AV.ls xs4]]] [] fun r3 o3=>
 unAgg r3 fun cs5=>
 cInt IntKind.i64 cs5 fun n9 l23=>
 cLs l23 fun xs7 l24=>
 cLs l24 fun xs8 l25=>
 cInt IntKind.i64 l25 fun n10 l26=>
 cStr l26 fun s13 l27=>
 cStr l27 fun s14 l28=>
 cLs l28 fun xs9 l29=>
 unNil l29<|
 unEnd o3<|
 some ((AV.tup [AV.agg [iv n9,AV.ls xs7,AV.ls xs8,iv n10,sv s13,sv s14,AV.ls xs9],iv n7],[BO.set (ABlk.mk [AV.ls xs5,iv n8,AV.ls xs6,bv b1] true false)]))) none))
 (br (A.eq x1 60)
 (some ((AV.tup [AV.agg [iv 0,AV.ls [],AV.ls [],iv 0,sv (bstr []),sv (bstr []),AV.ls []],iv 102],[BO.set (ABlk.mk [AV.ls xs,iv n3,AV.ls xs1,bv b] true false)])))
 (br (A.le 0 n4) none (askK D (Key.fn 93) [AV.ptr 0 0,sv (bstr [40])] [ABlk.mk [AV.ls xs,iv n3,AV.ls xs1,bv b] true false] fun r2 o2=>
 unBool r2 fun b1=>
 unOut o2 fun c1 l9=>
 unSet true false c1 fun cs2=>
 cLs cs2 fun xs2 l10=>
 cInt IntKind.i64 l10 fun n5 l11=>
 cLs l11 fun xs3 l12=>
 cBool l12 fun b2 l13=>
 unNil l13<|
 unEnd l9<|
 br b1
 (askK D (Key.fn 70) [AV.agg [AV.ptr 0 0,AV.ls s1,AV.ls s2,iv s3,AV.ls s4,bv s5,AV.ls s6,bv s7,AV.ls s8,AV.ls s9,AV.ls s10],iv (A.add IntKind.i64 x1 1)] [ABlk.mk [AV.ls xs2,iv n5,AV.ls xs3,bv b2] true false] fun r3 o3=>
 unTup r3 fun cs3=>
 unCons cs3 fun c2 l14=>
 unAgg c2 fun cs4=>
 cInt IntKind.i64 cs4 fun n6 l15=>
 cLs l15 fun xs4 l16=>
 cLs l16 fun xs5 l17=>
 cInt IntKind.i64 l17 fun n7 l18=>
 cStr l18 fun s11 l19=>
 cStr l19 fun s12 l20=>
 cLs l20 fun xs6 l21=>
 unNil l21<|
 cInt IntKind.i64 l14 fun n8 l22=>
 unNil l22<|
 unOut o3 fun c3 l23=>
 unSet true false c3 fun cs5=>
 cLs cs5 fun xs7 l24=>
 cInt IntKind.i64 l24 fun n9 l25=>
 cLs l25 fun xs8 l26=>
 cBool l26 fun b3 l27=>
 unNil l27<|
 unEnd l23<|
 br (A.eq n8 0)
 (askK D (Key.fn 248) [AV.ptr 0 0,sv (bstr [41])] [ABlk.mk [AV.ls xs7,iv n9,AV.ls xs8,bv b3] true false] fun r4 o4=>
 unInt IntKind.i64 r4 fun n10=>
 unOut o4 fun c4 l28=>
 unSet true false c4 fun cs6=>
 cLs cs6 fun xs9 l29=>
 cInt IntKind.i64 l29 fun n11 l30=>
 cLs l30 fun xs10 l31=>
 cBool l31 fun b4 l32=>
 unNil l32<|
 unEnd l28<|
 some ((AV.tup [AV.agg [iv n6,AV.ls xs4,AV.ls xs5,iv n7,sv s11,sv s12,AV.ls xs6],iv n10],[BO.set (ABlk.mk [AV.ls xs9,iv n11,AV.ls xs10,bv b4] true false)])))
 (some ((AV.tup [AV.agg [iv n6,AV.ls xs4,AV.ls xs5,iv n7,sv s11,sv s12,AV.ls xs6],iv n8],[BO.set (ABlk.mk [AV.ls xs7,iv n9,AV.ls xs8,bv b3] true false)]))))
 (askK D (Key.fn 93) [AV.ptr 0 0,sv (bstr [64])] [ABlk.mk [AV.ls xs2,iv n5,AV.ls xs3,bv b2] true false] fun r3 o3=>
 unBool r3 fun b3=>
 unOut o3 fun c2 l14=>
 unSet true false c2 fun cs3=>
 cLs cs3 fun xs4 l15=>
 cInt IntKind.i64 l15 fun n6 l16=>
 cLs l16 fun xs5 l17=>
 cBool l17 fun b4 l18=>
 unNil l18<|
 unEnd l14<|
 br b3
 (askK D (Key.fn 266) [AV.agg [AV.ptr 0 0,AV.ls s1,AV.ls s2,iv s3,AV.ls s4,bv s5,AV.ls s6,bv s7,AV.ls s8,AV.ls s9,AV.ls s10]] [ABlk.mk [AV.ls xs4,iv n6,AV.ls xs5,bv b4] true false] fun r4 o4=>
 unTup r4 fun cs4=>
 unCons cs4 fun c3 l19=>
 unAgg c3 fun cs5=>
 cInt IntKind.i64 cs5 fun n7 l20=>
 cLs l20 fun xs6 l21=>
 cLs l21 fun xs7 l22=>
 cInt IntKind.i64 l22 fun n8 l23=>
 cStr l23 fun s11 l24=>
 cStr l24 fun s12 l25=>
 cLs l25 fun xs8 l26=>
 unNil l26<|
 cInt IntKind.i64 l19 fun n9 l27=>
 unNil l27<|
 unOut o4 fun c4 l28=>
 unSet true false c4 fun cs6=>
 cLs cs6 fun xs9 l29=>
 cInt IntKind.i64 l29 fun n10 l30=>
 cLs l30 fun xs10 l31=>
 cBool l31 fun b5 l32=>
 unNil l32<|
 unEnd l28<|
 some ((AV.tup [AV.agg [iv n7,AV.ls xs6,AV.ls xs7,iv n8,sv s11,sv s12,AV.ls xs8],iv n9],[BO.set (ABlk.mk [AV.ls xs9,iv n10,AV.ls xs10,bv b5] true false)])))
 (askK D (Key.fn 267) [AV.agg [AV.ptr 0 0,AV.ls s1,AV.ls s2,iv s3,AV.ls s4,bv s5,AV.ls s6,bv s7,AV.ls s8,AV.ls s9,AV.ls s10]] [ABlk.mk [AV.ls xs4,iv n6,AV.ls xs5,bv b4] true false] fun r4 o4=>
 unTup r4 fun cs4=>
 unCons cs4 fun c3 l19=>
 unAgg c3 fun cs5=>
 cInt IntKind.i64 cs5 fun n7 l20=>
 cLs l20 fun xs6 l21=>
 cLs l21 fun xs7 l22=>
 cInt IntKind.i64 l22 fun n8 l23=>
 cStr l23 fun s11 l24=>
 cStr l24 fun s12 l25=>
 cLs l25 fun xs8 l26=>
 unNil l26<|
 cInt IntKind.i64 l19 fun n9 l27=>
 unNil l27<|
 unOut o4 fun c4 l28=>
 unSet true false c4 fun cs6=>
 cLs cs6 fun xs9 l29=>
 cInt IntKind.i64 l29 fun n10 l30=>
 cLs l30 fun xs10 l31=>
 cBool l31 fun b5 l32=>
 unNil l32<|
 unEnd l28<|
 some ((AV.tup [AV.agg [iv n7,AV.ls xs6,AV.ls xs7,iv n8,sv s11,sv s12,AV.ls xs8],iv n9],[BO.set (ABlk.mk [AV.ls xs9,iv n10,AV.ls xs10,bv b5] true false)]))))))))
 (br (A.le 0 n4)
 (br (A.eq x1 60)
 (some ((AV.tup [AV.agg [iv 0,AV.ls [],AV.ls [],iv 0,sv (bstr []),sv (bstr []),AV.ls []],iv 102],[BO.set (ABlk.mk [AV.ls xs,iv n3,AV.ls xs1,bv b] true false)])))
 (br (A.le 0 n4) (askK D (Key.fn 252) [AV.agg [AV.ptr 0 0,AV.ls s1,AV.ls s2,iv s3,AV.ls s4,bv s5,AV.ls s6,bv s7,AV.ls s8,AV.ls s9,AV.ls s10],iv (A.add IntKind.i64 x1 1)] [ABlk.mk [AV.ls xs,iv (A.add IntKind.i64 n3 1),AV.ls xs1,bv b] true false] fun r2 o2=>
 unTup r2 fun cs2=>
 unCons cs2 fun c1 l9=>
 unAgg c1 fun cs3=>
 cInt IntKind.i64 cs3 fun n5 l10=>
 cLs l10 fun xs2 l11=>
 cLs l11 fun xs3 l12=>
 cInt IntKind.i64 l12 fun n6 l13=>
 cStr l13 fun s11 l14=>
 cStr l14 fun s12 l15=>
 cLs l15 fun xs4 l16=>
 unNil l16<|
 cInt IntKind.i64 l9 fun n7 l17=>
 unNil l17<|
 unOut o2 fun c2 l18=>
 unSet true false c2 fun cs4=>
 cLs cs4 fun xs5 l19=>
 cInt IntKind.i64 l19 fun n8 l20=>
 cLs l20 fun xs6 l21=>
 cBool l21 fun b1 l22=>
 unNil l22<|
 unEnd l18<|
 askK D (Key.fn 126) [iv n4,AV.ls [[iv n5,AV.ls xs2,AV.ls xs3,iv n6,sv s11,sv s12,AV.ls xs4]]] [] fun r3 o3=>
 unAgg r3 fun cs5=>
 cInt IntKind.i64 cs5 fun n9 l23=>
 cLs l23 fun xs7 l24=>
 cLs l24 fun xs8 l25=>
 cInt IntKind.i64 l25 fun n10 l26=>
 cStr l26 fun s13 l27=>
 cStr l27 fun s14 l28=>
 cLs l28 fun xs9 l29=>
 unNil l29<|
 unEnd o3<|
 some ((AV.tup [AV.agg [iv n9,AV.ls xs7,AV.ls xs8,iv n10,sv s13,sv s14,AV.ls xs9],iv n7],[BO.set (ABlk.mk [AV.ls xs5,iv n8,AV.ls xs6,bv b1] true false)]))) none))
 (br (A.le 0 n4) none (askK D (Key.fn 93) [AV.ptr 0 0,sv (bstr [40])] [ABlk.mk [AV.ls xs,iv n3,AV.ls xs1,bv b] true false] fun r2 o2=>
 unBool r2 fun b1=>
 unOut o2 fun c1 l9=>
 unSet true false c1 fun cs2=>
 cLs cs2 fun xs2 l10=>
 cInt IntKind.i64 l10 fun n5 l11=>
 cLs l11 fun xs3 l12=>
 cBool l12 fun b2 l13=>
 unNil l13<|
 unEnd l9<|
 br b1
 (askK D (Key.fn 70) [AV.agg [AV.ptr 0 0,AV.ls s1,AV.ls s2,iv s3,AV.ls s4,bv s5,AV.ls s6,bv s7,AV.ls s8,AV.ls s9,AV.ls s10],iv (A.add IntKind.i64 x1 1)] [ABlk.mk [AV.ls xs2,iv n5,AV.ls xs3,bv b2] true false] fun r3 o3=>
 unTup r3 fun cs3=>
 unCons cs3 fun c2 l14=>
 unAgg c2 fun cs4=>
 cInt IntKind.i64 cs4 fun n6 l15=>
 cLs l15 fun xs4 l16=>
 cLs l16 fun xs5 l17=>
 cInt IntKind.i64 l17 fun n7 l18=>
 cStr l18 fun s11 l19=>
 cStr l19 fun s12 l20=>
 cLs l20 fun xs6 l21=>
 unNil l21<|
 cInt IntKind.i64 l14 fun n8 l22=>
 unNil l22<|
 unOut o3 fun c3 l23=>
 unSet true false c3 fun cs5=>
 cLs cs5 fun xs7 l24=>
 cInt IntKind.i64 l24 fun n9 l25=>
 cLs l25 fun xs8 l26=>
 cBool l26 fun b3 l27=>
 unNil l27<|
 unEnd l23<|
 br (A.eq n8 0)
 (askK D (Key.fn 248) [AV.ptr 0 0,sv (bstr [41])] [ABlk.mk [AV.ls xs7,iv n9,AV.ls xs8,bv b3] true false] fun r4 o4=>
 unInt IntKind.i64 r4 fun n10=>
 unOut o4 fun c4 l28=>
 unSet true false c4 fun cs6=>
 cLs cs6 fun xs9 l29=>
 cInt IntKind.i64 l29 fun n11 l30=>
 cLs l30 fun xs10 l31=>
 cBool l31 fun b4 l32=>
 unNil l32<|
 unEnd l28<|
 some ((AV.tup [AV.agg [iv n6,AV.ls xs4,AV.ls xs5,iv n7,sv s11,sv s12,AV.ls xs6],iv n10],[BO.set (ABlk.mk [AV.ls xs9,iv n11,AV.ls xs10,bv b4] true false)])))
 (some ((AV.tup [AV.agg [iv n6,AV.ls xs4,AV.ls xs5,iv n7,sv s11,sv s12,AV.ls xs6],iv n8],[BO.set (ABlk.mk [AV.ls xs7,iv n9,AV.ls xs8,bv b3] true false)]))))
 (askK D (Key.fn 93) [AV.ptr 0 0,sv (bstr [64])] [ABlk.mk [AV.ls xs2,iv n5,AV.ls xs3,bv b2] true false] fun r3 o3=>
 unBool r3 fun b3=>
 unOut o3 fun c2 l14=>
 unSet true false c2 fun cs3=>
 cLs cs3 fun xs4 l15=>
 cInt IntKind.i64 l15 fun n6 l16=>
 cLs l16 fun xs5 l17=>
 cBool l17 fun b4 l18=>
 unNil l18<|
 unEnd l14<|
 br b3
 (askK D (Key.fn 266) [AV.agg [AV.ptr 0 0,AV.ls s1,AV.ls s2,iv s3,AV.ls s4,bv s5,AV.ls s6,bv s7,AV.ls s8,AV.ls s9,AV.ls s10]] [ABlk.mk [AV.ls xs4,iv n6,AV.ls xs5,bv b4] true false] fun r4 o4=>
 unTup r4 fun cs4=>
 unCons cs4 fun c3 l19=>
 unAgg c3 fun cs5=>
 cInt IntKind.i64 cs5 fun n7 l20=>
 cLs l20 fun xs6 l21=>
 cLs l21 fun xs7 l22=>
 cInt IntKind.i64 l22 fun n8 l23=>
 cStr l23 fun s11 l24=>
 cStr l24 fun s12 l25=>
 cLs l25 fun xs8 l26=>
 unNil l26<|
 cInt IntKind.i64 l19 fun n9 l27=>
 unNil l27<|
 unOut o4 fun c4 l28=>
 unSet true false c4 fun cs6=>
 cLs cs6 fun xs9 l29=>
 cInt IntKind.i64 l29 fun n10 l30=>
 cLs l30 fun xs10 l31=>
 cBool l31 fun b5 l32=>
 unNil l32<|
 unEnd l28<|
 some ((AV.tup [AV.agg [iv n7,AV.ls xs6,AV.ls xs7,iv n8,sv s11,sv s12,AV.ls xs8],iv n9],[BO.set (ABlk.mk [AV.ls xs9,iv n10,AV.ls xs10,bv b5] true false)])))
 (askK D (Key.fn 267) [AV.agg [AV.ptr 0 0,AV.ls s1,AV.ls s2,iv s3,AV.ls s4,bv s5,AV.ls s6,bv s7,AV.ls s8,AV.ls s9,AV.ls s10]] [ABlk.mk [AV.ls xs4,iv n6,AV.ls xs5,bv b4] true false] fun r4 o4=>
 unTup r4 fun cs4=>
 unCons cs4 fun c3 l19=>
 unAgg c3 fun cs5=>
 cInt IntKind.i64 cs5 fun n7 l20=>
 cLs l20 fun xs6 l21=>
 cLs l21 fun xs7 l22=>
 cInt IntKind.i64 l22 fun n8 l23=>
 cStr l23 fun s11 l24=>
 cStr l24 fun s12 l25=>
 cLs l25 fun xs8 l26=>
 unNil l26<|
 cInt IntKind.i64 l19 fun n9 l27=>
 unNil l27<|
 unOut o4 fun c4 l28=>
 unSet true false c4 fun cs6=>
 cLs cs6 fun xs9 l29=>
 cInt IntKind.i64 l29 fun n10 l30=>
 cLs l30 fun xs10 l31=>
 cBool l31 fun b5 l32=>
 unNil l32<|
 unEnd l28<|
 some ((AV.tup [AV.agg [iv n7,AV.ls xs6,AV.ls xs7,iv n8,sv s11,sv s12,AV.ls xs8],iv n9],[BO.set (ABlk.mk [AV.ls xs9,iv n10,AV.ls xs10,bv b5] true false)]))))))))
 (br (A.le 0 n4)
 (br (A.eq x1 60)
 (some ((AV.tup [AV.agg [iv 0,AV.ls [],AV.ls [],iv 0,sv (bstr []),sv (bstr []),AV.ls []],iv 102],[BO.set (ABlk.mk [AV.ls xs,iv n3,AV.ls xs1,bv b] true false)])))
 (br (A.le 0 n4) (askK D (Key.fn 252) [AV.agg [AV.ptr 0 0,AV.ls s1,AV.ls s2,iv s3,AV.ls s4,bv s5,AV.ls s6,bv s7,AV.ls s8,AV.ls s9,AV.ls s10],iv (A.add IntKind.i64 x1 1)] [ABlk.mk [AV.ls xs,iv (A.add IntKind.i64 n3 1),AV.ls xs1,bv b] true false] fun r2 o2=>
 unTup r2 fun cs2=>
 unCons cs2 fun c1 l9=>
 unAgg c1 fun cs3=>
 cInt IntKind.i64 cs3 fun n5 l10=>
 cLs l10 fun xs2 l11=>
 cLs l11 fun xs3 l12=>
 cInt IntKind.i64 l12 fun n6 l13=>
 cStr l13 fun s11 l14=>
 cStr l14 fun s12 l15=>
 cLs l15 fun xs4 l16=>
 unNil l16<|
 cInt IntKind.i64 l9 fun n7 l17=>
 unNil l17<|
 unOut o2 fun c2 l18=>
 unSet true false c2 fun cs4=>
 cLs cs4 fun xs5 l19=>
 cInt IntKind.i64 l19 fun n8 l20=>
 cLs l20 fun xs6 l21=>
 cBool l21 fun b1 l22=>
 unNil l22<|
 unEnd l18<|
 askK D (Key.fn 126) [iv n4,AV.ls [[iv n5,AV.ls xs2,AV.ls xs3,iv n6,sv s11,sv s12,AV.ls xs4]]] [] fun r3 o3=>
 unAgg r3 fun cs5=>
 cInt IntKind.i64 cs5 fun n9 l23=>
 cLs l23 fun xs7 l24=>
 cLs l24 fun xs8 l25=>
 cInt IntKind.i64 l25 fun n10 l26=>
 cStr l26 fun s13 l27=>
 cStr l27 fun s14 l28=>
 cLs l28 fun xs9 l29=>
 unNil l29<|
 unEnd o3<|
 some ((AV.tup [AV.agg [iv n9,AV.ls xs7,AV.ls xs8,iv n10,sv s13,sv s14,AV.ls xs9],iv n7],[BO.set (ABlk.mk [AV.ls xs5,iv n8,AV.ls xs6,bv b1] true false)]))) none))
 (br (A.le 0 n4) none (askK D (Key.fn 93) [AV.ptr 0 0,sv (bstr [40])] [ABlk.mk [AV.ls xs,iv n3,AV.ls xs1,bv b] true false] fun r2 o2=>
 unBool r2 fun b1=>
 unOut o2 fun c1 l9=>
 unSet true false c1 fun cs2=>
 cLs cs2 fun xs2 l10=>
 cInt IntKind.i64 l10 fun n5 l11=>
 cLs l11 fun xs3 l12=>
 cBool l12 fun b2 l13=>
 unNil l13<|
 unEnd l9<|
 br b1
 (askK D (Key.fn 70) [AV.agg [AV.ptr 0 0,AV.ls s1,AV.ls s2,iv s3,AV.ls s4,bv s5,AV.ls s6,bv s7,AV.ls s8,AV.ls s9,AV.ls s10],iv (A.add IntKind.i64 x1 1)] [ABlk.mk [AV.ls xs2,iv n5,AV.ls xs3,bv b2] true false] fun r3 o3=>
 unTup r3 fun cs3=>
 unCons cs3 fun c2 l14=>
 unAgg c2 fun cs4=>
 cInt IntKind.i64 cs4 fun n6 l15=>
 cLs l15 fun xs4 l16=>
 cLs l16 fun xs5 l17=>
 cInt IntKind.i64 l17 fun n7 l18=>
 cStr l18 fun s11 l19=>
 cStr l19 fun s12 l20=>
 cLs l20 fun xs6 l21=>
 unNil l21<|
 cInt IntKind.i64 l14 fun n8 l22=>
 unNil l22<|
 unOut o3 fun c3 l23=>
 unSet true false c3 fun cs5=>
 cLs cs5 fun xs7 l24=>
 cInt IntKind.i64 l24 fun n9 l25=>
 cLs l25 fun xs8 l26=>
 cBool l26 fun b3 l27=>
 unNil l27<|
 unEnd l23<|
 br (A.eq n8 0)
 (askK D (Key.fn 248) [AV.ptr 0 0,sv (bstr [41])] [ABlk.mk [AV.ls xs7,iv n9,AV.ls xs8,bv b3] true false] fun r4 o4=>
 unInt IntKind.i64 r4 fun n10=>
 unOut o4 fun c4 l28=>
 unSet true false c4 fun cs6=>
 cLs cs6 fun xs9 l29=>
 cInt IntKind.i64 l29 fun n11 l30=>
 cLs l30 fun xs10 l31=>
 cBool l31 fun b4 l32=>
 unNil l32<|
 unEnd l28<|
 some ((AV.tup [AV.agg [iv n6,AV.ls xs4,AV.ls xs5,iv n7,sv s11,sv s12,AV.ls xs6],iv n10],[BO.set (ABlk.mk [AV.ls xs9,iv n11,AV.ls xs10,bv b4] true false)])))
 (some ((AV.tup [AV.agg [iv n6,AV.ls xs4,AV.ls xs5,iv n7,sv s11,sv s12,AV.ls xs6],iv n8],[BO.set (ABlk.mk [AV.ls xs7,iv n9,AV.ls xs8,bv b3] true false)]))))
 (askK D (Key.fn 93) [AV.ptr 0 0,sv (bstr [64])] [ABlk.mk [AV.ls xs2,iv n5,AV.ls xs3,bv b2] true false] fun r3 o3=>
 unBool r3 fun b3=>
 unOut o3 fun c2 l14=>
 unSet true false c2 fun cs3=>
 cLs cs3 fun xs4 l15=>
 cInt IntKind.i64 l15 fun n6 l16=>
 cLs l16 fun xs5 l17=>
 cBool l17 fun b4 l18=>
 unNil l18<|
 unEnd l14<|
 br b3
 (askK D (Key.fn 266) [AV.agg [AV.ptr 0 0,AV.ls s1,AV.ls s2,iv s3,AV.ls s4,bv s5,AV.ls s6,bv s7,AV.ls s8,AV.ls s9,AV.ls s10]] [ABlk.mk [AV.ls xs4,iv n6,AV.ls xs5,bv b4] true false] fun r4 o4=>
 unTup r4 fun cs4=>
 unCons cs4 fun c3 l19=>
 unAgg c3 fun cs5=>
 cInt IntKind.i64 cs5 fun n7 l20=>
 cLs l20 fun xs6 l21=>
 cLs l21 fun xs7 l22=>
 cInt IntKind.i64 l22 fun n8 l23=>
 cStr l23 fun s11 l24=>
 cStr l24 fun s12 l25=>
 cLs l25 fun xs8 l26=>
 unNil l26<|
 cInt IntKind.i64 l19 fun n9 l27=>
 unNil l27<|
 unOut o4 fun c4 l28=>
 unSet true false c4 fun cs6=>
 cLs cs6 fun xs9 l29=>
 cInt IntKind.i64 l29 fun n10 l30=>
 cLs l30 fun xs10 l31=>
 cBool l31 fun b5 l32=>
 unNil l32<|
 unEnd l28<|
 some ((AV.tup [AV.agg [iv n7,AV.ls xs6,AV.ls xs7,iv n8,sv s11,sv s12,AV.ls xs8],iv n9],[BO.set (ABlk.mk [AV.ls xs9,iv n10,AV.ls xs10,bv b5] true false)])))
 (askK D (Key.fn 267) [AV.agg [AV.ptr 0 0,AV.ls s1,AV.ls s2,iv s3,AV.ls s4,bv s5,AV.ls s6,bv s7,AV.ls s8,AV.ls s9,AV.ls s10]] [ABlk.mk [AV.ls xs4,iv n6,AV.ls xs5,bv b4] true false] fun r4 o4=>
 unTup r4 fun cs4=>
 unCons cs4 fun c3 l19=>
 unAgg c3 fun cs5=>
 cInt IntKind.i64 cs5 fun n7 l20=>
 cLs l20 fun xs6 l21=>
 cLs l21 fun xs7 l22=>
 cInt IntKind.i64 l22 fun n8 l23=>
 cStr l23 fun s11 l24=>
 cStr l24 fun s12 l25=>
 cLs l25 fun xs8 l26=>
 unNil l26<|
 cInt IntKind.i64 l19 fun n9 l27=>
 unNil l27<|
 unOut o4 fun c4 l28=>
 unSet true false c4 fun cs6=>
 cLs cs6 fun xs9 l29=>
 cInt IntKind.i64 l29 fun n10 l30=>
 cLs l30 fun xs10 l31=>
 cBool l31 fun b5 l32=>
 unNil l32<|
 unEnd l28<|
 some ((AV.tup [AV.agg [iv n7,AV.ls xs6,AV.ls xs7,iv n8,sv s11,sv s12,AV.ls xs8],iv n9],[BO.set (ABlk.mk [AV.ls xs9,iv n10,AV.ls xs10,bv b5] true false)]))))))):=by kernel_rfl

theorem e70(A:Ar)(D:Orc)(s1:List (List AV))(s2:List (List AV))(s3:Int)(s4:List (List AV))(s5:Bool)(s6:List (List AV))(s7:Bool)(s8:List (List AV))(s9:List (List AV))(s10:List (List AV))(x1:Int)(p_0:List (List AV))(p_1:Int)(p_2:List (List AV))(p_3:Bool):fnK A D ownC hn70 .n 70 mf70 [AV.agg [AV.ptr 0 0,AV.ls s1,AV.ls s2,iv s3,AV.ls s4,bv s5,AV.ls s6,bv s7,AV.ls s8,AV.ls s9,AV.ls s10],iv x1] [{ cells:=[AV.ls p_0,iv p_1,AV.ls p_2,bv p_3],st:=true,ex:=false }] =
 askK D (Key.fn 125) [AV.agg [AV.ptr 0 0,AV.ls s1,AV.ls s2,iv s3,AV.ls s4,bv s5,AV.ls s6,bv s7,AV.ls s8,AV.ls s9,AV.ls s10],iv x1] [ABlk.mk [AV.ls p_0,iv p_1,AV.ls p_2,bv p_3] true false] fun r o=>
 unTup r fun cs=>
 unCons cs fun c l=>
 unAgg c fun cs1=>
 cInt IntKind.i64 cs1 fun n l1=>
 cLs l1 fun xs l2=>
 cLs l2 fun xs1 l3=>
 cInt IntKind.i64 l3 fun n1 l4=>
 cStr l4 fun s l5=>
 cStr l5 fun s11 l6=>
 cLs l6 fun xs2 l7=>
 unNil l7<|
 cInt IntKind.i64 l fun n2 l8=>
 unNil l8<|
 unOut o fun c1 l9=>
 unSet true false c1 fun cs2=>
 cLs cs2 fun xs3 l10=>
 cInt IntKind.i64 l10 fun n3 l11=>
 cLs l11 fun xs4 l12=>
 cBool l12 fun b l13=>
 unNil l13<|
 unEnd l9<|
 br (A.eq n2 0)
 (askK D (Key.fn 93) [AV.ptr 0 0,sv (bstr [45,62])] [ABlk.mk [AV.ls xs3,iv n3,AV.ls xs4,bv b] true false] fun r1 o1=>
 unBool r1 fun b1=>
 unOut o1 fun c2 l14=>
 unSet true false c2 fun cs3=>
 cLs cs3 fun xs5 l15=>
 cInt IntKind.i64 l15 fun n4 l16=>
 cLs l16 fun xs6 l17=>
 cBool l17 fun b2 l18=>
 unNil l18<|
 unEnd l14<|
 br b1
 (askK D (Key.fn 70) [AV.agg [AV.ptr 0 0,AV.ls s1,AV.ls s2,iv s3,AV.ls s4,bv s5,AV.ls s6,bv s7,AV.ls s8,AV.ls s9,AV.ls s10],iv x1] [ABlk.mk [AV.ls xs5,iv n4,AV.ls xs6,bv b2] true false] fun r2 o2=>
 unTup r2 fun cs4=>
 unCons cs4 fun c3 l19=>
 unAgg c3 fun cs5=>
 cInt IntKind.i64 cs5 fun n5 l20=>
 cLs l20 fun xs7 l21=>
 cLs l21 fun xs8 l22=>
 cInt IntKind.i64 l22 fun n6 l23=>
 cStr l23 fun s12 l24=>
 cStr l24 fun s13 l25=>
 cLs l25 fun xs9 l26=>
 unNil l26<|
 cInt IntKind.i64 l19 fun n7 l27=>
 unNil l27<|
 unOut o2 fun c4 l28=>
 unSet true false c4 fun cs6=>
 cLs cs6 fun xs10 l29=>
 cInt IntKind.i64 l29 fun n8 l30=>
 cLs l30 fun xs11 l31=>
 cBool l31 fun b3 l32=>
 unNil l32<|
 unEnd l28<|
 askK D (Key.fn 126) [iv 7,AV.ls [[iv n,AV.ls xs,AV.ls xs1,iv n1,sv s,sv s11,AV.ls xs2],[iv n5,AV.ls xs7,AV.ls xs8,iv n6,sv s12,sv s13,AV.ls xs9]]] [] fun r3 o3=>
 unAgg r3 fun cs7=>
 cInt IntKind.i64 cs7 fun n9 l33=>
 cLs l33 fun xs12 l34=>
 cLs l34 fun xs13 l35=>
 cInt IntKind.i64 l35 fun n10 l36=>
 cStr l36 fun s14 l37=>
 cStr l37 fun s15 l38=>
 cLs l38 fun xs14 l39=>
 unNil l39<|
 unEnd o3<|
 some ((AV.tup [AV.agg [iv n9,AV.ls xs12,AV.ls xs13,iv n10,sv s14,sv s15,AV.ls xs14],iv n7],[BO.set (ABlk.mk [AV.ls xs10,iv n8,AV.ls xs11,bv b3] true false)])))
 (some ((AV.tup [AV.agg [iv n,AV.ls xs,AV.ls xs1,iv n1,sv s,sv s11,AV.ls xs2],iv n2],[BO.set (ABlk.mk [AV.ls xs5,iv n4,AV.ls xs6,bv b2] true false)]))))
 (some ((AV.tup [AV.agg [iv n,AV.ls xs,AV.ls xs1,iv n1,sv s,sv s11,AV.ls xs2],iv n2],[BO.set (ABlk.mk [AV.ls xs3,iv n3,AV.ls xs4,bv b] true false)]))):=by kernel_rfl
end Go.Proofs.YtlmhajfbpplpoaaGreat
namespace Go.Proofs.YtlmhajfbpplpoaaGreat
open Go.RowKit
def hs69:Hints:=[]
noncomputable def mf69:MFn:=mfD Tryz.prog entsC hs69 false false 69
def hn69:Hnt:=⟨[(70,(.tup [.agg [.int .i64,.ls,.ls,.int .i64,.str,.str,.ls],.int .i64],[.box [.ls,.int .i64,.ls,.bool]]))],[],[(6,[.ls,.ls,.int .i64,.ls,.bool,.ls,.bool,.ls,.ls,.ls])]⟩
def hs32:Hints:=[]
noncomputable def mf32:MFn:=mfD Tryz.prog entsC hs32 false false 32
def hn32:Hnt:=⟨[(53,(.tup [.agg [.int .i64,.ls,.ls,.int .i64,.str,.str,.ls],.agg [.int .i64,.int .i64],.int .i64],[.keep]))],[],[(9,[.ls])]⟩
noncomputable def tabTr:List (Nat × MFn):=[(69,mf69),(32,mf32)]
theorem e69(A:Ar)(D:Orc)(p_0:List (List AV))(p_1:Int)(p_2:List (List AV))(p_3:Bool)(s1:List (List AV))(s2:List (List AV))(s3:Int)(s4:List (List AV))(s5:Bool)(s6:List (List AV))(s7:Bool)(s8:List (List AV))(s9:List (List AV))(s10:List (List AV)):fnK A D ownC hn69 .n 69 mf69 [AV.ptr 0 0,AV.ptr 1 0] [{ cells:=[AV.ls p_0,iv p_1,AV.ls p_2,bv p_3],st:=true,ex:=false },{ cells:=[AV.ls s1,AV.ls s2,iv s3,AV.ls s4,bv s5,AV.ls s6,bv s7,AV.ls s8,AV.ls s9,AV.ls s10],st:=true,ex:=false }] =
 askK D (Key.fn 70) [AV.agg [AV.ptr 0 0,AV.ls s1,AV.ls s2,iv s3,AV.ls s4,bv s5,AV.ls s6,bv s7,AV.ls s8,AV.ls s9,AV.ls s10],iv 0] [ABlk.mk [AV.ls p_0,iv p_1,AV.ls p_2,bv p_3] true false] fun r o=>
 unTup r fun cs=>
 unCons cs fun c l=>
 unAgg c fun cs1=>
 cInt IntKind.i64 cs1 fun n l1=>
 cLs l1 fun xs l2=>
 cLs l2 fun xs1 l3=>
 cInt IntKind.i64 l3 fun n1 l4=>
 cStr l4 fun s l5=>
 cStr l5 fun s11 l6=>
 cLs l6 fun xs2 l7=>
 unNil l7<|
 cInt IntKind.i64 l fun n2 l8=>
 unNil l8<|
 unOut o fun c1 l9=>
 unSet true false c1 fun cs2=>
 cLs cs2 fun xs3 l10=>
 cInt IntKind.i64 l10 fun n3 l11=>
 cLs l11 fun xs4 l12=>
 cBool l12 fun b l13=>
 unNil l13<|
 unEnd l9<|
 some ((AV.tup [AV.agg [iv n,AV.ls xs,AV.ls xs1,iv n1,sv s,sv s11,AV.ls xs2],iv n2],[BO.set (ABlk.mk [AV.ls xs3,iv n3,AV.ls xs4,bv b] true false),BO.keep])):=by kernel_rfl

theorem e32(A:Ar)(D:Orc)(x0:ByteArray)(x1_0:List (List AV))(x1_1:List (List AV))(x1_2:Int)(x1_3:List (List AV))(x1_4:Bool)(x1_5:List (List AV))(x1_6:Bool)(x1_7:List (List AV))(x1_8:List (List AV))(x1_9:List (List AV)):fnK A D ownC hn32 .n 32 mf32 [sv x0,AV.agg [AV.ls x1_0,AV.ls x1_1,iv x1_2,AV.ls x1_3,bv x1_4,AV.ls x1_5,bv x1_6,AV.ls x1_7,AV.ls x1_8,AV.ls x1_9]] [] =
 askK D (Key.fn 53) [sv x0,AV.ls x1_0,bv true,AV.fn (Fn.func 69) [] [AV.ptr 0 0]] [ABlk.mk [AV.ls x1_0,AV.ls x1_1,iv x1_2,AV.ls x1_3,bv x1_4,AV.ls x1_5,bv x1_6,AV.ls x1_7,AV.ls x1_8,AV.ls x1_9] true false] fun r o=>
 unTup r fun cs=>
 unCons cs fun c l=>
 unAgg c fun cs1=>
 cInt IntKind.i64 cs1 fun n l1=>
 cLs l1 fun xs l2=>
 cLs l2 fun xs1 l3=>
 cInt IntKind.i64 l3 fun n1 l4=>
 cStr l4 fun s l5=>
 cStr l5 fun s1 l6=>
 cLs l6 fun xs2 l7=>
 unNil l7<|
 unCons l fun c1 l8=>
 unAgg c1 fun cs2=>
 cInt IntKind.i64 cs2 fun n2 l9=>
 cInt IntKind.i64 l9 fun n3 l10=>
 unNil l10<|
 cInt IntKind.i64 l8 fun n4 l11=>
 unNil l11<|
 unOut o fun c2 l12=>
 unKeep c2<|
 unEnd l12<|
 some ((AV.tup [AV.agg [iv n,AV.ls xs,AV.ls xs1,iv n1,sv s,sv s1,AV.ls xs2],AV.agg [iv n2,iv n3],iv n4],[])):=by kernel_rfl
end Go.Proofs.YtlmhajfbpplpoaaGreat
