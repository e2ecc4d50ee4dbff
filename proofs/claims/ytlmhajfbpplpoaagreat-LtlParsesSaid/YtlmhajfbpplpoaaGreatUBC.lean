/-
  Functions of the program as trees: what a call comes to.
  Functions of the program as trees: what a call comes to.
  Functions of the program as trees: what a call comes to.
-/
import Derived.Test.YtlmhajfbpplpoaaGreatUAS
set_option linter.unusedSectionVars false
set_option linter.unusedSimpArgs false
set_option linter.unusedVariables false
namespace Go.Proofs.YtlmhajfbpplpoaaGreat
open Go.RowKit
def hs128:Hints:=[]
noncomputable def mf128:MFn:=mfD Tryz.prog entsC hs128 false false 128
def hn128:Hnt:=⟨[],[],[(8,[.int .i64,.ls,.ls,.int .i64,.str,.str,.ls]),(9,[.int .i64,.ls,.ls,.int .i64,.str,.str,.ls])]⟩
def hs268:Hints:=[]
noncomputable def mf268:MFn:=mfD Tryz.prog entsC hs268 false false 268
def hn268:Hnt:=⟨[(99,(.bool,[]))],[],[(3,[.ls,.int .i64,.ls,.bool]),(5,[.ls,.int .i64,.ls,.bool]),(7,[.ls,.int .i64,.ls,.bool]),(9,[.ls,.int .i64,.ls,.bool])]⟩
def hs192:Hints:=[⟨22,[false,true,true,false,false,true],[],[2],[(0,([false,false,false,false,true],([],[2]))),(1,([],([],[2])))]⟩]
noncomputable def mf192:MFn:=mfD Tryz.prog entsC hs192 false false 192
def hn192:Hnt:=⟨[],[(0,[(0,([.int .i64],[.del])),(1,([],[.del]))])],[(8,[.ls]),(14,[.ls]),(16,[.str,.ls,.ls]),(18,[.str])]⟩
def hs269:Hints:=[]
noncomputable def mf269:MFn:=mfD Tryz.prog entsC hs269 false false 269
def hn269:Hnt:=⟨[(99,(.bool,[])),(100,(.agg [.ls,.int .i64,.ls,.bool],[])),(101,(.agg [.int .i64,.str,.int .i64,.int .i64],[])),(102,(.bool,[])),(103,(.bool,[])),(192,(.int .i64,[]))],[],[(9,[.ls,.int .i64,.ls,.bool]),(12,[.ls,.int .i64,.ls,.bool]),(14,[.ls,.ls,.int .i64,.ls,.bool,.ls,.bool,.ls,.ls,.ls]),(15,[.ls,.int .i64,.ls,.bool]),(21,[.ls,.int .i64,.ls,.bool]),(23,[.ls,.int .i64,.ls,.bool]),(25,[.ls,.int .i64,.ls,.bool]),(28,[.ls,.int .i64,.ls,.bool]),(30,[.ls,.int .i64,.ls,.bool]),(32,[.ls,.int .i64,.ls,.bool]),(35,[.ls,.int .i64,.ls,.bool]),(37,[.ls,.int .i64,.ls,.bool]),(41,[.ls]),(43,[.str,.ls,.ls]),(45,[.ls]),(49,[.ls,.int .i64,.ls,.bool]),(51,[.ls,.int .i64,.ls,.bool]),(54,[.ls]),(56,[.str,.ls,.ls]),(58,[.str])]⟩
def hs71:Hints:=[]
noncomputable def mf71:MFn:=mfD Tryz.prog entsC hs71 false false 71
def hn71:Hnt:=⟨[(71,(.tup [.agg [.ls,.int .i64,.ls,.bool],.agg [.int .i64,.ls,.ls,.int .i64,.str,.str,.ls],.int .i64],[])),(99,(.bool,[])),(100,(.agg [.ls,.int .i64,.ls,.bool],[])),(127,(.tup [.agg [.ls,.int .i64,.ls,.bool],.agg [.int .i64,.ls,.ls,.int .i64,.str,.str,.ls],.int .i64],[])),(128,(.agg [.int .i64,.ls,.ls,.int .i64,.str,.str,.ls],[]))],[],[(14,[.ls,.int .i64,.ls,.bool]),(15,[.ls,.ls,.int .i64,.ls,.bool,.ls,.bool,.ls,.ls,.ls]),(24,[.ls,.int .i64,.ls,.bool]),(28,[.ls,.int .i64,.ls,.bool]),(29,[.int .i64,.ls,.ls,.int .i64,.str,.str,.ls]),(32,[.ls,.int .i64,.ls,.bool]),(34,[.ls,.ls,.int .i64,.ls,.bool,.ls,.bool,.ls,.ls,.ls]),(40,[.ls,.int .i64,.ls,.bool]),(41,[.int .i64,.ls,.ls,.int .i64,.str,.str,.ls]),(42,[.int .i64,.ls,.ls,.int .i64,.str,.str,.ls])]⟩
def hs127:Hints:=[⟨45,[false,false,true,true,true,false,true,true,false,true,true],[],[3,4,6,7,9],[(1,([false,false,false,true,false,false,true,true,false,true,true],([],[4])))]⟩]
noncomputable def mf127:MFn:=mfD Tryz.prog entsC hs127 false false 127
def hn127:Hnt:=⟨[(99,(.bool,[])),(100,(.agg [.ls,.int .i64,.ls,.bool],[])),(128,(.agg [.int .i64,.ls,.ls,.int .i64,.str,.str,.ls],[])),(187,(.tup [.agg [.ls,.int .i64,.ls,.bool],.agg [.int .i64,.ls,.ls,.int .i64,.str,.str,.ls],.int .i64],[]))],[(0,[(1,([.ptr 0 0,.ptr 2 0,.ptr 3 0,.ptr 4 0,.int .i64],[.box [.ls,.int .i64,.ls,.bool],.del,.box [.ls,.int .i64,.ls,.bool],.box [.int .i64,.ls,.ls,.int .i64,.str,.str,.ls],.box [.int .i64,.ls,.ls,.int .i64,.str,.str,.ls]]))])],[(15,[.ls,.int .i64,.ls,.bool]),(16,[.ls,.ls,.int .i64,.ls,.bool,.ls,.bool,.ls,.ls,.ls]),(25,[.ls,.int .i64,.ls,.bool]),(29,[.ls,.int .i64,.ls,.bool]),(31,[.ls,.ls,.int .i64,.ls,.bool,.ls,.bool,.ls,.ls,.ls]),(37,[.ls,.int .i64,.ls,.bool]),(38,[.int .i64,.ls,.ls,.int .i64,.str,.str,.ls]),(39,[.int .i64,.ls,.ls,.int .i64,.str,.str,.ls]),(42,[.ls,.int .i64,.ls,.bool]),(43,[.int .i64,.ls,.ls,.int .i64,.str,.str,.ls])]⟩
def hs187:Hints:=[⟨45,[false,false,true,true,true,false,true,true,false,true,true],[],[3,4,6,7,9],[(1,([false,false,false,true,false,false,true,true,false,true,true],([],[4])))]⟩]
noncomputable def mf187:MFn:=mfD Tryz.prog entsC hs187 false false 187
def hn187:Hnt:=⟨[(99,(.bool,[])),(100,(.agg [.ls,.int .i64,.ls,.bool],[])),(128,(.agg [.int .i64,.ls,.ls,.int .i64,.str,.str,.ls],[])),(231,(.tup [.agg [.ls,.int .i64,.ls,.bool],.agg [.int .i64,.ls,.ls,.int .i64,.str,.str,.ls],.int .i64],[]))],[(0,[(1,([.ptr 0 0,.ptr 2 0,.ptr 3 0,.ptr 4 0,.int .i64],[.box [.ls,.int .i64,.ls,.bool],.del,.box [.ls,.int .i64,.ls,.bool],.box [.int .i64,.ls,.ls,.int .i64,.str,.str,.ls],.box [.int .i64,.ls,.ls,.int .i64,.str,.str,.ls]]))])],[(15,[.ls,.int .i64,.ls,.bool]),(16,[.ls,.ls,.int .i64,.ls,.bool,.ls,.bool,.ls,.ls,.ls]),(25,[.ls,.int .i64,.ls,.bool]),(29,[.ls,.int .i64,.ls,.bool]),(31,[.ls,.ls,.int .i64,.ls,.bool,.ls,.bool,.ls,.ls,.ls]),(37,[.ls,.int .i64,.ls,.bool]),(38,[.int .i64,.ls,.ls,.int .i64,.str,.str,.ls]),(39,[.int .i64,.ls,.ls,.int .i64,.str,.str,.ls]),(42,[.ls,.int .i64,.ls,.bool]),(43,[.int .i64,.ls,.ls,.int .i64,.str,.str,.ls])]⟩
def hs231:Hints:=[]
noncomputable def mf231:MFn:=mfD Tryz.prog entsC hs231 false false 231
def hn231:Hnt:=⟨[(99,(.bool,[])),(100,(.agg [.ls,.int .i64,.ls,.bool],[])),(128,(.agg [.int .i64,.ls,.ls,.int .i64,.str,.str,.ls],[])),(231,(.tup [.agg [.ls,.int .i64,.ls,.bool],.agg [.int .i64,.ls,.ls,.int .i64,.str,.str,.ls],.int .i64],[])),(253,(.tup [.agg [.ls,.int .i64,.ls,.bool],.agg [.int .i64,.ls,.ls,.int .i64,.str,.str,.ls],.int .i64],[]))],[],[(15,[.ls,.int .i64,.ls,.bool]),(16,[.ls,.ls,.int .i64,.ls,.bool,.ls,.bool,.ls,.ls,.ls]),(22,[.ls,.int .i64,.ls,.bool]),(24,[.ls,.int .i64,.ls,.bool]),(32,[.ls,.int .i64,.ls,.bool]),(33,[.int .i64,.ls,.ls,.int .i64,.str,.str,.ls]),(36,[.ls,.int .i64,.ls,.bool]),(38,[.ls,.ls,.int .i64,.ls,.bool,.ls,.bool,.ls,.ls,.ls]),(44,[.ls,.int .i64,.ls,.bool]),(46,[.int .i64,.ls,.ls,.int .i64,.str,.str,.ls]),(47,[.int .i64,.ls,.ls,.int .i64,.str,.str,.ls])]⟩
def hs253:Hints:=[]
noncomputable def mf253:MFn:=mfD Tryz.prog entsC hs253 false false 253
def hn253:Hnt:=⟨[(71,(.tup [.agg [.ls,.int .i64,.ls,.bool],.agg [.int .i64,.ls,.ls,.int .i64,.str,.str,.ls],.int .i64],[])),(99,(.bool,[])),(100,(.agg [.ls,.int .i64,.ls,.bool],[])),(221,(.tup [.agg [.ls,.int .i64,.ls,.bool],.agg [.int .i64,.ls,.ls,.int .i64,.str,.str,.ls],.int .i64],[])),(253,(.tup [.agg [.ls,.int .i64,.ls,.bool],.agg [.int .i64,.ls,.ls,.int .i64,.str,.str,.ls],.int .i64],[])),(268,(.int .i64,[])),(269,(.tup [.agg [.ls,.int .i64,.ls,.bool],.agg [.int .i64,.ls,.ls,.int .i64,.str,.str,.ls],.int .i64],[]))],[],[(16,[.ls,.int .i64,.ls,.bool]),(21,[.ls,.int .i64,.ls,.bool]),(28,[.ls,.int .i64,.ls,.bool]),(33,[.ls,.int .i64,.ls,.bool]),(35,[.ls,.ls,.int .i64,.ls,.bool,.ls,.bool,.ls,.ls,.ls]),(42,[.ls,.int .i64,.ls,.bool]),(44,[.int .i64,.ls,.ls,.int .i64,.str,.str,.ls]),(48,[.ls,.int .i64,.ls,.bool]),(51,[.ls,.int .i64,.ls,.bool]),(53,[.ls,.ls,.int .i64,.ls,.bool,.ls,.bool,.ls,.ls,.ls]),(63,[.ls,.int .i64,.ls,.bool]),(69,[.ls,.int .i64,.ls,.bool]),(70,[.int .i64,.ls,.ls,.int .i64,.str,.str,.ls]),(72,[.ls,.int .i64,.ls,.bool]),(74,[.int .i64,.ls,.ls,.int .i64,.str,.str,.ls]),(75,[.ls,.int .i64,.ls,.bool]),(77,[.ls,.int .i64,.ls,.bool]),(79,[.ls,.ls,.int .i64,.ls,.bool,.ls,.bool,.ls,.ls,.ls]),(84,[.ls,.int .i64,.ls,.bool]),(86,[.ls,.int .i64,.ls,.bool]),(89,[.ls,.int .i64,.ls,.bool]),(91,[.ls,.int .i64,.ls,.bool]),(94,[.ls,.int .i64,.ls,.bool])]⟩
def hs33:Hints:=[]
noncomputable def mf33:MFn:=mfD Tryz.prog entsC hs33 false false 33
def hn33:Hnt:=⟨[(50,(.tup [.ls,.agg [.int .i64,.int .i64],.int .i64],[])),(52,(.tup [.agg [.int .i64,.int .i64],.int .i64],[])),(71,(.tup [.agg [.ls,.int .i64,.ls,.bool],.agg [.int .i64,.ls,.ls,.int .i64,.str,.str,.ls],.int .i64],[]))],[],[(22,[.int .i64,.int .i64]),(27,[.ls]),(29,[.ls,.ls,.int .i64,.ls,.bool,.ls,.bool,.ls,.ls,.ls]),(35,[.ls,.int .i64,.ls,.bool]),(43,[.int .i64,.int .i64]),(45,[.int .i64,.ls,.ls,.int .i64,.str,.str,.ls]),(46,[.int .i64,.int .i64])]⟩
noncomputable def tabRl:List (Nat × MFn):=[(128,mf128),(268,mf268),(192,mf192),(269,mf269),(71,mf71),(127,mf127),(187,mf187),(231,mf231),(253,mf253),(33,mf33)]
theorem e128(A:Ar)(D:Orc)(x0:Int)(x1_0:Int)(x1_1:List (List AV))(x1_2:List (List AV))(x1_3:Int)(x1_4:ByteArray)(x1_5:ByteArray)(x1_6:List (List AV))(x2_0:Int)(x2_1:List (List AV))(x2_2:List (List AV))(x2_3:Int)(x2_4:ByteArray)(x2_5:ByteArray)(x2_6:List (List AV)):fnK A D ownC hn128 .n 128 mf128 [iv x0,AV.agg [iv x1_0,AV.ls x1_1,AV.ls x1_2,iv x1_3,sv x1_4,sv x1_5,AV.ls x1_6],AV.agg [iv x2_0,AV.ls x2_1,AV.ls x2_2,iv x2_3,sv x2_4,sv x2_5,AV.ls x2_6]] [] =
 some ((AV.agg [iv x0,AV.ls [],AV.ls [],iv 0,sv (bstr []),sv (bstr []),AV.ls [[iv x1_0,AV.ls x1_1,AV.ls x1_2,iv x1_3,sv x1_4,sv x1_5,AV.ls x1_6],[iv x2_0,AV.ls x2_1,AV.ls x2_2,iv x2_3,sv x2_4,sv x2_5,AV.ls x2_6]]],[])):=by kernel_rfl

theorem e268(A:Ar)(D:Orc)(x0_0:List (List AV))(x0_1:Int)(x0_2:List (List AV))(x0_3:Bool):fnK A D ownC hn268 .n 268 mf268 [AV.agg [AV.ls x0_0,iv x0_1,AV.ls x0_2,bv x0_3]] [] =
 askK D (Key.fn 99) [AV.agg [AV.ls x0_0,iv x0_1,AV.ls x0_2,bv x0_3],sv (bstr [33])] [] fun r o=>
 unBool r fun b=>
 unEnd o<|
 br b
 (some ((iv 3,[])))
 (askK D (Key.fn 99) [AV.agg [AV.ls x0_0,iv x0_1,AV.ls x0_2,bv x0_3],sv (bstr [88])] [] fun r1 o1=>
 unBool r1 fun b1=>
 unEnd o1<|
 br b1
 (some ((iv 8,[])))
 (askK D (Key.fn 99) [AV.agg [AV.ls x0_0,iv x0_1,AV.ls x0_2,bv x0_3],sv (bstr [71])] [] fun r2 o2=>
 unBool r2 fun b2=>
 unEnd o2<|
 br b2
 (some ((iv 9,[])))
 (askK D (Key.fn 99) [AV.agg [AV.ls x0_0,iv x0_1,AV.ls x0_2,bv x0_3],sv (bstr [70])] [] fun r3 o3=>
 unBool r3 fun b3=>
 unEnd o3<|
 br b3
 (some ((iv 10,[])))
 (some ((iv (-1),[])))))):=by kernel_rfl

theorem e192(A:Ar)(D:Orc)(x0_0:List (List AV))(x0_1:List (List AV))(x0_2:Int)(x0_3:List (List AV))(x0_4:Bool)(x0_5:List (List AV))(x0_6:Bool)(x0_7:List (List AV))(x0_8:List (List AV))(x0_9:List (List AV))(x1:ByteArray):fnK A D ownC hn192 .n 192 mf192 [AV.agg [AV.ls x0_0,AV.ls x0_1,iv x0_2,AV.ls x0_3,bv x0_4,AV.ls x0_5,bv x0_6,AV.ls x0_7,AV.ls x0_8,AV.ls x0_9],sv x1] [] =
 askK D (Key.lp 192 0) [sv x1,AV.ptr 0 0,iv 0] [ABlk.mk [AV.ls x0_0,AV.ls x0_1,iv x0_2,AV.ls x0_3,bv x0_4,AV.ls x0_5,bv x0_6,AV.ls x0_7,AV.ls x0_8,AV.ls x0_9] true false] fun r o=>
 unTup r fun cs=>
 unCons cs fun c l=>
 br (axIs 0 c)
 (cInt IntKind.i64 l fun n l1=>
 unNil l1<|
 unOut o fun c1 l2=>
 unDel c1<|
 unEnd l2<|
 some ((iv n,[])))
 (br (axIs 1 c)
 (unNil l<|
 unOut o fun c1 l1=>
 unDel c1<|
 unEnd l1<|
 some ((iv (-1),[])))
 (none)):=by kernel_rfl

theorem e192_0(A:Ar)(D:Orc)(t1:ByteArray)(b2_0:List (List AV))(b2_1:List (List AV))(b2_2:Int)(b2_3:List (List AV))(b2_4:Bool)(b2_5:List (List AV))(b2_6:Bool)(b2_7:List (List AV))(b2_8:List (List AV))(b2_9:List (List AV))(t5:Int):lpK A D ownC hn192 .n 192 0 (lpAt mf192 0).fst (lpAt mf192 0).snd [sv t1,AV.ptr 0 0,iv t5] [{ cells:=[AV.ls b2_0,AV.ls b2_1,iv b2_2,AV.ls b2_3,bv b2_4,AV.ls b2_5,bv b2_6,AV.ls b2_7,AV.ls b2_8,AV.ls b2_9],st:=true,ex:=false }] =
 br (A.lt t5 ↑(lenR b2_8))
 (unI t5 fun i=>
 nthK b2_8 i fun cs=>
 cStr cs fun s l=>
 cLs l fun _ l1=>
 cLs l1 fun _ l2=>
 unNil l2<|
 br (A.seq s t1)
 (some ((AV.tup [bv true,iv t5],[BO.del])))
 (askK D (Key.lp 192 0) [sv t1,AV.ptr 0 0,iv (A.add IntKind.i64 t5 1)] [ABlk.mk [AV.ls b2_0,AV.ls b2_1,iv b2_2,AV.ls b2_3,bv b2_4,AV.ls b2_5,bv b2_6,AV.ls b2_7,AV.ls b2_8,AV.ls b2_9] true false] fun r o=>
 tailK 1 [0] (AH.mk [(0,ABlk.mk [AV.ls b2_0,AV.ls b2_1,iv b2_2,AV.ls b2_3,bv b2_4,AV.ls b2_5,bv b2_6,AV.ls b2_7,AV.ls b2_8,AV.ls b2_9] true false)] 1 none) [0] r o))
 (some ((AV.tup [iv 0],[BO.del]))):=by kernel_rfl

theorem e269(A:Ar)(D:Orc)(x0_0:List (List AV))(x0_1:Int)(x0_2:List (List AV))(x0_3:Bool)(x1_0:List (List AV))(x1_1:List (List AV))(x1_2:Int)(x1_3:List (List AV))(x1_4:Bool)(x1_5:List (List AV))(x1_6:Bool)(x1_7:List (List AV))(x1_8:List (List AV))(x1_9:List (List AV)):fnK A D ownC hn269 .n 269 mf269 [AV.agg [AV.ls x0_0,iv x0_1,AV.ls x0_2,bv x0_3],AV.agg [AV.ls x1_0,AV.ls x1_1,iv x1_2,AV.ls x1_3,bv x1_4,AV.ls x1_5,bv x1_6,AV.ls x1_7,AV.ls x1_8,AV.ls x1_9]] [] =
 askK D (Key.fn 102) [AV.agg [AV.ls x0_0,iv x0_1,AV.ls x0_2,bv x0_3]] [] fun r o=>
 unBool r fun b=>
 unEnd o<|
 br b
 (askK D (Key.fn 101) [AV.agg [AV.ls x0_0,iv x0_1,AV.ls x0_2,bv x0_3]] [] fun r1 o1=>
 unAgg r1 fun cs=>
 cInt IntKind.i64 cs fun _ l=>
 cStr l fun s l1=>
 cInt IntKind.i64 l1 fun _ l2=>
 cInt IntKind.i64 l2 fun _ l3=>
 unNil l3<|
 unEnd o1<|
 askK D (Key.fn 192) [AV.agg [AV.ls x1_0,AV.ls x1_1,iv x1_2,AV.ls x1_3,bv x1_4,AV.ls x1_5,bv x1_6,AV.ls x1_7,AV.ls x1_8,AV.ls x1_9],sv s] [] fun r2 o2=>
 unInt IntKind.i64 r2 fun n3=>
 unEnd o2<|
 br (A.lt n3 0)
 (some ((AV.tup [AV.agg [AV.ls x0_0,iv x0_1,AV.ls x0_2,bv x0_3],AV.agg [iv 0,AV.ls [],AV.ls [],iv 0,sv (bstr []),sv (bstr []),AV.ls []],iv 110],[])))
 (askK D (Key.fn 100) [AV.agg [AV.ls x0_0,iv x0_1,AV.ls x0_2,bv x0_3]] [] fun r3 o3=>
 unAgg r3 fun cs1=>
 cLs cs1 fun xs l4=>
 cInt IntKind.i64 l4 fun n4 l5=>
 cLs l5 fun xs1 l6=>
 cBool l6 fun b1 l7=>
 unNil l7<|
 unEnd o3<|
 askK D (Key.fn 99) [AV.agg [AV.ls xs,iv n4,AV.ls xs1,bv b1],sv (bstr [46])] [] fun r4 o4=>
 unBool r4 fun b2=>
 unEnd o4<|
 br b2
 (askK D (Key.fn 100) [AV.agg [AV.ls xs,iv n4,AV.ls xs1,bv b1]] [] fun r5 o5=>
 unAgg r5 fun cs2=>
 cLs cs2 fun xs2 l8=>
 cInt IntKind.i64 l8 fun n5 l9=>
 cLs l9 fun xs3 l10=>
 cBool l10 fun b3 l11=>
 unNil l11<|
 unEnd o5<|
 askK D (Key.fn 102) [AV.agg [AV.ls xs2,iv n5,AV.ls xs3,bv b3]] [] fun r6 o6=>
 unBool r6 fun b4=>
 unEnd o6<|
 br b4
 (askK D (Key.fn 101) [AV.agg [AV.ls xs2,iv n5,AV.ls xs3,bv b3]] [] fun r7 o7=>
 unAgg r7 fun cs3=>
 cInt IntKind.i64 cs3 fun _ l12=>
 cStr l12 fun s1 l13=>
 cInt IntKind.i64 l13 fun _ l14=>
 cInt IntKind.i64 l14 fun _ l15=>
 unNil l15<|
 unEnd o7<|
 unI n3 fun i=>
 nthK x1_8 i fun cs4=>
 cStr cs4 fun _ l16=>
 cLs l16 fun xs4 l17=>
 cLs l17 fun _ l18=>
 unNil l18<|
 askK D (Key.fn 103) [AV.ls xs4,sv s1] [] fun r8 o8=>
 unBool r8 fun b5=>
 unEnd o8<|
 br b5
 (askK D (Key.fn 100) [AV.agg [AV.ls xs2,iv n5,AV.ls xs3,bv b3]] [] fun r9 o9=>
 unAgg r9 fun cs5=>
 cLs cs5 fun xs6 l19=>
 cInt IntKind.i64 l19 fun n9 l20=>
 cLs l20 fun xs7 l21=>
 cBool l21 fun b6 l22=>
 unNil l22<|
 unEnd o9<|
 unI n3 fun i1=>
 nthK x1_8 i1 fun cs6=>
 cStr cs6 fun s3 l23=>
 cLs l23 fun _ l24=>
 cLs l24 fun _ l25=>
 unNil l25<|
 some ((AV.tup [AV.agg [AV.ls xs6,iv n9,AV.ls xs7,bv b6],AV.agg [iv 6,AV.ls [],AV.ls [],iv 0,sv s3,sv s1,AV.ls []],iv 0],[])))
 (some ((AV.tup [AV.agg [AV.ls xs2,iv n5,AV.ls xs3,bv b3],AV.agg [iv 0,AV.ls [],AV.ls [],iv 0,sv (bstr []),sv (bstr []),AV.ls []],iv 110],[]))))
 (some ((AV.tup [AV.agg [AV.ls xs2,iv n5,AV.ls xs3,bv b3],AV.agg [iv 0,AV.ls [],AV.ls [],iv 0,sv (bstr []),sv (bstr []),AV.ls []],iv 101],[]))))
 (some ((AV.tup [AV.agg [AV.ls xs,iv n4,AV.ls xs1,bv b1],AV.agg [iv 0,AV.ls [],AV.ls [],iv 0,sv (bstr []),sv (bstr []),AV.ls []],iv 101],[])))))
 (some ((AV.tup [AV.agg [AV.ls x0_0,iv x0_1,AV.ls x0_2,bv x0_3],AV.agg [iv 0,AV.ls [],AV.ls [],iv 0,sv (bstr []),sv (bstr []),AV.ls []],iv 101],[]))):=by kernel_rfl

theorem e71(A:Ar)(D:Orc)(x0_0:List (List AV))(x0_1:Int)(x0_2:List (List AV))(x0_3:Bool)(x1_0:List (List AV))(x1_1:List (List AV))(x1_2:Int)(x1_3:List (List AV))(x1_4:Bool)(x1_5:List (List AV))(x1_6:Bool)(x1_7:List (List AV))(x1_8:List (List AV))(x1_9:List (List AV))(x2:Int):fnK A D ownC hn71 .n 71 mf71 [AV.agg [AV.ls x0_0,iv x0_1,AV.ls x0_2,bv x0_3],AV.agg [AV.ls x1_0,AV.ls x1_1,iv x1_2,AV.ls x1_3,bv x1_4,AV.ls x1_5,bv x1_6,AV.ls x1_7,AV.ls x1_8,AV.ls x1_9],iv x2] [] =
 askK D (Key.fn 127) [AV.agg [AV.ls x0_0,iv x0_1,AV.ls x0_2,bv x0_3],AV.agg [AV.ls x1_0,AV.ls x1_1,iv x1_2,AV.ls x1_3,bv x1_4,AV.ls x1_5,bv x1_6,AV.ls x1_7,AV.ls x1_8,AV.ls x1_9],iv x2] [] fun r o=>
 unTup r fun cs=>
 unCons cs fun c l=>
 unAgg c fun cs1=>
 cLs cs1 fun xs l1=>
 cInt IntKind.i64 l1 fun n l2=>
 cLs l2 fun xs1 l3=>
 cBool l3 fun b l4=>
 unNil l4<|
 unCons l fun c1 l5=>
 unAgg c1 fun cs2=>
 cInt IntKind.i64 cs2 fun n1 l6=>
 cLs l6 fun xs2 l7=>
 cLs l7 fun xs3 l8=>
 cInt IntKind.i64 l8 fun n2 l9=>
 cStr l9 fun s l10=>
 cStr l10 fun s1 l11=>
 cLs l11 fun xs4 l12=>
 unNil l12<|
 cInt IntKind.i64 l5 fun n3 l13=>
 unNil l13<|
 unEnd o<|
 br (A.eq n3 0)
 (askK D (Key.fn 99) [AV.agg [AV.ls xs,iv n,AV.ls xs1,bv b],sv (bstr [45,62])] [] fun r1 o1=>
 unBool r1 fun b1=>
 unEnd o1<|
 br b1
 (askK D (Key.fn 100) [AV.agg [AV.ls xs,iv n,AV.ls xs1,bv b]] [] fun r2 o2=>
 unAgg r2 fun cs3=>
 cLs cs3 fun xs5 l14=>
 cInt IntKind.i64 l14 fun n4 l15=>
 cLs l15 fun xs6 l16=>
 cBool l16 fun b2 l17=>
 unNil l17<|
 unEnd o2<|
 askK D (Key.fn 71) [AV.agg [AV.ls xs5,iv n4,AV.ls xs6,bv b2],AV.agg [AV.ls x1_0,AV.ls x1_1,iv x1_2,AV.ls x1_3,bv x1_4,AV.ls x1_5,bv x1_6,AV.ls x1_7,AV.ls x1_8,AV.ls x1_9],iv x2] [] fun r3 o3=>
 unTup r3 fun cs4=>
 unCons cs4 fun c2 l18=>
 unAgg c2 fun cs5=>
 cLs cs5 fun xs7 l19=>
 cInt IntKind.i64 l19 fun n5 l20=>
 cLs l20 fun xs8 l21=>
 cBool l21 fun b3 l22=>
 unNil l22<|
 unCons l18 fun c3 l23=>
 unAgg c3 fun cs6=>
 cInt IntKind.i64 cs6 fun n6 l24=>
 cLs l24 fun xs9 l25=>
 cLs l25 fun xs10 l26=>
 cInt IntKind.i64 l26 fun n7 l27=>
 cStr l27 fun s2 l28=>
 cStr l28 fun s3 l29=>
 cLs l29 fun xs11 l30=>
 unNil l30<|
 cInt IntKind.i64 l23 fun n8 l31=>
 unNil l31<|
 unEnd o3<|
 askK D (Key.fn 128) [iv 7,AV.agg [iv n1,AV.ls xs2,AV.ls xs3,iv n2,sv s,sv s1,AV.ls xs4],AV.agg [iv n6,AV.ls xs9,AV.ls xs10,iv n7,sv s2,sv s3,AV.ls xs11]] [] fun r4 o4=>
 unAgg r4 fun cs7=>
 cInt IntKind.i64 cs7 fun n9 l32=>
 cLs l32 fun xs12 l33=>
 cLs l33 fun xs13 l34=>
 cInt IntKind.i64 l34 fun n10 l35=>
 cStr l35 fun s4 l36=>
 cStr l36 fun s5 l37=>
 cLs l37 fun xs14 l38=>
 unNil l38<|
 unEnd o4<|
 some ((AV.tup [AV.agg [AV.ls xs7,iv n5,AV.ls xs8,bv b3],AV.agg [iv n9,AV.ls xs12,AV.ls xs13,iv n10,sv s4,sv s5,AV.ls xs14],iv n8],[])))
 (some ((AV.tup [AV.agg [AV.ls xs,iv n,AV.ls xs1,bv b],AV.agg [iv n1,AV.ls xs2,AV.ls xs3,iv n2,sv s,sv s1,AV.ls xs4],iv n3],[]))))
 (some ((AV.tup [AV.agg [AV.ls xs,iv n,AV.ls xs1,bv b],AV.agg [iv n1,AV.ls xs2,AV.ls xs3,iv n2,sv s,sv s1,AV.ls xs4],iv n3],[]))):=by kernel_rfl

theorem e127(A:Ar)(D:Orc)(x0_0:List (List AV))(x0_1:Int)(x0_2:List (List AV))(x0_3:Bool)(x1_0:List (List AV))(x1_1:List (List AV))(x1_2:Int)(x1_3:List (List AV))(x1_4:Bool)(x1_5:List (List AV))(x1_6:Bool)(x1_7:List (List AV))(x1_8:List (List AV))(x1_9:List (List AV))(x2:Int):fnK A D ownC hn127 .n 127 mf127 [AV.agg [AV.ls x0_0,iv x0_1,AV.ls x0_2,bv x0_3],AV.agg [AV.ls x1_0,AV.ls x1_1,iv x1_2,AV.ls x1_3,bv x1_4,AV.ls x1_5,bv x1_6,AV.ls x1_7,AV.ls x1_8,AV.ls x1_9],iv x2] [] =
 askK D (Key.fn 187) [AV.agg [AV.ls x0_0,iv x0_1,AV.ls x0_2,bv x0_3],AV.agg [AV.ls x1_0,AV.ls x1_1,iv x1_2,AV.ls x1_3,bv x1_4,AV.ls x1_5,bv x1_6,AV.ls x1_7,AV.ls x1_8,AV.ls x1_9],iv x2] [] fun r o=>
 unTup r fun cs=>
 unCons cs fun c l=>
 unAgg c fun cs1=>
 cLs cs1 fun xs l1=>
 cInt IntKind.i64 l1 fun n l2=>
 cLs l2 fun xs1 l3=>
 cBool l3 fun b l4=>
 unNil l4<|
 unCons l fun c1 l5=>
 unAgg c1 fun cs2=>
 cInt IntKind.i64 cs2 fun n1 l6=>
 cLs l6 fun xs2 l7=>
 cLs l7 fun xs3 l8=>
 cInt IntKind.i64 l8 fun n2 l9=>
 cStr l9 fun s l10=>
 cStr l10 fun s1 l11=>
 cLs l11 fun xs4 l12=>
 unNil l12<|
 cInt IntKind.i64 l5 fun n3 l13=>
 unNil l13<|
 unEnd o<|
 askK D (Key.lp 127 0) [iv x2,AV.ptr 0 0,AV.ptr 1 0,AV.ptr 2 0,AV.ptr 3 0,AV.ptr 4 0,iv n3] [ABlk.mk [AV.ls xs,iv n,AV.ls xs1,bv b] true false,ABlk.mk [AV.ls x1_0,AV.ls x1_1,iv x1_2,AV.ls x1_3,bv x1_4,AV.ls x1_5,bv x1_6,AV.ls x1_7,AV.ls x1_8,AV.ls x1_9] true false,ABlk.mk [AV.ls [],iv 0,AV.ls [],bv false] true false,ABlk.mk [iv 0,AV.ls [],AV.ls [],iv 0,sv (bstr []),sv (bstr []),AV.ls []] true false,ABlk.mk [iv n1,AV.ls xs2,AV.ls xs3,iv n2,sv s,sv s1,AV.ls xs4] true false] fun r1 o1=>
 unTup r1 fun cs3=>
 unCons cs3 fun c2 l14=>
 br (axIs 1 c2)
 (unCons l14 fun c3 l15=>
 unPtr 0 0 c3<|
 unCons l15 fun c4 l16=>
 unPtr 2 0 c4<|
 unCons l16 fun c5 l17=>
 unPtr 3 0 c5<|
 unCons l17 fun c6 l18=>
 unPtr 4 0 c6<|
 cInt IntKind.i64 l18 fun n4 l19=>
 unNil l19<|
 unOut o1 fun c7 l20=>
 unSet true false c7 fun cs4=>
 cLs cs4 fun xs5 l21=>
 cInt IntKind.i64 l21 fun n5 l22=>
 cLs l22 fun xs6 l23=>
 cBool l23 fun b1 l24=>
 unNil l24<|
 unOut l20 fun c8 l25=>
 unDel c8<|
 unOut l25 fun c9 l26=>
 unSet true false c9 fun cs5=>
 cLs cs5 fun _ l27=>
 cInt IntKind.i64 l27 fun _ l28=>
 cLs l28 fun _ l29=>
 cBool l29 fun _ l30=>
 unNil l30<|
 unOut l26 fun c10 l31=>
 unSet true false c10 fun cs6=>
 cInt IntKind.i64 cs6 fun _ l32=>
 cLs l32 fun _ l33=>
 cLs l33 fun _ l34=>
 cInt IntKind.i64 l34 fun _ l35=>
 cStr l35 fun _ l36=>
 cStr l36 fun _ l37=>
 cLs l37 fun _ l38=>
 unNil l38<|
 unOut l31 fun c11 l39=>
 unSet true false c11 fun cs7=>
 cInt IntKind.i64 cs7 fun n9 l40=>
 cLs l40 fun xs12 l41=>
 cLs l41 fun xs13 l42=>
 cInt IntKind.i64 l42 fun n10 l43=>
 cStr l43 fun s4 l44=>
 cStr l44 fun s5 l45=>
 cLs l45 fun xs14 l46=>
 unNil l46<|
 unEnd l39<|
 some ((AV.tup [AV.agg [AV.ls xs5,iv n5,AV.ls xs6,bv b1],AV.agg [iv n9,AV.ls xs12,AV.ls xs13,iv n10,sv s4,sv s5,AV.ls xs14],iv n4],[])))
 (none):=by kernel_rfl

theorem e127_0(A:Ar)(D:Orc)(t2:Int)(b3_0:List (List AV))(b3_1:Int)(b3_2:List (List AV))(b3_3:Bool)(b4_0:List (List AV))(b4_1:List (List AV))(b4_2:Int)(b4_3:List (List AV))(b4_4:Bool)(b4_5:List (List AV))(b4_6:Bool)(b4_7:List (List AV))(b4_8:List (List AV))(b4_9:List (List AV))(b6_0:List (List AV))(b6_1:Int)(b6_2:List (List AV))(b6_3:Bool)(b7_0:Int)(b7_1:List (List AV))(b7_2:List (List AV))(b7_3:Int)(b7_4:ByteArray)(b7_5:ByteArray)(b7_6:List (List AV))(b9_0:Int)(b9_1:List (List AV))(b9_2:List (List AV))(b9_3:Int)(b9_4:ByteArray)(b9_5:ByteArray)(b9_6:List (List AV))(t10:Int):lpK A D ownC hn127 .n 127 0 (lpAt mf127 0).fst (lpAt mf127 0).snd [iv t2,AV.ptr 0 0,AV.ptr 1 0,AV.ptr 2 0,AV.ptr 3 0,AV.ptr 4 0,iv t10] [{ cells:=[AV.ls b3_0,iv b3_1,AV.ls b3_2,bv b3_3],st:=true,ex:=false },{ cells:=[AV.ls b4_0,AV.ls b4_1,iv b4_2,AV.ls b4_3,bv b4_4,AV.ls b4_5,bv b4_6,AV.ls b4_7,AV.ls b4_8,AV.ls b4_9],st:=true,ex:=false },{ cells:=[AV.ls b6_0,iv b6_1,AV.ls b6_2,bv b6_3],st:=true,ex:=false },{ cells:=[iv b7_0,AV.ls b7_1,AV.ls b7_2,iv b7_3,sv b7_4,sv b7_5,AV.ls b7_6],st:=true,ex:=false },{ cells:=[iv b9_0,AV.ls b9_1,AV.ls b9_2,iv b9_3,sv b9_4,sv b9_5,AV.ls b9_6],st:=true,ex:=false }] =
 br (A.eq t10 0)
 (askK D (Key.fn 99) [AV.agg [AV.ls b3_0,iv b3_1,AV.ls b3_2,bv b3_3],sv (bstr [124])] [] fun r o=>
 unBool r fun b=>
 unEnd o<|
 br b
 (askK D (Key.fn 100) [AV.agg [AV.ls b3_0,iv b3_1,AV.ls b3_2,bv b3_3]] [] fun r1 o1=>
 unAgg r1 fun cs=>
 cLs cs fun xs l=>
 cInt IntKind.i64 l fun n l1=>
 cLs l1 fun xs1 l2=>
 cBool l2 fun b1 l3=>
 unNil l3<|
 unEnd o1<|
 askK D (Key.fn 187) [AV.agg [AV.ls xs,iv n,AV.ls xs1,bv b1],AV.agg [AV.ls b4_0,AV.ls b4_1,iv b4_2,AV.ls b4_3,bv b4_4,AV.ls b4_5,bv b4_6,AV.ls b4_7,AV.ls b4_8,AV.ls b4_9],iv t2] [] fun r2 o2=>
 unTup r2 fun cs1=>
 unCons cs1 fun c l4=>
 unAgg c fun cs2=>
 cLs cs2 fun xs2 l5=>
 cInt IntKind.i64 l5 fun n1 l6=>
 cLs l6 fun xs3 l7=>
 cBool l7 fun b2 l8=>
 unNil l8<|
 unCons l4 fun c1 l9=>
 unAgg c1 fun cs3=>
 cInt IntKind.i64 cs3 fun n2 l10=>
 cLs l10 fun xs4 l11=>
 cLs l11 fun xs5 l12=>
 cInt IntKind.i64 l12 fun n3 l13=>
 cStr l13 fun s l14=>
 cStr l14 fun s1 l15=>
 cLs l15 fun xs6 l16=>
 unNil l16<|
 cInt IntKind.i64 l9 fun n4 l17=>
 unNil l17<|
 unEnd o2<|
 askK D (Key.fn 128) [iv 5,AV.agg [iv b9_0,AV.ls b9_1,AV.ls b9_2,iv b9_3,sv b9_4,sv b9_5,AV.ls b9_6],AV.agg [iv n2,AV.ls xs4,AV.ls xs5,iv n3,sv s,sv s1,AV.ls xs6]] [] fun r3 o3=>
 unAgg r3 fun cs4=>
 cInt IntKind.i64 cs4 fun n5 l18=>
 cLs l18 fun xs7 l19=>
 cLs l19 fun xs8 l20=>
 cInt IntKind.i64 l20 fun n6 l21=>
 cStr l21 fun s2 l22=>
 cStr l22 fun s3 l23=>
 cLs l23 fun xs9 l24=>
 unNil l24<|
 unEnd o3<|
 askK D (Key.lp 127 0) [iv t2,AV.ptr 0 0,AV.ptr 1 0,AV.ptr 2 0,AV.ptr 3 0,AV.ptr 4 0,iv n4] [ABlk.mk [AV.ls xs2,iv n1,AV.ls xs3,bv b2] true false,ABlk.mk [AV.ls b4_0,AV.ls b4_1,iv b4_2,AV.ls b4_3,bv b4_4,AV.ls b4_5,bv b4_6,AV.ls b4_7,AV.ls b4_8,AV.ls b4_9] true false,ABlk.mk [AV.ls b6_0,iv b6_1,AV.ls b6_2,bv b6_3] true false,ABlk.mk [iv b7_0,AV.ls b7_1,AV.ls b7_2,iv b7_3,sv b7_4,sv b7_5,AV.ls b7_6] true false,ABlk.mk [iv n5,AV.ls xs7,AV.ls xs8,iv n6,sv s2,sv s3,AV.ls xs9] true false] fun r4 o4=>
 tailK 5 [0,1,2,3,4] (AH.mk [(4,ABlk.mk [iv n5,AV.ls xs7,AV.ls xs8,iv n6,sv s2,sv s3,AV.ls xs9] true false),(3,ABlk.mk [iv b7_0,AV.ls b7_1,AV.ls b7_2,iv b7_3,sv b7_4,sv b7_5,AV.ls b7_6] true false),(2,ABlk.mk [AV.ls b6_0,iv b6_1,AV.ls b6_2,bv b6_3] true false),(1,ABlk.mk [AV.ls b4_0,AV.ls b4_1,iv b4_2,AV.ls b4_3,bv b4_4,AV.ls b4_5,bv b4_6,AV.ls b4_7,AV.ls b4_8,AV.ls b4_9] true false),(0,ABlk.mk [AV.ls xs2,iv n1,AV.ls xs3,bv b2] true false),(6,ABlk.mk [iv n2,AV.ls xs4,AV.ls xs5,iv n3,sv s,sv s1,AV.ls xs6] true false),(5,ABlk.mk [AV.ls xs2,iv n1,AV.ls xs3,bv b2] true false)] 7 none) [0,1,2,3,4] r4 o4)
 (some ((AV.tup [iv 0,AV.ptr 0 0,AV.ptr 2 0,AV.ptr 3 0,AV.ptr 4 0,iv t10],[BO.set (ABlk.mk [AV.ls b3_0,iv b3_1,AV.ls b3_2,bv b3_3] true false),BO.del,BO.set (ABlk.mk [AV.ls b6_0,iv b6_1,AV.ls b6_2,bv b6_3] true false),BO.set (ABlk.mk [iv b7_0,AV.ls b7_1,AV.ls b7_2,iv b7_3,sv b7_4,sv b7_5,AV.ls b7_6] true false),BO.set (ABlk.mk [iv b9_0,AV.ls b9_1,AV.ls b9_2,iv b9_3,sv b9_4,sv b9_5,AV.ls b9_6] true false)]))))
 (some ((AV.tup [iv 0,AV.ptr 0 0,AV.ptr 2 0,AV.ptr 3 0,AV.ptr 4 0,iv t10],[BO.set (ABlk.mk [AV.ls b3_0,iv b3_1,AV.ls b3_2,bv b3_3] true false),BO.del,BO.set (ABlk.mk [AV.ls b6_0,iv b6_1,AV.ls b6_2,bv b6_3] true false),BO.set (ABlk.mk [iv b7_0,AV.ls b7_1,AV.ls b7_2,iv b7_3,sv b7_4,sv b7_5,AV.ls b7_6] true false),BO.set (ABlk.mk [iv b9_0,AV.ls b9_1,AV.ls b9_2,iv b9_3,sv b9_4,sv b9_5,AV.ls b9_6] true false)]))):=by kernel_rfl

theorem e187(A:Ar)(D:Orc)(x0_0:List (List AV))(x0_1:Int)(x0_2:List (List AV))(x0_3:Bool)(x1_0:List (List AV))(x1_1:List (List AV))(x1_2:Int)(x1_3:List (List AV))(x1_4:Bool)(x1_5:List (List AV))(x1_6:Bool)(x1_7:List (List AV))(x1_8:List (List AV))(x1_9:List (List AV))(x2:Int):fnK A D ownC hn187 .n 187 mf187 [AV.agg [AV.ls x0_0,iv x0_1,AV.ls x0_2,bv x0_3],AV.agg [AV.ls x1_0,AV.ls x1_1,iv x1_2,AV.ls x1_3,bv x1_4,AV.ls x1_5,bv x1_6,AV.ls x1_7,AV.ls x1_8,AV.ls x1_9],iv x2] [] =
 askK D (Key.fn 231) [AV.agg [AV.ls x0_0,iv x0_1,AV.ls x0_2,bv x0_3],AV.agg [AV.ls x1_0,AV.ls x1_1,iv x1_2,AV.ls x1_3,bv x1_4,AV.ls x1_5,bv x1_6,AV.ls x1_7,AV.ls x1_8,AV.ls x1_9],iv x2] [] fun r o=>
 unTup r fun cs=>
 unCons cs fun c l=>
 unAgg c fun cs1=>
 cLs cs1 fun xs l1=>
 cInt IntKind.i64 l1 fun n l2=>
 cLs l2 fun xs1 l3=>
 cBool l3 fun b l4=>
 unNil l4<|
 unCons l fun c1 l5=>
 unAgg c1 fun cs2=>
 cInt IntKind.i64 cs2 fun n1 l6=>
 cLs l6 fun xs2 l7=>
 cLs l7 fun xs3 l8=>
 cInt IntKind.i64 l8 fun n2 l9=>
 cStr l9 fun s l10=>
 cStr l10 fun s1 l11=>
 cLs l11 fun xs4 l12=>
 unNil l12<|
 cInt IntKind.i64 l5 fun n3 l13=>
 unNil l13<|
 unEnd o<|
 askK D (Key.lp 187 0) [iv x2,AV.ptr 0 0,AV.ptr 1 0,AV.ptr 2 0,AV.ptr 3 0,AV.ptr 4 0,iv n3] [ABlk.mk [AV.ls xs,iv n,AV.ls xs1,bv b] true false,ABlk.mk [AV.ls x1_0,AV.ls x1_1,iv x1_2,AV.ls x1_3,bv x1_4,AV.ls x1_5,bv x1_6,AV.ls x1_7,AV.ls x1_8,AV.ls x1_9] true false,ABlk.mk [AV.ls [],iv 0,AV.ls [],bv false] true false,ABlk.mk [iv 0,AV.ls [],AV.ls [],iv 0,sv (bstr []),sv (bstr []),AV.ls []] true false,ABlk.mk [iv n1,AV.ls xs2,AV.ls xs3,iv n2,sv s,sv s1,AV.ls xs4] true false] fun r1 o1=>
 unTup r1 fun cs3=>
 unCons cs3 fun c2 l14=>
 br (axIs 1 c2)
 (unCons l14 fun c3 l15=>
 unPtr 0 0 c3<|
 unCons l15 fun c4 l16=>
 unPtr 2 0 c4<|
 unCons l16 fun c5 l17=>
 unPtr 3 0 c5<|
 unCons l17 fun c6 l18=>
 unPtr 4 0 c6<|
 cInt IntKind.i64 l18 fun n4 l19=>
 unNil l19<|
 unOut o1 fun c7 l20=>
 unSet true false c7 fun cs4=>
 cLs cs4 fun xs5 l21=>
 cInt IntKind.i64 l21 fun n5 l22=>
 cLs l22 fun xs6 l23=>
 cBool l23 fun b1 l24=>
 unNil l24<|
 unOut l20 fun c8 l25=>
 unDel c8<|
 unOut l25 fun c9 l26=>
 unSet true false c9 fun cs5=>
 cLs cs5 fun _ l27=>
 cInt IntKind.i64 l27 fun _ l28=>
 cLs l28 fun _ l29=>
 cBool l29 fun _ l30=>
 unNil l30<|
 unOut l26 fun c10 l31=>
 unSet true false c10 fun cs6=>
 cInt IntKind.i64 cs6 fun _ l32=>
 cLs l32 fun _ l33=>
 cLs l33 fun _ l34=>
 cInt IntKind.i64 l34 fun _ l35=>
 cStr l35 fun _ l36=>
 cStr l36 fun _ l37=>
 cLs l37 fun _ l38=>
 unNil l38<|
 unOut l31 fun c11 l39=>
 unSet true false c11 fun cs7=>
 cInt IntKind.i64 cs7 fun n9 l40=>
 cLs l40 fun xs12 l41=>
 cLs l41 fun xs13 l42=>
 cInt IntKind.i64 l42 fun n10 l43=>
 cStr l43 fun s4 l44=>
 cStr l44 fun s5 l45=>
 cLs l45 fun xs14 l46=>
 unNil l46<|
 unEnd l39<|
 some ((AV.tup [AV.agg [AV.ls xs5,iv n5,AV.ls xs6,bv b1],AV.agg [iv n9,AV.ls xs12,AV.ls xs13,iv n10,sv s4,sv s5,AV.ls xs14],iv n4],[])))
 (none):=by kernel_rfl

theorem e187_0(A:Ar)(D:Orc)(t2:Int)(b3_0:List (List AV))(b3_1:Int)(b3_2:List (List AV))(b3_3:Bool)(b4_0:List (List AV))(b4_1:List (List AV))(b4_2:Int)(b4_3:List (List AV))(b4_4:Bool)(b4_5:List (List AV))(b4_6:Bool)(b4_7:List (List AV))(b4_8:List (List AV))(b4_9:List (List AV))(b6_0:List (List AV))(b6_1:Int)(b6_2:List (List AV))(b6_3:Bool)(b7_0:Int)(b7_1:List (List AV))(b7_2:List (List AV))(b7_3:Int)(b7_4:ByteArray)(b7_5:ByteArray)(b7_6:List (List AV))(b9_0:Int)(b9_1:List (List AV))(b9_2:List (List AV))(b9_3:Int)(b9_4:ByteArray)(b9_5:ByteArray)(b9_6:List (List AV))(t10:Int):lpK A D ownC hn187 .n 187 0 (lpAt mf187 0).fst (lpAt mf187 0).snd [iv t2,AV.ptr 0 0,AV.ptr 1 0,AV.ptr 2 0,AV.ptr 3 0,AV.ptr 4 0,iv t10] [{ cells:=[AV.ls b3_0,iv b3_1,AV.ls b3_2,bv b3_3],st:=true,ex:=false },{ cells:=[AV.ls b4_0,AV.ls b4_1,iv b4_2,AV.ls b4_3,bv b4_4,AV.ls b4_5,bv b4_6,AV.ls b4_7,AV.ls b4_8,AV.ls b4_9],st:=true,ex:=false },{ cells:=[AV.ls b6_0,iv b6_1,AV.ls b6_2,bv b6_3],st:=true,ex:=false },{ cells:=[iv b7_0,AV.ls b7_1,AV.ls b7_2,iv b7_3,sv b7_4,sv b7_5,AV.ls b7_6],st:=true,ex:=false },{ cells:=[iv b9_0,AV.ls b9_1,AV.ls b9_2,iv b9_3,sv b9_4,sv b9_5,AV.ls b9_6],st:=true,ex:=false }] =
 br (A.eq t10 0)
 (askK D (Key.fn 99) [AV.agg [AV.ls b3_0,iv b3_1,AV.ls b3_2,bv b3_3],sv (bstr [38])] [] fun r o=>
 unBool r fun b=>
 unEnd o<|
 br b
 (askK D (Key.fn 100) [AV.agg [AV.ls b3_0,iv b3_1,AV.ls b3_2,bv b3_3]] [] fun r1 o1=>
 unAgg r1 fun cs=>
 cLs cs fun xs l=>
 cInt IntKind.i64 l fun n l1=>
 cLs l1 fun xs1 l2=>
 cBool l2 fun b1 l3=>
 unNil l3<|
 unEnd o1<|
 askK D (Key.fn 231) [AV.agg [AV.ls xs,iv n,AV.ls xs1,bv b1],AV.agg [AV.ls b4_0,AV.ls b4_1,iv b4_2,AV.ls b4_3,bv b4_4,AV.ls b4_5,bv b4_6,AV.ls b4_7,AV.ls b4_8,AV.ls b4_9],iv t2] [] fun r2 o2=>
 unTup r2 fun cs1=>
 unCons cs1 fun c l4=>
 unAgg c fun cs2=>
 cLs cs2 fun xs2 l5=>
 cInt IntKind.i64 l5 fun n1 l6=>
 cLs l6 fun xs3 l7=>
 cBool l7 fun b2 l8=>
 unNil l8<|
 unCons l4 fun c1 l9=>
 unAgg c1 fun cs3=>
 cInt IntKind.i64 cs3 fun n2 l10=>
 cLs l10 fun xs4 l11=>
 cLs l11 fun xs5 l12=>
 cInt IntKind.i64 l12 fun n3 l13=>
 cStr l13 fun s l14=>
 cStr l14 fun s1 l15=>
 cLs l15 fun xs6 l16=>
 unNil l16<|
 cInt IntKind.i64 l9 fun n4 l17=>
 unNil l17<|
 unEnd o2<|
 askK D (Key.fn 128) [iv 4,AV.agg [iv b9_0,AV.ls b9_1,AV.ls b9_2,iv b9_3,sv b9_4,sv b9_5,AV.ls b9_6],AV.agg [iv n2,AV.ls xs4,AV.ls xs5,iv n3,sv s,sv s1,AV.ls xs6]] [] fun r3 o3=>
 unAgg r3 fun cs4=>
 cInt IntKind.i64 cs4 fun n5 l18=>
 cLs l18 fun xs7 l19=>
 cLs l19 fun xs8 l20=>
 cInt IntKind.i64 l20 fun n6 l21=>
 cStr l21 fun s2 l22=>
 cStr l22 fun s3 l23=>
 cLs l23 fun xs9 l24=>
 unNil l24<|
 unEnd o3<|
 askK D (Key.lp 187 0) [iv t2,AV.ptr 0 0,AV.ptr 1 0,AV.ptr 2 0,AV.ptr 3 0,AV.ptr 4 0,iv n4] [ABlk.mk [AV.ls xs2,iv n1,AV.ls xs3,bv b2] true false,ABlk.mk [AV.ls b4_0,AV.ls b4_1,iv b4_2,AV.ls b4_3,bv b4_4,AV.ls b4_5,bv b4_6,AV.ls b4_7,AV.ls b4_8,AV.ls b4_9] true false,ABlk.mk [AV.ls b6_0,iv b6_1,AV.ls b6_2,bv b6_3] true false,ABlk.mk [iv b7_0,AV.ls b7_1,AV.ls b7_2,iv b7_3,sv b7_4,sv b7_5,AV.ls b7_6] true false,ABlk.mk [iv n5,AV.ls xs7,AV.ls xs8,iv n6,sv s2,sv s3,AV.ls xs9] true false] fun r4 o4=>
 tailK 5 [0,1,2,3,4] (AH.mk [(4,ABlk.mk [iv n5,AV.ls xs7,AV.ls xs8,iv n6,sv s2,sv s3,AV.ls xs9] true false),(3,ABlk.mk [iv b7_0,AV.ls b7_1,AV.ls b7_2,iv b7_3,sv b7_4,sv b7_5,AV.ls b7_6] true false),(2,ABlk.mk [AV.ls b6_0,iv b6_1,AV.ls b6_2,bv b6_3] true false),(1,ABlk.mk [AV.ls b4_0,AV.ls b4_1,iv b4_2,AV.ls b4_3,bv b4_4,AV.ls b4_5,bv b4_6,AV.ls b4_7,AV.ls b4_8,AV.ls b4_9] true false),(0,ABlk.mk [AV.ls xs2,iv n1,AV.ls xs3,bv b2] true false),(6,ABlk.mk [iv n2,AV.ls xs4,AV.ls xs5,iv n3,sv s,sv s1,AV.ls xs6] true false),(5,ABlk.mk [AV.ls xs2,iv n1,AV.ls xs3,bv b2] true false)] 7 none) [0,1,2,3,4] r4 o4)
 (some ((AV.tup [iv 0,AV.ptr 0 0,AV.ptr 2 0,AV.ptr 3 0,AV.ptr 4 0,iv t10],[BO.set (ABlk.mk [AV.ls b3_0,iv b3_1,AV.ls b3_2,bv b3_3] true false),BO.del,BO.set (ABlk.mk [AV.ls b6_0,iv b6_1,AV.ls b6_2,bv b6_3] true false),BO.set (ABlk.mk [iv b7_0,AV.ls b7_1,AV.ls b7_2,iv b7_3,sv b7_4,sv b7_5,AV.ls b7_6] true false),BO.set (ABlk.mk [iv b9_0,AV.ls b9_1,AV.ls b9_2,iv b9_3,sv b9_4,sv b9_5,AV.ls b9_6] true false)]))))
 (some ((AV.tup [iv 0,AV.ptr 0 0,AV.ptr 2 0,AV.ptr 3 0,AV.ptr 4 0,iv t10],[BO.set (ABlk.mk [AV.ls b3_0,iv b3_1,AV.ls b3_2,bv b3_3] true false),BO.del,BO.set (ABlk.mk [AV.ls b6_0,iv b6_1,AV.ls b6_2,bv b6_3] true false),BO.set (ABlk.mk [iv b7_0,AV.ls b7_1,AV.ls b7_2,iv b7_3,sv b7_4,sv b7_5,AV.ls b7_6] true false),BO.set (ABlk.mk [iv b9_0,AV.ls b9_1,AV.ls b9_2,iv b9_3,sv b9_4,sv b9_5,AV.ls b9_6] true false)]))):=by kernel_rfl

theorem e231(A:Ar)(D:Orc)(x0_0:List (List AV))(x0_1:Int)(x0_2:List (List AV))(x0_3:Bool)(x1_0:List (List AV))(x1_1:List (List AV))(x1_2:Int)(x1_3:List (List AV))(x1_4:Bool)(x1_5:List (List AV))(x1_6:Bool)(x1_7:List (List AV))(x1_8:List (List AV))(x1_9:List (List AV))(x2:Int):fnK A D ownC hn231 .n 231 mf231 [AV.agg [AV.ls x0_0,iv x0_1,AV.ls x0_2,bv x0_3],AV.agg [AV.ls x1_0,AV.ls x1_1,iv x1_2,AV.ls x1_3,bv x1_4,AV.ls x1_5,bv x1_6,AV.ls x1_7,AV.ls x1_8,AV.ls x1_9],iv x2] [] =
 askK D (Key.fn 253) [AV.agg [AV.ls x0_0,iv x0_1,AV.ls x0_2,bv x0_3],AV.agg [AV.ls x1_0,AV.ls x1_1,iv x1_2,AV.ls x1_3,bv x1_4,AV.ls x1_5,bv x1_6,AV.ls x1_7,AV.ls x1_8,AV.ls x1_9],iv x2] [] fun r o=>
 unTup r fun cs=>
 unCons cs fun c l=>
 unAgg c fun cs1=>
 cLs cs1 fun xs l1=>
 cInt IntKind.i64 l1 fun n l2=>
 cLs l2 fun xs1 l3=>
 cBool l3 fun b l4=>
 unNil l4<|
 unCons l fun c1 l5=>
 unAgg c1 fun cs2=>
 cInt IntKind.i64 cs2 fun n1 l6=>
 cLs l6 fun xs2 l7=>
 cLs l7 fun xs3 l8=>
 cInt IntKind.i64 l8 fun n2 l9=>
 cStr l9 fun s l10=>
 cStr l10 fun s1 l11=>
 cLs l11 fun xs4 l12=>
 unNil l12<|
 cInt IntKind.i64 l5 fun n3 l13=>
 unNil l13<|
 unEnd o<|
 askK D (Key.fn 99) [AV.agg [AV.ls xs,iv n,AV.ls xs1,bv b],sv (bstr [85])] [] fun r1 o1=>
 unBool r1 fun b1=>
 unEnd o1<|
 br b1
 (askK D (Key.fn 99) [AV.agg [AV.ls xs,iv n,AV.ls xs1,bv b],sv (bstr [82])] [] fun r2 o2=>
 unBool r2 fun b2=>
 unEnd o2<|
 br b2
 (br (A.eq n3 0)
 (br (A.eq 12 0)
 (some ((AV.tup [AV.agg [AV.ls xs,iv n,AV.ls xs1,bv b],AV.agg [iv n1,AV.ls xs2,AV.ls xs3,iv n2,sv s,sv s1,AV.ls xs4],iv n3],[])))
 (askK D (Key.fn 100) [AV.agg [AV.ls xs,iv n,AV.ls xs1,bv b]] [] fun r3 o3=>
 unAgg r3 fun cs3=>
 cLs cs3 fun xs5 l14=>
 cInt IntKind.i64 l14 fun n4 l15=>
 cLs l15 fun xs6 l16=>
 cBool l16 fun b3 l17=>
 unNil l17<|
 unEnd o3<|
 askK D (Key.fn 231) [AV.agg [AV.ls xs5,iv n4,AV.ls xs6,bv b3],AV.agg [AV.ls x1_0,AV.ls x1_1,iv x1_2,AV.ls x1_3,bv x1_4,AV.ls x1_5,bv x1_6,AV.ls x1_7,AV.ls x1_8,AV.ls x1_9],iv x2] [] fun r4 o4=>
 unTup r4 fun cs4=>
 unCons cs4 fun c2 l18=>
 unAgg c2 fun cs5=>
 cLs cs5 fun xs7 l19=>
 cInt IntKind.i64 l19 fun n5 l20=>
 cLs l20 fun xs8 l21=>
 cBool l21 fun b4 l22=>
 unNil l22<|
 unCons l18 fun c3 l23=>
 unAgg c3 fun cs6=>
 cInt IntKind.i64 cs6 fun n6 l24=>
 cLs l24 fun xs9 l25=>
 cLs l25 fun xs10 l26=>
 cInt IntKind.i64 l26 fun n7 l27=>
 cStr l27 fun s2 l28=>
 cStr l28 fun s3 l29=>
 cLs l29 fun xs11 l30=>
 unNil l30<|
 cInt IntKind.i64 l23 fun n8 l31=>
 unNil l31<|
 unEnd o4<|
 askK D (Key.fn 128) [iv 12,AV.agg [iv n1,AV.ls xs2,AV.ls xs3,iv n2,sv s,sv s1,AV.ls xs4],AV.agg [iv n6,AV.ls xs9,AV.ls xs10,iv n7,sv s2,sv s3,AV.ls xs11]] [] fun r5 o5=>
 unAgg r5 fun cs7=>
 cInt IntKind.i64 cs7 fun n9 l32=>
 cLs l32 fun xs12 l33=>
 cLs l33 fun xs13 l34=>
 cInt IntKind.i64 l34 fun n10 l35=>
 cStr l35 fun s4 l36=>
 cStr l36 fun s5 l37=>
 cLs l37 fun xs14 l38=>
 unNil l38<|
 unEnd o5<|
 some ((AV.tup [AV.agg [AV.ls xs7,iv n5,AV.ls xs8,bv b4],AV.agg [iv n9,AV.ls xs12,AV.ls xs13,iv n10,sv s4,sv s5,AV.ls xs14],iv n8],[]))))
 (some ((AV.tup [AV.agg [AV.ls xs,iv n,AV.ls xs1,bv b],AV.agg [iv n1,AV.ls xs2,AV.ls xs3,iv n2,sv s,sv s1,AV.ls xs4],iv n3],[]))))
 (br (A.eq n3 0)
 (br (A.eq 11 0)
 (some ((AV.tup [AV.agg [AV.ls xs,iv n,AV.ls xs1,bv b],AV.agg [iv n1,AV.ls xs2,AV.ls xs3,iv n2,sv s,sv s1,AV.ls xs4],iv n3],[])))
 (askK D (Key.fn 100) [AV.agg [AV.ls xs,iv n,AV.ls xs1,bv b]] [] fun r3 o3=>
 unAgg r3 fun cs3=>
 cLs cs3 fun xs5 l14=>
 cInt IntKind.i64 l14 fun n4 l15=>
 cLs l15 fun xs6 l16=>
 cBool l16 fun b3 l17=>
 unNil l17<|
 unEnd o3<|
 askK D (Key.fn 231) [AV.agg [AV.ls xs5,iv n4,AV.ls xs6,bv b3],AV.agg [AV.ls x1_0,AV.ls x1_1,iv x1_2,AV.ls x1_3,bv x1_4,AV.ls x1_5,bv x1_6,AV.ls x1_7,AV.ls x1_8,AV.ls x1_9],iv x2] [] fun r4 o4=>
 unTup r4 fun cs4=>
 unCons cs4 fun c2 l18=>
 unAgg c2 fun cs5=>
 cLs cs5 fun xs7 l19=>
 cInt IntKind.i64 l19 fun n5 l20=>
 cLs l20 fun xs8 l21=>
 cBool l21 fun b4 l22=>
 unNil l22<|
 unCons l18 fun c3 l23=>
 unAgg c3 fun cs6=>
 cInt IntKind.i64 cs6 fun n6 l24=>
 cLs l24 fun xs9 l25=>
 cLs l25 fun xs10 l26=>
 cInt IntKind.i64 l26 fun n7 l27=>
 cStr l27 fun s2 l28=>
 cStr l28 fun s3 l29=>
 cLs l29 fun xs11 l30=>
 unNil l30<|
 cInt IntKind.i64 l23 fun n8 l31=>
 unNil l31<|
 unEnd o4<|
 askK D (Key.fn 128) [iv 11,AV.agg [iv n1,AV.ls xs2,AV.ls xs3,iv n2,sv s,sv s1,AV.ls xs4],AV.agg [iv n6,AV.ls xs9,AV.ls xs10,iv n7,sv s2,sv s3,AV.ls xs11]] [] fun r5 o5=>
 unAgg r5 fun cs7=>
 cInt IntKind.i64 cs7 fun n9 l32=>
 cLs l32 fun xs12 l33=>
 cLs l33 fun xs13 l34=>
 cInt IntKind.i64 l34 fun n10 l35=>
 cStr l35 fun s4 l36=>
 cStr l36 fun s5 l37=>
 cLs l37 fun xs14 l38=>
 unNil l38<|
 unEnd o5<|
 some ((AV.tup [AV.agg [AV.ls xs7,iv n5,AV.ls xs8,bv b4],AV.agg [iv n9,AV.ls xs12,AV.ls xs13,iv n10,sv s4,sv s5,AV.ls xs14],iv n8],[]))))
 (some ((AV.tup [AV.agg [AV.ls xs,iv n,AV.ls xs1,bv b],AV.agg [iv n1,AV.ls xs2,AV.ls xs3,iv n2,sv s,sv s1,AV.ls xs4],iv n3],[])))))
 (askK D (Key.fn 99) [AV.agg [AV.ls xs,iv n,AV.ls xs1,bv b],sv (bstr [82])] [] fun r2 o2=>
 unBool r2 fun b2=>
 unEnd o2<|
 br b2
 (br (A.eq n3 0)
 (br (A.eq 12 0)
 (some ((AV.tup [AV.agg [AV.ls xs,iv n,AV.ls xs1,bv b],AV.agg [iv n1,AV.ls xs2,AV.ls xs3,iv n2,sv s,sv s1,AV.ls xs4],iv n3],[])))
 (askK D (Key.fn 100) [AV.agg [AV.ls xs,iv n,AV.ls xs1,bv b]] [] fun r3 o3=>
 unAgg r3 fun cs3=>
 cLs cs3 fun xs5 l14=>
 cInt IntKind.i64 l14 fun n4 l15=>
 cLs l15 fun xs6 l16=>
 cBool l16 fun b3 l17=>
 unNil l17<|
 unEnd o3<|
 askK D (Key.fn 231) [AV.agg [AV.ls xs5,iv n4,AV.ls xs6,bv b3],AV.agg [AV.ls x1_0,AV.ls x1_1,iv x1_2,AV.ls x1_3,bv x1_4,AV.ls x1_5,bv x1_6,AV.ls x1_7,AV.ls x1_8,AV.ls x1_9],iv x2] [] fun r4 o4=>
 unTup r4 fun cs4=>
 unCons cs4 fun c2 l18=>
 unAgg c2 fun cs5=>
 cLs cs5 fun xs7 l19=>
 cInt IntKind.i64 l19 fun n5 l20=>
 cLs l20 fun xs8 l21=>
 cBool l21 fun b4 l22=>
 unNil l22<|
 unCons l18 fun c3 l23=>
 unAgg c3 fun cs6=>
 cInt IntKind.i64 cs6 fun n6 l24=>
 cLs l24 fun xs9 l25=>
 cLs l25 fun xs10 l26=>
 cInt IntKind.i64 l26 fun n7 l27=>
 cStr l27 fun s2 l28=>
 cStr l28 fun s3 l29=>
 cLs l29 fun xs11 l30=>
 unNil l30<|
 cInt IntKind.i64 l23 fun n8 l31=>
 unNil l31<|
 unEnd o4<|
 askK D (Key.fn 128) [iv 12,AV.agg [iv n1,AV.ls xs2,AV.ls xs3,iv n2,sv s,sv s1,AV.ls xs4],AV.agg [iv n6,AV.ls xs9,AV.ls xs10,iv n7,sv s2,sv s3,AV.ls xs11]] [] fun r5 o5=>
 unAgg r5 fun cs7=>
 cInt IntKind.i64 cs7 fun n9 l32=>
 cLs l32 fun xs12 l33=>
 cLs l33 fun xs13 l34=>
 cInt IntKind.i64 l34 fun n10 l35=>
 cStr l35 fun s4 l36=>
 cStr l36 fun s5 l37=>
 cLs l37 fun xs14 l38=>
 unNil l38<|
 unEnd o5<|
 some ((AV.tup [AV.agg [AV.ls xs7,iv n5,AV.ls xs8,bv b4],AV.agg [iv n9,AV.ls xs12,AV.ls xs13,iv n10,sv s4,sv s5,AV.ls xs14],iv n8],[]))))
 (some ((AV.tup [AV.agg [AV.ls xs,iv n,AV.ls xs1,bv b],AV.agg [iv n1,AV.ls xs2,AV.ls xs3,iv n2,sv s,sv s1,AV.ls xs4],iv n3],[]))))
 (br (A.eq n3 0)
 (br (A.eq 0 0)
 (some ((AV.tup [AV.agg [AV.ls xs,iv n,AV.ls xs1,bv b],AV.agg [iv n1,AV.ls xs2,AV.ls xs3,iv n2,sv s,sv s1,AV.ls xs4],iv n3],[])))
 (askK D (Key.fn 100) [AV.agg [AV.ls xs,iv n,AV.ls xs1,bv b]] [] fun r3 o3=>
 unAgg r3 fun cs3=>
 cLs cs3 fun xs5 l14=>
 cInt IntKind.i64 l14 fun n4 l15=>
 cLs l15 fun xs6 l16=>
 cBool l16 fun b3 l17=>
 unNil l17<|
 unEnd o3<|
 askK D (Key.fn 231) [AV.agg [AV.ls xs5,iv n4,AV.ls xs6,bv b3],AV.agg [AV.ls x1_0,AV.ls x1_1,iv x1_2,AV.ls x1_3,bv x1_4,AV.ls x1_5,bv x1_6,AV.ls x1_7,AV.ls x1_8,AV.ls x1_9],iv x2] [] fun r4 o4=>
 unTup r4 fun cs4=>
 unCons cs4 fun c2 l18=>
 unAgg c2 fun cs5=>
 cLs cs5 fun xs7 l19=>
 cInt IntKind.i64 l19 fun n5 l20=>
 cLs l20 fun xs8 l21=>
 cBool l21 fun b4 l22=>
 unNil l22<|
 unCons l18 fun c3 l23=>
 unAgg c3 fun cs6=>
 cInt IntKind.i64 cs6 fun n6 l24=>
 cLs l24 fun xs9 l25=>
 cLs l25 fun xs10 l26=>
 cInt IntKind.i64 l26 fun n7 l27=>
 cStr l27 fun s2 l28=>
 cStr l28 fun s3 l29=>
 cLs l29 fun xs11 l30=>
 unNil l30<|
 cInt IntKind.i64 l23 fun n8 l31=>
 unNil l31<|
 unEnd o4<|
 askK D (Key.fn 128) [iv 0,AV.agg [iv n1,AV.ls xs2,AV.ls xs3,iv n2,sv s,sv s1,AV.ls xs4],AV.agg [iv n6,AV.ls xs9,AV.ls xs10,iv n7,sv s2,sv s3,AV.ls xs11]] [] fun r5 o5=>
 unAgg r5 fun cs7=>
 cInt IntKind.i64 cs7 fun n9 l32=>
 cLs l32 fun xs12 l33=>
 cLs l33 fun xs13 l34=>
 cInt IntKind.i64 l34 fun n10 l35=>
 cStr l35 fun s4 l36=>
 cStr l36 fun s5 l37=>
 cLs l37 fun xs14 l38=>
 unNil l38<|
 unEnd o5<|
 some ((AV.tup [AV.agg [AV.ls xs7,iv n5,AV.ls xs8,bv b4],AV.agg [iv n9,AV.ls xs12,AV.ls xs13,iv n10,sv s4,sv s5,AV.ls xs14],iv n8],[]))))
 (some ((AV.tup [AV.agg [AV.ls xs,iv n,AV.ls xs1,bv b],AV.agg [iv n1,AV.ls xs2,AV.ls xs3,iv n2,sv s,sv s1,AV.ls xs4],iv n3],[]))))):=by kernel_rfl

theorem e253(A:Ar)(D:Orc)(x0_0:List (List AV))(x0_1:Int)(x0_2:List (List AV))(x0_3:Bool)(x1_0:List (List AV))(x1_1:List (List AV))(x1_2:Int)(x1_3:List (List AV))(x1_4:Bool)(x1_5:List (List AV))(x1_6:Bool)(x1_7:List (List AV))(x1_8:List (List AV))(x1_9:List (List AV))(x2:Int):fnK A D ownC hn253 (.b (.b .n (.b .n (.b (.b (.b (.b (.b .n (.b (.b .n (.b .n (.t .n))) .n)) .n) .n) .n) .n))) (.b (.b (.b (.b .n (.b (.b (.b (.b .n (.b (.b .n (.b .n (.f (.b .n (.b (.b (.b (.b (.b (.b (.b (.b .n (.b (.b .n (.b .n (.t .n))) .n)) .n) .n) .n) .n) (.b .n (.b .n (.b .n (.b .n (.b .n (.b .n (.f .n)))))))) .n) .n))))) .n)) .n) .n) .n)) (.b .n (.b .n (.b .n (.b .n (.b .n (.b .n (.b .n (.f (.b .n (.b (.b (.b (.b (.b (.b (.b (.b .n (.b (.b .n (.b .n (.t .n))) .n)) .n) .n) .n) .n) (.b .n (.b .n (.b .n (.b .n (.b .n (.b .n (.f .n)))))))) .n) .n))))))))))) .n) .n)) 253 mf253 [AV.agg [AV.ls x0_0,iv x0_1,AV.ls x0_2,bv x0_3],AV.agg [AV.ls x1_0,AV.ls x1_1,iv x1_2,AV.ls x1_3,bv x1_4,AV.ls x1_5,bv x1_6,AV.ls x1_7,AV.ls x1_8,AV.ls x1_9],iv x2] [] =
 askK D (Key.fn 268) [AV.agg [AV.ls x0_0,iv x0_1,AV.ls x0_2,bv x0_3]] [] fun r o=>
 unInt IntKind.i64 r fun n=>
 unEnd o<|
 br (A.le 0 n)
 (br (A.eq x2 60)
 (some ((AV.tup [AV.agg [AV.ls x0_0,iv x0_1,AV.ls x0_2,bv x0_3],AV.agg [iv 0,AV.ls [],AV.ls [],iv 0,sv (bstr []),sv (bstr []),AV.ls []],iv 102],[])))
 (br (A.le 0 n) (askK D (Key.fn 100) [AV.agg [AV.ls x0_0,iv x0_1,AV.ls x0_2,bv x0_3]] [] fun r1 o1=>
 unAgg r1 fun cs=>
 cLs cs fun xs l=>
 cInt IntKind.i64 l fun n1 l1=>
 cLs l1 fun xs1 l2=>
 cBool l2 fun b l3=>
 unNil l3<|
 unEnd o1<|
 askK D (Key.fn 253) [AV.agg [AV.ls xs,iv n1,AV.ls xs1,bv b],AV.agg [AV.ls x1_0,AV.ls x1_1,iv x1_2,AV.ls x1_3,bv x1_4,AV.ls x1_5,bv x1_6,AV.ls x1_7,AV.ls x1_8,AV.ls x1_9],iv (A.add IntKind.i64 x2 1)] [] fun r2 o2=>
 unTup r2 fun cs1=>
 unCons cs1 fun c l4=>
 unAgg c fun cs2=>
 cLs cs2 fun xs2 l5=>
 cInt IntKind.i64 l5 fun n2 l6=>
 cLs l6 fun xs3 l7=>
 cBool l7 fun b1 l8=>
 unNil l8<|
 unCons l4 fun c1 l9=>
 unAgg c1 fun cs3=>
 cInt IntKind.i64 cs3 fun n3 l10=>
 cLs l10 fun xs4 l11=>
 cLs l11 fun xs5 l12=>
 cInt IntKind.i64 l12 fun n4 l13=>
 cStr l13 fun s l14=>
 cStr l14 fun s1 l15=>
 cLs l15 fun xs6 l16=>
 unNil l16<|
 cInt IntKind.i64 l9 fun n5 l17=>
 unNil l17<|
 unEnd o2<|
 some ((AV.tup [AV.agg [AV.ls xs2,iv n2,AV.ls xs3,bv b1],AV.agg [iv n,AV.ls [],AV.ls [],iv 0,sv (bstr []),sv (bstr []),AV.ls [[iv n3,AV.ls xs4,AV.ls xs5,iv n4,sv s,sv s1,AV.ls xs6]]],iv n5],[]))) none))
 (askK D (Key.fn 99) [AV.agg [AV.ls x0_0,iv x0_1,AV.ls x0_2,bv x0_3],sv (bstr [40])] [] fun r1 o1=>
 unBool r1 fun b=>
 unEnd o1<|
 br b
 (br (A.eq x2 60)
 (some ((AV.tup [AV.agg [AV.ls x0_0,iv x0_1,AV.ls x0_2,bv x0_3],AV.agg [iv 0,AV.ls [],AV.ls [],iv 0,sv (bstr []),sv (bstr []),AV.ls []],iv 102],[])))
 (br (A.le 0 n) none (askK D (Key.fn 99) [AV.agg [AV.ls x0_0,iv x0_1,AV.ls x0_2,bv x0_3],sv (bstr [40])] [] fun r2 o2=>
 unBool r2 fun b1=>
 unEnd o2<|
 br b1
 (askK D (Key.fn 100) [AV.agg [AV.ls x0_0,iv x0_1,AV.ls x0_2,bv x0_3]] [] fun r3 o3=>
 unAgg r3 fun cs=>
 cLs cs fun xs l=>
 cInt IntKind.i64 l fun n1 l1=>
 cLs l1 fun xs1 l2=>
 cBool l2 fun b2 l3=>
 unNil l3<|
 unEnd o3<|
 askK D (Key.fn 71) [AV.agg [AV.ls xs,iv n1,AV.ls xs1,bv b2],AV.agg [AV.ls x1_0,AV.ls x1_1,iv x1_2,AV.ls x1_3,bv x1_4,AV.ls x1_5,bv x1_6,AV.ls x1_7,AV.ls x1_8,AV.ls x1_9],iv (A.add IntKind.i64 x2 1)] [] fun r4 o4=>
 unTup r4 fun cs1=>
 unCons cs1 fun c l4=>
 unAgg c fun cs2=>
 cLs cs2 fun xs2 l5=>
 cInt IntKind.i64 l5 fun n2 l6=>
 cLs l6 fun xs3 l7=>
 cBool l7 fun b3 l8=>
 unNil l8<|
 unCons l4 fun c1 l9=>
 unAgg c1 fun cs3=>
 cInt IntKind.i64 cs3 fun n3 l10=>
 cLs l10 fun xs4 l11=>
 cLs l11 fun xs5 l12=>
 cInt IntKind.i64 l12 fun n4 l13=>
 cStr l13 fun s l14=>
 cStr l14 fun s1 l15=>
 cLs l15 fun xs6 l16=>
 unNil l16<|
 cInt IntKind.i64 l9 fun n5 l17=>
 unNil l17<|
 unEnd o4<|
 br (A.eq n5 0)
 (askK D (Key.fn 99) [AV.agg [AV.ls xs2,iv n2,AV.ls xs3,bv b3],sv (bstr [41])] [] fun r5 o5=>
 unBool r5 fun b4=>
 unEnd o5<|
 br b4
 (br (A.eq n5 0) (askK D (Key.fn 100) [AV.agg [AV.ls xs2,iv n2,AV.ls xs3,bv b3]] [] fun r6 o6=>
 unAgg r6 fun cs4=>
 cLs cs4 fun xs7 l18=>
 cInt IntKind.i64 l18 fun n6 l19=>
 cLs l19 fun xs8 l20=>
 cBool l20 fun b5 l21=>
 unNil l21<|
 unEnd o6<|
 some ((AV.tup [AV.agg [AV.ls xs7,iv n6,AV.ls xs8,bv b5],AV.agg [iv n3,AV.ls xs4,AV.ls xs5,iv n4,sv s,sv s1,AV.ls xs6],iv 0],[]))) none)
 (br (A.eq 101 0)
 (askK D (Key.fn 100) [AV.agg [AV.ls xs2,iv n2,AV.ls xs3,bv b3]] [] fun r6 o6=>
 unAgg r6 fun cs4=>
 cLs cs4 fun xs7 l18=>
 cInt IntKind.i64 l18 fun n6 l19=>
 cLs l19 fun xs8 l20=>
 cBool l20 fun b5 l21=>
 unNil l21<|
 unEnd o6<|
 some ((AV.tup [AV.agg [AV.ls xs7,iv n6,AV.ls xs8,bv b5],AV.agg [iv n3,AV.ls xs4,AV.ls xs5,iv n4,sv s,sv s1,AV.ls xs6],iv 0],[])))
 (some ((AV.tup [AV.agg [AV.ls xs2,iv n2,AV.ls xs3,bv b3],AV.agg [iv n3,AV.ls xs4,AV.ls xs5,iv n4,sv s,sv s1,AV.ls xs6],iv 101],[])))))
 (br (A.eq n5 0) none (some ((AV.tup [AV.agg [AV.ls xs2,iv n2,AV.ls xs3,bv b3],AV.agg [iv n3,AV.ls xs4,AV.ls xs5,iv n4,sv s,sv s1,AV.ls xs6],iv n5],[])))))
 (askK D (Key.fn 99) [AV.agg [AV.ls x0_0,iv x0_1,AV.ls x0_2,bv x0_3],sv (bstr [64])] [] fun r3 o3=>
 unBool r3 fun b2=>
 unEnd o3<|
 br b2
 (askK D (Key.fn 100) [AV.agg [AV.ls x0_0,iv x0_1,AV.ls x0_2,bv x0_3]] [] fun r4 o4=>
 unAgg r4 fun cs=>
 cLs cs fun xs l=>
 cInt IntKind.i64 l fun n1 l1=>
 cLs l1 fun xs1 l2=>
 cBool l2 fun b3 l3=>
 unNil l3<|
 unEnd o4<|
 askK D (Key.fn 269) [AV.agg [AV.ls xs,iv n1,AV.ls xs1,bv b3],AV.agg [AV.ls x1_0,AV.ls x1_1,iv x1_2,AV.ls x1_3,bv x1_4,AV.ls x1_5,bv x1_6,AV.ls x1_7,AV.ls x1_8,AV.ls x1_9]] [] fun r5 o5=>
 unTup r5 fun cs1=>
 unCons cs1 fun c l4=>
 unAgg c fun cs2=>
 cLs cs2 fun xs2 l5=>
 cInt IntKind.i64 l5 fun n2 l6=>
 cLs l6 fun xs3 l7=>
 cBool l7 fun b4 l8=>
 unNil l8<|
 unCons l4 fun c1 l9=>
 unAgg c1 fun cs3=>
 cInt IntKind.i64 cs3 fun n3 l10=>
 cLs l10 fun xs4 l11=>
 cLs l11 fun xs5 l12=>
 cInt IntKind.i64 l12 fun n4 l13=>
 cStr l13 fun s l14=>
 cStr l14 fun s1 l15=>
 cLs l15 fun xs6 l16=>
 unNil l16<|
 cInt IntKind.i64 l9 fun n5 l17=>
 unNil l17<|
 unEnd o5<|
 some ((AV.tup [AV.agg [AV.ls xs2,iv n2,AV.ls xs3,bv b4],AV.agg [iv n3,AV.ls xs4,AV.ls xs5,iv n4,sv s,sv s1,AV.ls xs6],iv n5],[])))
 (askK D (Key.fn 99) [AV.agg [AV.ls x0_0,iv x0_1,AV.ls x0_2,bv x0_3],sv (bstr [116,114,117,101])] [] fun r4 o4=>
 unBool r4 fun b3=>
 unEnd o4<|
 br b3
 (askK D (Key.fn 100) [AV.agg [AV.ls x0_0,iv x0_1,AV.ls x0_2,bv x0_3]] [] fun r5 o5=>
 unAgg r5 fun cs=>
 cLs cs fun xs l=>
 cInt IntKind.i64 l fun n1 l1=>
 cLs l1 fun xs1 l2=>
 cBool l2 fun b4 l3=>
 unNil l3<|
 unEnd o5<|
 some ((AV.tup [AV.agg [AV.ls xs,iv n1,AV.ls xs1,bv b4],AV.agg [iv 0,AV.ls [],AV.ls [],iv 0,sv (bstr []),sv (bstr []),AV.ls []],iv 0],[])))
 (askK D (Key.fn 99) [AV.agg [AV.ls x0_0,iv x0_1,AV.ls x0_2,bv x0_3],sv (bstr [102,97,108,115,101])] [] fun r5 o5=>
 unBool r5 fun b4=>
 unEnd o5<|
 br b4
 (askK D (Key.fn 100) [AV.agg [AV.ls x0_0,iv x0_1,AV.ls x0_2,bv x0_3]] [] fun r6 o6=>
 unAgg r6 fun cs=>
 cLs cs fun xs l=>
 cInt IntKind.i64 l fun n1 l1=>
 cLs l1 fun xs1 l2=>
 cBool l2 fun b5 l3=>
 unNil l3<|
 unEnd o6<|
 some ((AV.tup [AV.agg [AV.ls xs,iv n1,AV.ls xs1,bv b5],AV.agg [iv 1,AV.ls [],AV.ls [],iv 0,sv (bstr []),sv (bstr []),AV.ls []],iv 0],[])))
 (askK D (Key.fn 221) [AV.agg [AV.ls x0_0,iv x0_1,AV.ls x0_2,bv x0_3]] [] fun r6 o6=>
 unTup r6 fun cs=>
 unCons cs fun c l=>
 unAgg c fun cs1=>
 cLs cs1 fun xs l1=>
 cInt IntKind.i64 l1 fun n1 l2=>
 cLs l2 fun xs1 l3=>
 cBool l3 fun b5 l4=>
 unNil l4<|
 unCons l fun c1 l5=>
 unAgg c1 fun cs2=>
 cInt IntKind.i64 cs2 fun n2 l6=>
 cLs l6 fun xs2 l7=>
 cLs l7 fun xs3 l8=>
 cInt IntKind.i64 l8 fun n3 l9=>
 cStr l9 fun s l10=>
 cStr l10 fun s1 l11=>
 cLs l11 fun xs4 l12=>
 unNil l12<|
 cInt IntKind.i64 l5 fun n4 l13=>
 unNil l13<|
 unEnd o6<|
 some ((AV.tup [AV.agg [AV.ls xs,iv n1,AV.ls xs1,bv b5],AV.agg [iv n2,AV.ls xs2,AV.ls xs3,iv n3,sv s,sv s1,AV.ls xs4],iv n4],[])))))))))
 (br (A.le 0 n) none (askK D (Key.fn 99) [AV.agg [AV.ls x0_0,iv x0_1,AV.ls x0_2,bv x0_3],sv (bstr [40])] [] fun r2 o2=>
 unBool r2 fun b1=>
 unEnd o2<|
 br b1
 (askK D (Key.fn 100) [AV.agg [AV.ls x0_0,iv x0_1,AV.ls x0_2,bv x0_3]] [] fun r3 o3=>
 unAgg r3 fun cs=>
 cLs cs fun xs l=>
 cInt IntKind.i64 l fun n1 l1=>
 cLs l1 fun xs1 l2=>
 cBool l2 fun b2 l3=>
 unNil l3<|
 unEnd o3<|
 askK D (Key.fn 71) [AV.agg [AV.ls xs,iv n1,AV.ls xs1,bv b2],AV.agg [AV.ls x1_0,AV.ls x1_1,iv x1_2,AV.ls x1_3,bv x1_4,AV.ls x1_5,bv x1_6,AV.ls x1_7,AV.ls x1_8,AV.ls x1_9],iv (A.add IntKind.i64 x2 1)] [] fun r4 o4=>
 unTup r4 fun cs1=>
 unCons cs1 fun c l4=>
 unAgg c fun cs2=>
 cLs cs2 fun xs2 l5=>
 cInt IntKind.i64 l5 fun n2 l6=>
 cLs l6 fun xs3 l7=>
 cBool l7 fun b3 l8=>
 unNil l8<|
 unCons l4 fun c1 l9=>
 unAgg c1 fun cs3=>
 cInt IntKind.i64 cs3 fun n3 l10=>
 cLs l10 fun xs4 l11=>
 cLs l11 fun xs5 l12=>
 cInt IntKind.i64 l12 fun n4 l13=>
 cStr l13 fun s l14=>
 cStr l14 fun s1 l15=>
 cLs l15 fun xs6 l16=>
 unNil l16<|
 cInt IntKind.i64 l9 fun n5 l17=>
 unNil l17<|
 unEnd o4<|
 br (A.eq n5 0)
 (askK D (Key.fn 99) [AV.agg [AV.ls xs2,iv n2,AV.ls xs3,bv b3],sv (bstr [41])] [] fun r5 o5=>
 unBool r5 fun b4=>
 unEnd o5<|
 br b4
 (br (A.eq n5 0) (askK D (Key.fn 100) [AV.agg [AV.ls xs2,iv n2,AV.ls xs3,bv b3]] [] fun r6 o6=>
 unAgg r6 fun cs4=>
 cLs cs4 fun xs7 l18=>
 cInt IntKind.i64 l18 fun n6 l19=>
 cLs l19 fun xs8 l20=>
 cBool l20 fun b5 l21=>
 unNil l21<|
 unEnd o6<|
 some ((AV.tup [AV.agg [AV.ls xs7,iv n6,AV.ls xs8,bv b5],AV.agg [iv n3,AV.ls xs4,AV.ls xs5,iv n4,sv s,sv s1,AV.ls xs6],iv 0],[]))) none)
 (br (A.eq 101 0)
 (askK D (Key.fn 100) [AV.agg [AV.ls xs2,iv n2,AV.ls xs3,bv b3]] [] fun r6 o6=>
 unAgg r6 fun cs4=>
 cLs cs4 fun xs7 l18=>
 cInt IntKind.i64 l18 fun n6 l19=>
 cLs l19 fun xs8 l20=>
 cBool l20 fun b5 l21=>
 unNil l21<|
 unEnd o6<|
 some ((AV.tup [AV.agg [AV.ls xs7,iv n6,AV.ls xs8,bv b5],AV.agg [iv n3,AV.ls xs4,AV.ls xs5,iv n4,sv s,sv s1,AV.ls xs6],iv 0],[])))
 (some ((AV.tup [AV.agg [AV.ls xs2,iv n2,AV.ls xs3,bv b3],AV.agg [iv n3,AV.ls xs4,AV.ls xs5,iv n4,sv s,sv s1,AV.ls xs6],iv 101],[])))))
 (br (A.eq n5 0) none (some ((AV.tup [AV.agg [AV.ls xs2,iv n2,AV.ls xs3,bv b3],AV.agg [iv n3,AV.ls xs4,AV.ls xs5,iv n4,sv s,sv s1,AV.ls xs6],iv n5],[])))))
 (askK D (Key.fn 99) [AV.agg [AV.ls x0_0,iv x0_1,AV.ls x0_2,bv x0_3],sv (bstr [64])] [] fun r3 o3=>
 unBool r3 fun b2=>
 unEnd o3<|
 br b2
 (askK D (Key.fn 100) [AV.agg [AV.ls x0_0,iv x0_1,AV.ls x0_2,bv x0_3]] [] fun r4 o4=>
 unAgg r4 fun cs=>
 cLs cs fun xs l=>
 cInt IntKind.i64 l fun n1 l1=>
 cLs l1 fun xs1 l2=>
 cBool l2 fun b3 l3=>
 unNil l3<|
 unEnd o4<|
 askK D (Key.fn 269) [AV.agg [AV.ls xs,iv n1,AV.ls xs1,bv b3],AV.agg [AV.ls x1_0,AV.ls x1_1,iv x1_2,AV.ls x1_3,bv x1_4,AV.ls x1_5,bv x1_6,AV.ls x1_7,AV.ls x1_8,AV.ls x1_9]] [] fun r5 o5=>
 unTup r5 fun cs1=>
 unCons cs1 fun c l4=>
 unAgg c fun cs2=>
 cLs cs2 fun xs2 l5=>
 cInt IntKind.i64 l5 fun n2 l6=>
 cLs l6 fun xs3 l7=>
 cBool l7 fun b4 l8=>
 unNil l8<|
 unCons l4 fun c1 l9=>
 unAgg c1 fun cs3=>
 cInt IntKind.i64 cs3 fun n3 l10=>
 cLs l10 fun xs4 l11=>
 cLs l11 fun xs5 l12=>
 cInt IntKind.i64 l12 fun n4 l13=>
 cStr l13 fun s l14=>
 cStr l14 fun s1 l15=>
 cLs l15 fun xs6 l16=>
 unNil l16<|
 cInt IntKind.i64 l9 fun n5 l17=>
 unNil l17<|
 unEnd o5<|
 some ((AV.tup [AV.agg [AV.ls xs2,iv n2,AV.ls xs3,bv b4],AV.agg [iv n3,AV.ls xs4,AV.ls xs5,iv n4,sv s,sv s1,AV.ls xs6],iv n5],[])))
 (askK D (Key.fn 99) [AV.agg [AV.ls x0_0,iv x0_1,AV.ls x0_2,bv x0_3],sv (bstr [116,114,117,101])] [] fun r4 o4=>
 unBool r4 fun b3=>
 unEnd o4<|
 br b3
 (askK D (Key.fn 100) [AV.agg [AV.ls x0_0,iv x0_1,AV.ls x0_2,bv x0_3]] [] fun r5 o5=>
 unAgg r5 fun cs=>
 cLs cs fun xs l=>
 cInt IntKind.i64 l fun n1 l1=>
 cLs l1 fun xs1 l2=>
 cBool l2 fun b4 l3=>
 unNil l3<|
 unEnd o5<|
 some ((AV.tup [AV.agg [AV.ls xs,iv n1,AV.ls xs1,bv b4],AV.agg [iv 0,AV.ls [],AV.ls [],iv 0,sv (bstr []),sv (bstr []),AV.ls []],iv 0],[])))
 (askK D (Key.fn 99) [AV.agg [AV.ls x0_0,iv x0_1,AV.ls x0_2,bv x0_3],sv (bstr [102,97,108,115,101])] [] fun r5 o5=>
 unBool r5 fun b4=>
 unEnd o5<|
 br b4
 (askK D (Key.fn 100) [AV.agg [AV.ls x0_0,iv x0_1,AV.ls x0_2,bv x0_3]] [] fun r6 o6=>
 unAgg r6 fun cs=>
 cLs cs fun xs l=>
 cInt IntKind.i64 l fun n1 l1=>
 cLs l1 fun xs1 l2=>
 cBool l2 fun b5 l3=>
 unNil l3<|
 unEnd o6<|
 some ((AV.tup [AV.agg [AV.ls xs,iv n1,AV.ls xs1,bv b5],AV.agg [iv 1,AV.ls [],AV.ls [],iv 0,sv (bstr []),sv (bstr []),AV.ls []],iv 0],[])))
 (askK D (Key.fn 221) [AV.agg [AV.ls x0_0,iv x0_1,AV.ls x0_2,bv x0_3]] [] fun r6 o6=>
 unTup r6 fun cs=>
 unCons cs fun c l=>
 unAgg c fun cs1=>
 cLs cs1 fun xs l1=>
 cInt IntKind.i64 l1 fun n1 l2=>
 cLs l2 fun xs1 l3=>
 cBool l3 fun b5 l4=>
 unNil l4<|
 unCons l fun c1 l5=>
 unAgg c1 fun cs2=>
 cInt IntKind.i64 cs2 fun n2 l6=>
 cLs l6 fun xs2 l7=>
 cLs l7 fun xs3 l8=>
 cInt IntKind.i64 l8 fun n3 l9=>
 cStr l9 fun s l10=>
 cStr l10 fun s1 l11=>
 cLs l11 fun xs4 l12=>
 unNil l12<|
 cInt IntKind.i64 l5 fun n4 l13=>
 unNil l13<|
 unEnd o6<|
 some ((AV.tup [AV.agg [AV.ls xs,iv n1,AV.ls xs1,bv b5],AV.agg [iv n2,AV.ls xs2,AV.ls xs3,iv n3,sv s,sv s1,AV.ls xs4],iv n4],[]))))))))):=by kernel_rfl

theorem e33(A:Ar)(D:Orc)(x0:ByteArray)(x1_0:List (List AV))(x1_1:List (List AV))(x1_2:Int)(x1_3:List (List AV))(x1_4:Bool)(x1_5:List (List AV))(x1_6:Bool)(x1_7:List (List AV))(x1_8:List (List AV))(x1_9:List (List AV)):fnK A D ownC hn33 .n 33 mf33 [sv x0,AV.agg [AV.ls x1_0,AV.ls x1_1,iv x1_2,AV.ls x1_3,bv x1_4,AV.ls x1_5,bv x1_6,AV.ls x1_7,AV.ls x1_8,AV.ls x1_9]] [] =
 askK D (Key.fn 50) [sv x0] [] fun r o=>
 unTup r fun cs=>
 cLs cs fun xs l=>
 unCons l fun c l1=>
 unAgg c fun cs1=>
 cInt IntKind.i64 cs1 fun n l2=>
 cInt IntKind.i64 l2 fun n1 l3=>
 unNil l3<|
 cInt IntKind.i64 l1 fun n2 l4=>
 unNil l4<|
 unEnd o<|
 br (A.eq n2 0)
 (askK D (Key.fn 71) [AV.agg [AV.ls xs,iv 0,AV.ls x1_0,bv true],AV.agg [AV.ls x1_0,AV.ls x1_1,iv x1_2,AV.ls x1_3,bv x1_4,AV.ls x1_5,bv x1_6,AV.ls x1_7,AV.ls x1_8,AV.ls x1_9],iv 0] [] fun r1 o1=>
 unTup r1 fun cs2=>
 unCons cs2 fun c1 l5=>
 unAgg c1 fun cs3=>
 cLs cs3 fun xs1 l6=>
 cInt IntKind.i64 l6 fun n3 l7=>
 cLs l7 fun xs2 l8=>
 cBool l8 fun b l9=>
 unNil l9<|
 unCons l5 fun c2 l10=>
 unAgg c2 fun cs4=>
 cInt IntKind.i64 cs4 fun n4 l11=>
 cLs l11 fun xs3 l12=>
 cLs l12 fun xs4 l13=>
 cInt IntKind.i64 l13 fun n5 l14=>
 cStr l14 fun s l15=>
 cStr l15 fun s1 l16=>
 cLs l16 fun xs5 l17=>
 unNil l17<|
 cInt IntKind.i64 l10 fun n6 l18=>
 unNil l18<|
 unEnd o1<|
 askK D (Key.fn 52) [AV.agg [AV.ls xs1,iv n3,AV.ls xs2,bv b],iv n6] [] fun r2 o2=>
 unTup r2 fun cs5=>
 unCons cs5 fun c3 l19=>
 unAgg c3 fun cs6=>
 cInt IntKind.i64 cs6 fun n7 l20=>
 cInt IntKind.i64 l20 fun n8 l21=>
 unNil l21<|
 cInt IntKind.i64 l19 fun n9 l22=>
 unNil l22<|
 unEnd o2<|
 br (A.eq n9 0)
 (some ((AV.tup [AV.agg [iv n4,AV.ls xs3,AV.ls xs4,iv n5,sv s,sv s1,AV.ls xs5],AV.agg [iv n7,iv n8],iv 0],[])))
 (some ((AV.tup [AV.agg [iv 0,AV.ls [],AV.ls [],iv 0,sv (bstr []),sv (bstr []),AV.ls []],AV.agg [iv n7,iv n8],iv n9],[]))))
 (some ((AV.tup [AV.agg [iv 0,AV.ls [],AV.ls [],iv 0,sv (bstr []),sv (bstr []),AV.ls []],AV.agg [iv n,iv n1],iv n2],[]))):=by kernel_rfl
end Go.Proofs.YtlmhajfbpplpoaaGreat
namespace Go.Proofs.YtlmhajfbpplpoaaGreat
open Go.RowKit
def hs42:Hints:=[]
noncomputable def mf42:MFn:=mfD Tryz.prog entsC hs42 false false 42
def hn42:Hnt:=⟨[],[],[]⟩
def hs30:Hints:=[]
noncomputable def mf30:MFn:=mfD Tryz.prog entsC hs30 false false 30
def hn30:Hnt:=⟨[(32,(.tup [.agg [.int .i64,.ls,.ls,.int .i64,.str,.str,.ls],.agg [.int .i64,.int .i64],.int .i64],[])),(34,(.tup [.agg [.int .i64,.int .i64,.ls],.ls,.bool],[])),(36,(.bool,[])),(38,(.str,[])),(42,(.agg [.ls,.ls,.int .i64,.ls,.bool,.ls,.bool,.ls,.ls,.ls],[]))],[],[(38,[.int .i64]),(43,[.ls]),(44,[.int .i64,.ls,.ls,.int .i64,.str,.str,.ls]),(46,[.int .i64]),(54,[.int .i64,.int .i64]),(63,[.int .i64,.ls,.ls,.int .i64,.str,.str,.ls]),(76,[.int .i64,.ls,.ls,.int .i64,.str,.str,.ls]),(80,[.int .i64,.ls,.ls,.int .i64,.str,.str,.ls]),(88,[.int .i64]),(98,[.bool,.int .i64,.int .i64,.int .i64,.ls,.bool,.ls,.bool,.ls]),(100,[.bool]),(104,[.bool,.int .i64,.int .i64,.int .i64,.ls,.bool,.ls,.bool,.ls]),(106,[.int .i64])]⟩
def hs31:Hints:=[⟨27,[false,false,false,false,false,false,false,false,false,false,false,false,false,false,false,false,true,true,true],[],[],[(0,([false,false,true],([],[]))),(1,([],([],[])))]⟩]
noncomputable def mf31:MFn:=mfD Tryz.prog entsC hs31 false false 31
def hn31:Hnt:=⟨[],[(0,[(0,([.bool],[])),(1,([],[]))])],[(6,[.ls]),(11,[.ls]),(16,[.ls]),(20,[.str,.ls,.ls]),(21,[.str,.ls,.ls]),(23,[.ls])]⟩
noncomputable def tabAv4:List (Nat × MFn):=[(42,mf42),(30,mf30),(31,mf31)]
theorem e42(A:Ar)(D:Orc):fnK A D ownC hn42 .n 42 mf42 [] [] =
 some ((AV.agg [AV.ls [[sv (bstr [120])],[sv (bstr [121])]],AV.ls [],iv 0,AV.ls [],bv false,AV.ls [],bv false,AV.ls [],AV.ls [[sv (bstr [112]),AV.ls [[sv (bstr [97])],[sv (bstr [98])]],AV.ls []]],AV.ls []],[])):=by kernel_rfl

theorem e30(A:Ar)(D:Orc):fnK A D ownC hn30 .n 30 mf30 [] [] =
 askK D (Key.fn 42) [] [] fun r o=>
 unAgg r fun cs=>
 cLs cs fun xs l=>
 cLs l fun xs1 l1=>
 cInt IntKind.i64 l1 fun n l2=>
 cLs l2 fun xs2 l3=>
 cBool l3 fun b l4=>
 cLs l4 fun xs3 l5=>
 cBool l5 fun b1 l6=>
 cLs l6 fun xs4 l7=>
 cLs l7 fun xs5 l8=>
 cLs l8 fun xs6 l9=>
 unNil l9<|
 unEnd o<|
 askK D (Key.fn 32) [sv (bstr [71,32,40,120,32,62,32,48,32,45,62,32,70,32,64,112,46,98,41]),AV.agg [AV.ls xs,AV.ls xs1,iv n,AV.ls xs2,bv b,AV.ls xs3,bv b1,AV.ls xs4,AV.ls xs5,AV.ls xs6]] [] fun r1 o1=>
 unTup r1 fun cs1=>
 unCons cs1 fun c l10=>
 unAgg c fun cs2=>
 cInt IntKind.i64 cs2 fun n1 l11=>
 cLs l11 fun xs7 l12=>
 cLs l12 fun xs8 l13=>
 cInt IntKind.i64 l13 fun n2 l14=>
 cStr l14 fun s l15=>
 cStr l15 fun s1 l16=>
 cLs l16 fun xs9 l17=>
 unNil l17<|
 unCons l10 fun c1 l18=>
 unAgg c1 fun cs3=>
 cInt IntKind.i64 cs3 fun _ l19=>
 cInt IntKind.i64 l19 fun _ l20=>
 unNil l20<|
 cInt IntKind.i64 l18 fun n5 l21=>
 unNil l21<|
 unEnd o1<|
 askK D (Key.fn 42) [] [] fun r2 o2=>
 unAgg r2 fun cs4=>
 cLs cs4 fun xs10 l22=>
 cLs l22 fun xs11 l23=>
 cInt IntKind.i64 l23 fun n6 l24=>
 cLs l24 fun xs12 l25=>
 cBool l25 fun b2 l26=>
 cLs l26 fun xs13 l27=>
 cBool l27 fun b3 l28=>
 cLs l28 fun xs14 l29=>
 cLs l29 fun xs15 l30=>
 cLs l30 fun xs16 l31=>
 unNil l31<|
 unEnd o2<|
 askK D (Key.fn 32) [sv (bstr [120,32,61,32,49,32,85]),AV.agg [AV.ls xs10,AV.ls xs11,iv n6,AV.ls xs12,bv b2,AV.ls xs13,bv b3,AV.ls xs14,AV.ls xs15,AV.ls xs16]] [] fun r3 o3=>
 unTup r3 fun cs5=>
 unCons cs5 fun c2 l32=>
 unAgg c2 fun cs6=>
 cInt IntKind.i64 cs6 fun _ l33=>
 cLs l33 fun _ l34=>
 cLs l34 fun _ l35=>
 cInt IntKind.i64 l35 fun _ l36=>
 cStr l36 fun _ l37=>
 cStr l37 fun _ l38=>
 cLs l38 fun _ l39=>
 unNil l39<|
 unCons l32 fun c3 l40=>
 unAgg c3 fun cs7=>
 cInt IntKind.i64 cs7 fun n9 l41=>
 cInt IntKind.i64 l41 fun n10 l42=>
 unNil l42<|
 cInt IntKind.i64 l40 fun n11 l43=>
 unNil l43<|
 unEnd o3<|
 askK D (Key.fn 42) [] [] fun r4 o4=>
 unAgg r4 fun cs8=>
 cLs cs8 fun xs20 l44=>
 cLs l44 fun xs21 l45=>
 cInt IntKind.i64 l45 fun n12 l46=>
 cLs l46 fun xs22 l47=>
 cBool l47 fun b4 l48=>
 cLs l48 fun xs23 l49=>
 cBool l49 fun b5 l50=>
 cLs l50 fun xs24 l51=>
 cLs l51 fun xs25 l52=>
 cLs l52 fun xs26 l53=>
 unNil l53<|
 unEnd o4<|
 askK D (Key.fn 32) [sv (bstr [64,112,46,99]),AV.agg [AV.ls xs20,AV.ls xs21,iv n12,AV.ls xs22,bv b4,AV.ls xs23,bv b5,AV.ls xs24,AV.ls xs25,AV.ls xs26]] [] fun r5 o5=>
 unTup r5 fun cs9=>
 unCons cs9 fun c4 l54=>
 unAgg c4 fun cs10=>
 cInt IntKind.i64 cs10 fun _ l55=>
 cLs l55 fun _ l56=>
 cLs l56 fun _ l57=>
 cInt IntKind.i64 l57 fun _ l58=>
 cStr l58 fun _ l59=>
 cStr l59 fun _ l60=>
 cLs l60 fun _ l61=>
 unNil l61<|
 unCons l54 fun c5 l62=>
 unAgg c5 fun cs11=>
 cInt IntKind.i64 cs11 fun _ l63=>
 cInt IntKind.i64 l63 fun _ l64=>
 unNil l64<|
 cInt IntKind.i64 l62 fun n17 l65=>
 unNil l65<|
 unEnd o5<|
 br (A.eq n5 0)
 (br (A.eq n1 9)
 (nthK xs9 0 fun cs12=>
 cInt IntKind.i64 cs12 fun n18 l66=>
 cLs l66 fun _ l67=>
 cLs l67 fun _ l68=>
 cInt IntKind.i64 l68 fun _ l69=>
 cStr l69 fun _ l70=>
 cStr l70 fun _ l71=>
 cLs l71 fun _ l72=>
 unNil l72<|
 br (A.eq n18 7)
 (br (A.eq n11 101)
 (br (A.not (A.band (A.eq n9 1) (A.band (A.eq n10 8) true)))
 (some ((bv false,[])))
 (br (A.eq n17 110)
 (askK D (Key.fn 42) [] [] fun r6 o6=>
 unAgg r6 fun cs13=>
 cLs cs13 fun xs33 l73=>
 cLs l73 fun xs34 l74=>
 cInt IntKind.i64 l74 fun n20 l75=>
 cLs l75 fun xs35 l76=>
 cBool l76 fun b6 l77=>
 cLs l77 fun xs36 l78=>
 cBool l78 fun b7 l79=>
 cLs l79 fun xs37 l80=>
 cLs l80 fun xs38 l81=>
 cLs l81 fun xs39 l82=>
 unNil l82<|
 unEnd o6<|
 askK D (Key.fn 34) [AV.agg [iv n1,AV.ls xs7,AV.ls xs8,iv n2,sv s,sv s1,AV.ls xs9],AV.agg [AV.ls xs33,AV.ls xs34,iv n20,AV.ls xs35,bv b6,AV.ls xs36,bv b7,AV.ls xs37,AV.ls xs38,AV.ls xs39]] [] fun r7 o7=>
 unTup r7 fun cs14=>
 unCons cs14 fun c6 l83=>
 unAgg c6 fun cs15=>
 cInt IntKind.i64 cs15 fun n21 l84=>
 cInt IntKind.i64 l84 fun _ l85=>
 cLs l85 fun _ l86=>
 unNil l86<|
 cLs l83 fun xs41 l87=>
 cBool l87 fun b8 l88=>
 unNil l88<|
 unEnd o7<|
 askK D (Key.fn 42) [] [] fun r8 o8=>
 unAgg r8 fun cs16=>
 cLs cs16 fun xs42 l89=>
 cLs l89 fun xs43 l90=>
 cInt IntKind.i64 l90 fun n23 l91=>
 cLs l91 fun xs44 l92=>
 cBool l92 fun b9 l93=>
 cLs l93 fun xs45 l94=>
 cBool l94 fun b10 l95=>
 cLs l95 fun xs46 l96=>
 cLs l96 fun xs47 l97=>
 cLs l97 fun xs48 l98=>
 unNil l98<|
 unEnd o8<|
 askK D (Key.fn 34) [AV.agg [iv 99,AV.ls [],AV.ls [],iv 0,sv (bstr []),sv (bstr []),AV.ls []],AV.agg [AV.ls xs42,AV.ls xs43,iv n23,AV.ls xs44,bv b9,AV.ls xs45,bv b10,AV.ls xs46,AV.ls xs47,AV.ls xs48]] [] fun r9 o9=>
 unTup r9 fun cs17=>
 unCons cs17 fun c7 l99=>
 unAgg c7 fun cs18=>
 cInt IntKind.i64 cs18 fun _ l100=>
 cInt IntKind.i64 l100 fun _ l101=>
 cLs l101 fun _ l102=>
 unNil l102<|
 cLs l99 fun _ l103=>
 cBool l103 fun b11 l104=>
 unNil l104<|
 unEnd o9<|
 askK D (Key.fn 38) [AV.agg [iv n1,AV.ls xs7,AV.ls xs8,iv n2,sv s,sv s1,AV.ls xs9]] [] fun r10 o10=>
 unStr r10 fun s8=>
 unEnd o10<|
 br (A.seq s8 (bstr [71,32,40,120,32,62,32,48,32,45,62,32,70,32,64,112,46,98,41]))
 (askK D (Key.fn 36) [AV.agg [iv n1,AV.ls xs7,AV.ls xs8,iv n2,sv s,sv s1,AV.ls xs9]] [] fun r11 o11=>
 unBool r11 fun b12=>
 unEnd o11<|
 br b12
 (br b8
 (br (A.eq n21 9)
 (br (A.eq (↑(lenR xs41)) 2)
 (nthK xs41 1 fun cs19=>
 cBool cs19 fun b13 l105=>
 cInt IntKind.i64 l105 fun _ l106=>
 cInt IntKind.i64 l106 fun _ l107=>
 cInt IntKind.i64 l107 fun _ l108=>
 cLs l108 fun _ l109=>
 cBool l109 fun _ l110=>
 cLs l110 fun _ l111=>
 cBool l111 fun _ l112=>
 cLs l112 fun _ l113=>
 unNil l113<|
 br b13
 (nthK xs41 1 fun cs20=>
 cBool cs20 fun _ l114=>
 cInt IntKind.i64 l114 fun _ l115=>
 cInt IntKind.i64 l115 fun n30 l116=>
 cInt IntKind.i64 l116 fun _ l117=>
 cLs l117 fun _ l118=>
 cBool l118 fun _ l119=>
 cLs l119 fun _ l120=>
 cBool l120 fun _ l121=>
 cLs l121 fun _ l122=>
 unNil l122<|
 br (A.eq n30 1)
 (br (A.not b11)
 (some ((bv true,[])))
 (some ((bv false,[]))))
 (some ((bv false,[]))))
 (some ((bv false,[]))))
 (some ((bv false,[]))))
 (some ((bv false,[]))))
 (some ((bv false,[]))))
 (some ((bv false,[]))))
 (some ((bv false,[]))))
 (some ((bv false,[])))))
 (some ((bv false,[]))))
 (some ((bv false,[]))))
 (some ((bv false,[]))))
 (some ((bv false,[]))):=by kernel_rfl

theorem e31(A:Ar)(D:Orc)(x0_0:List (List AV))(x0_1:List (List AV))(x0_2:Int)(x0_3:List (List AV))(x0_4:Bool)(x0_5:List (List AV))(x0_6:Bool)(x0_7:List (List AV))(x0_8:List (List AV))(x0_9:List (List AV)):fnK A D ownC hn31 .n 31 mf31 [AV.agg [AV.ls x0_0,AV.ls x0_1,iv x0_2,AV.ls x0_3,bv x0_4,AV.ls x0_5,bv x0_6,AV.ls x0_7,AV.ls x0_8,AV.ls x0_9]] [] =
 br (A.lt 50 ↑(lenR x0_0))
 (some ((bv false,[])))
 (br (A.lt 12 ↑(lenR x0_8))
 (some ((bv false,[])))
 (askK D (Key.lp 31 0) [AV.ls x0_8,iv ↑(lenR x0_8),iv 0] [] fun r o=>
 unTup r fun cs=>
 unCons cs fun c l=>
 br (axIs 0 c)
 (cBool l fun b l1=>
 unNil l1<|
 unEnd o<|
 some ((bv b,[])))
 (br (axIs 1 c)
 (unNil l<|
 unEnd o<|
 some ((bv true,[])))
 (none)))):=by kernel_rfl

theorem e31_0(A:Ar)(D:Orc)(t16:List (List AV))(t17:Int)(t18:Int):lpK A D ownC hn31 .n 31 0 (lpAt mf31 0).fst (lpAt mf31 0).snd [AV.ls t16,iv t17,iv t18] [] =
 br (A.lt t18 t17)
 (unI t18 fun i=>
 nthK t16 i fun cs=>
 cStr cs fun s l=>
 cLs l fun xs l1=>
 cLs l1 fun xs1 l2=>
 unNil l2<|
 br (A.lt 50 ↑(lenR xs))
 (some ((AV.tup [bv true,bv false],[])))
 (askK D (Key.lp 31 0) [AV.ls t16,iv t17,iv (A.add IntKind.i64 t18 1)] [] fun r o=>
 tailK 0 [] (AH.mk [(0,ABlk.mk [sv s,AV.ls xs,AV.ls xs1] true false)] 1 none) [] r o))
 (some ((AV.tup [iv 0],[]))):=by kernel_rfl
end Go.Proofs.YtlmhajfbpplpoaaGreat
namespace Go.Proofs.YtlmhajfbpplpoaaGreat
open Go.RowKit
def hs8:Hints:=[]
noncomputable def mf8:MFn:=mfD Tryz.prog entsC hs8 false false 8
def hn8:Hnt:=⟨[(20,(.bool,[])),(30,(.bool,[])),(31,(.bool,[])),(32,(.tup [.agg [.int .i64,.ls,.ls,.int .i64,.str,.str,.ls],.agg [.int .i64,.int .i64],.int .i64],[])),(33,(.tup [.agg [.int .i64,.ls,.ls,.int .i64,.str,.str,.ls],.agg [.int .i64,.int .i64],.int .i64],[]))],[],[(13,[.ls,.ls,.int .i64,.ls,.bool,.ls,.bool,.ls,.ls,.ls]),(18,[.ls,.ls,.int .i64,.ls,.bool,.ls,.bool,.ls,.ls,.ls]),(25,[.ls,.ls,.int .i64,.ls,.bool,.ls,.bool,.ls,.ls,.ls]),(34,[.int .i64,.int .i64]),(35,[.int .i64,.int .i64]),(39,[.int .i64,.ls,.ls,.int .i64,.str,.str,.ls]),(40,[.int .i64,.ls,.ls,.int .i64,.str,.str,.ls])]⟩
noncomputable def tabLp4:List (Nat × MFn):=[(8,mf8)]
theorem e8(A:Ar)(D:Orc)(x0:ByteArray)(x1_0:List (List AV))(x1_1:List (List AV))(x1_2:Int)(x1_3:List (List AV))(x1_4:Bool)(x1_5:List (List AV))(x1_6:Bool)(x1_7:List (List AV))(x1_8:List (List AV))(x1_9:List (List AV)):fnK A D ownC hn8 .n 8 mf8 [sv x0,AV.agg [AV.ls x1_0,AV.ls x1_1,iv x1_2,AV.ls x1_3,bv x1_4,AV.ls x1_5,bv x1_6,AV.ls x1_7,AV.ls x1_8,AV.ls x1_9]] [] =
 askK D (Key.fn 30) [] [] fun r o=>
 unBool r fun b=>
 unEnd o<|
 br b
 (askK D (Key.fn 31) [AV.agg [AV.ls x1_0,AV.ls x1_1,iv x1_2,AV.ls x1_3,bv x1_4,AV.ls x1_5,bv x1_6,AV.ls x1_7,AV.ls x1_8,AV.ls x1_9]] [] fun r1 o1=>
 unBool r1 fun b1=>
 unEnd o1<|
 br b1
 (askK D (Key.fn 32) [sv x0,AV.agg [AV.ls x1_0,AV.ls x1_1,iv x1_2,AV.ls x1_3,bv x1_4,AV.ls x1_5,bv x1_6,AV.ls x1_7,AV.ls x1_8,AV.ls x1_9]] [] fun r2 o2=>
 unTup r2 fun cs=>
 unCons cs fun c l=>
 unAgg c fun cs1=>
 cInt IntKind.i64 cs1 fun n l1=>
 cLs l1 fun xs l2=>
 cLs l2 fun xs1 l3=>
 cInt IntKind.i64 l3 fun n1 l4=>
 cStr l4 fun s l5=>
 cStr l5 fun s1 l6=>
 cLs l6 fun xs2 l7=>
 unNil l7<|
 unCons l fun c1 l8=>
 unAgg c1 fun cs2=>
 cInt IntKind.i64 cs2 fun n2 l9=>
 cInt IntKind.i64 l9 fun n3 l10=>
 unNil l10<|
 cInt IntKind.i64 l8 fun n4 l11=>
 unNil l11<|
 unEnd o2<|
 askK D (Key.fn 33) [sv x0,AV.agg [AV.ls x1_0,AV.ls x1_1,iv x1_2,AV.ls x1_3,bv x1_4,AV.ls x1_5,bv x1_6,AV.ls x1_7,AV.ls x1_8,AV.ls x1_9]] [] fun r3 o3=>
 unTup r3 fun cs3=>
 unCons cs3 fun c2 l12=>
 unAgg c2 fun cs4=>
 cInt IntKind.i64 cs4 fun n5 l13=>
 cLs l13 fun xs3 l14=>
 cLs l14 fun xs4 l15=>
 cInt IntKind.i64 l15 fun n6 l16=>
 cStr l16 fun s2 l17=>
 cStr l17 fun s3 l18=>
 cLs l18 fun xs5 l19=>
 unNil l19<|
 unCons l12 fun c3 l20=>
 unAgg c3 fun cs5=>
 cInt IntKind.i64 cs5 fun n7 l21=>
 cInt IntKind.i64 l21 fun n8 l22=>
 unNil l22<|
 cInt IntKind.i64 l20 fun n9 l23=>
 unNil l23<|
 unEnd o3<|
 br (A.eq n4 n9)
 (br (A.band (A.eq n2 n7) (A.band (A.eq n3 n8) true))
 (askK D (Key.fn 20) [AV.agg [iv n,AV.ls xs,AV.ls xs1,iv n1,sv s,sv s1,AV.ls xs2],AV.agg [iv n5,AV.ls xs3,AV.ls xs4,iv n6,sv s2,sv s3,AV.ls xs5]] [] fun r4 o4=>
 unBool r4 fun b2=>
 unEnd o4<|
 br b2
 (some ((bv true,[])))
 (some ((bv false,[]))))
 (some ((bv false,[]))))
 (some ((bv false,[]))))
 (some ((bv true,[]))))
 (some ((bv false,[]))):=by kernel_rfl
end Go.Proofs.YtlmhajfbpplpoaaGreat
