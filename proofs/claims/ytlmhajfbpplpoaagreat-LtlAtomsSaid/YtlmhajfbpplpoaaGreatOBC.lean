/- Functions of the program as trees: what a call com -/
import Derived.Test.YtlmhajfbpplpoaaGreatOAS
set_option linter.all false
open List renaming drop->ApK,take->ApG
namespace Go.Proofs.YtlmhajfbpplpoaaGreat
noncomputable section
open Go.RowKit
def E9:List (Nat × Nat):=[(72,0),(129,0),(130,0),(188,0),(189,0)]
def AhX:MFn:=Bx [] 191
def AgT:Hnt:=⟨[(233,(.bool,[]))],[],[(6,[.bool]),(8,[.bool]),(12,[.int .i64]),(14,[.int .i64]),(19,[.int .i64]),(21,[.int .i64]),(26,[.int .i64,.ls,.bool,.ls,.bool,.ls]),(28,[.int .i64,.ls,.bool,.ls,.bool,.ls])]⟩
def AhW:MFn:=Bx [] 190
def AgS:Hnt:=⟨[(191,(.bool,[]))],[],[(4,[.bool,.int .i64,.int .i64,.int .i64,.ls,.bool,.ls,.bool,.ls]),(5,[.bool,.int .i64,.int .i64,.int .i64,.ls,.bool,.ls,.bool,.ls])]⟩
def Alt:Be:=[⟨19,[true,true,false,false,false,false,false,true,true],[],[],[(0,([true,false,false,false,true],([],[1000000]))),(1,([true],([],[1000000])))]⟩]
def N2:MFn:=Bx Alt 189
def Sx:Hnt:=⟨[(190,(.bool,[.keep]))],[(0,[(0,([.sl 0 9,.int .i64],[.row true,.keep])),(1,([.sl 0 9],[.row true,.keep]))])],[(14,[.bool,.int .i64,.int .i64,.int .i64,.ls,.bool,.ls,.bool,.ls]),(15,[.bool,.int .i64,.int .i64,.int .i64,.ls,.bool,.ls,.bool,.ls])]⟩
def Q8:Hnt:=⟨[(190,(.bool,[.keep]))],[(0,[(0,([.cst (.slice none 0 0),.int .i64],[.keep])),(1,([.cst (.slice none 0 0)],[.keep]))])],[(14,[.bool,.int .i64,.int .i64,.int .i64,.ls,.bool,.ls,.bool,.ls]),(15,[.bool,.int .i64,.int .i64,.int .i64,.ls,.bool,.ls,.bool,.ls])]⟩
def Abm:MFn:=MK Tryz.prog Bk [] false true 130
def AaP:Hnt:=⟨[(189,(.int .i64,[.row true,.keep]))],[],[(9,[.ls]),(17,[.ls]),(23,[.ls]),(24,[.bool,.int .i64,.int .i64,.int .i64,.ls,.bool,.ls,.bool,.ls])]⟩
def AaO:Hnt:=⟨[(189,(.int .i64,[.keep]))],[],[(9,[.ls]),(17,[.ls]),(23,[.ls]),(24,[.bool,.int .i64,.int .i64,.int .i64,.ls,.bool,.ls,.bool,.ls])]⟩
def Abn:MFn:=Bx [] 188
def V2:Hnt:=⟨[(88,(.int .i64,[])),(232,(.ls,[]))],[],[(11,[.ls,.ls,.int .i64,.ls,.bool,.ls,.bool,.ls,.ls,.ls]),(14,[.str]),(23,[.ls]),(25,[.str,.ls,.ls]),(27,[.ls]),(29,[.str])]⟩
def Abl:MFn:=Bx [] 129
def AaN:Hnt:=⟨[(27,(.tup [.agg [.int .i64,.ls,.bool,.ls,.bool,.ls],.bool],[])),(188,(.tup [.agg [.bool,.int .i64,.int .i64,.int .i64,.ls,.bool,.ls,.bool,.ls],.bool],[.keep,.keep]))],[],[(9,[.int .i64]),(12,[.int .i64,.ls,.ls,.int .i64,.str,.str,.ls]),(17,[.int .i64,.ls,.ls,.int .i64,.str,.str,.ls]),(22,[.ls]),(26,[.int .i64,.ls,.bool,.ls,.bool,.ls])]⟩
def AaM:Hnt:=⟨[(27,(.tup [.agg [.int .i64,.ls,.bool,.ls,.bool,.ls],.bool],[])),(188,(.tup [.agg [.bool,.int .i64,.int .i64,.int .i64,.ls,.bool,.ls,.bool,.ls],.bool],[.keep]))],[],[(9,[.int .i64]),(12,[.int .i64,.ls,.ls,.int .i64,.str,.str,.ls]),(17,[.int .i64,.ls,.ls,.int .i64,.str,.str,.ls]),(22,[.ls]),(26,[.int .i64,.ls,.bool,.ls,.bool,.ls])]⟩
def AoO:Be:=[⟨61,[true,false,false,false,true,false,false,false,true,false,false,false,false,false,false,false,false,false,false,false,false,false,false,false,false,false,false,false,false,false,false,false,false,false,false,false,false,false,true,true,true],[(11000000,9),(3000008,3)],[4],[(0,([true,false,false,false,true,true],([4],[3000008,8,1000000]))),(1,([true,false,false,false,true,false,false,false,true],([],[1000000])))]⟩]
def Abo:MFn:=MK Tryz.prog Bk AoO false true 72
def SJ:Hnt:=⟨[(72,(.tup [.agg [.int .i64,.int .i64,.ls],.bool],[.box [.ls,.ls,.int .i64,.ls,.bool,.ls,.bool,.ls,.ls,.ls,.sl 2 9],.del,.row true])),(129,(.tup [.agg [.bool,.int .i64,.int .i64,.int .i64,.ls,.bool,.ls,.bool,.ls],.bool],[.keep,.keep])),(130,(.int .i64,[.box [.ls,.ls,.int .i64,.ls,.bool,.ls,.bool,.ls,.ls,.ls,.sl 2 9],.del,.row true]))],[(0,[(0,([.ptr 0 0,.ptr 1 0,.bool],[.box [.ls,.ls,.int .i64,.ls,.bool,.ls,.bool,.ls,.ls,.ls,.sl 5 9],.box [.int .i64,.int .i64,.ls],.del,.del,.del,.row true])),(1,([.ptr 0 0,.ptr 1 0,.ptr 2 0],[.box [.ls,.ls,.int .i64,.ls,.bool,.ls,.bool,.ls,.ls,.ls,.sl 5 9],.box [.int .i64,.int .i64,.ls],.box [.int .i64,.int .i64,.sl 6 3],.del,.del,.row true,.row true]))])],[(14,[.int .i64]),(18,[.int .i64]),(23,[.int .i64,.ls,.ls,.int .i64,.str,.str,.ls]),(31,[.bool,.int .i64,.int .i64,.int .i64,.ls,.bool,.ls,.bool,.ls]),(35,[.int .i64]),(38,[.ls]),(42,[.int .i64,.ls,.ls,.int .i64,.str,.str,.ls]),(43,[.int .i64,.ls,.ls,.int .i64,.str,.str,.ls]),(46,[.int .i64,.ls,.ls,.int .i64,.str,.str,.ls]),(54,[.ls]),(55,[.int .i64,.int .i64,.ls]),(60,[.int .i64,.int .i64,.ls])]⟩
def Ahh:Hnt:=⟨[(72,(.tup [.agg [.int .i64,.int .i64,.ls],.bool],[.box [.ls,.ls,.int .i64,.ls,.bool,.ls,.bool,.ls,.ls,.ls,.sl 2 9],.del,.row true])),(129,(.tup [.agg [.bool,.int .i64,.int .i64,.int .i64,.ls,.bool,.ls,.bool,.ls],.bool],[.keep])),(130,(.int .i64,[.box [.ls,.ls,.int .i64,.ls,.bool,.ls,.bool,.ls,.ls,.ls,.sl 1 9],.row true]))],[(0,[(0,([.ptr 0 0,.ptr 1 0,.bool],[.box [.ls,.ls,.int .i64,.ls,.bool,.ls,.bool,.ls,.ls,.ls,.sl 5 9],.box [.int .i64,.int .i64,.ls],.del,.del,.del,.row true])),(1,([.ptr 0 0,.ptr 1 0,.ptr 2 0],[.box [.ls,.ls,.int .i64,.ls,.bool,.ls,.bool,.ls,.ls,.ls,.sl 5 9],.box [.int .i64,.int .i64,.ls],.box [.int .i64,.int .i64,.sl 6 3],.del,.del,.row true,.row true]))])],[(14,[.int .i64]),(18,[.int .i64]),(23,[.int .i64,.ls,.ls,.int .i64,.str,.str,.ls]),(31,[.bool,.int .i64,.int .i64,.int .i64,.ls,.bool,.ls,.bool,.ls]),(35,[.int .i64]),(38,[.ls]),(42,[.int .i64,.ls,.ls,.int .i64,.str,.str,.ls]),(43,[.int .i64,.ls,.ls,.int .i64,.str,.str,.ls]),(46,[.int .i64,.ls,.ls,.int .i64,.str,.str,.ls]),(54,[.ls]),(55,[.int .i64,.int .i64,.ls]),(60,[.int .i64,.int .i64,.ls])]⟩
def Ajt:MFn:=Bx [] 34
def AkZ:Hnt:=⟨[(36,(.bool,[])),(72,(.tup [.agg [.int .i64,.int .i64,.ls],.bool],[.box [.ls,.ls,.int .i64,.ls,.bool,.ls,.bool,.ls,.ls,.ls,.sl 1 9],.row true]))],[],[(10,[.ls,.ls,.int .i64,.ls,.bool,.ls,.bool,.ls,.ls,.ls]),(13,[.int .i64,.ls,.ls,.int .i64,.str,.str,.ls]),(19,[.int .i64,.ls,.ls,.int .i64,.str,.str,.ls]),(26,[.int .i64,.int .i64,.ls]),(30,[.ls])]⟩
def Ahg:Hnt:=⟨[(36,(.bool,[])),(72,(.tup [.agg [.int .i64,.int .i64,.ls],.bool],[.box [.ls,.ls,.int .i64,.ls,.bool,.ls,.bool,.ls,.ls,.ls,.cst (.slice none 0 0)]]))],[],[(10,[.ls,.ls,.int .i64,.ls,.bool,.ls,.bool,.ls,.ls,.ls]),(13,[.int .i64,.ls,.ls,.int .i64,.str,.str,.ls]),(19,[.int .i64,.ls,.ls,.int .i64,.str,.str,.ls]),(26,[.int .i64,.int .i64,.ls]),(30,[.ls])]⟩
def OJ:List (Nat × MFn):=[(191,AhX),(190,AhW),(189,N2),(130,Abm),(188,Abn),(129,Abl),(72,Abo),(34,Ajt)]
theorem AnO(A:Ar)(D:Orc)(x0_0:Bool)(x0_1:Int)(x0_2:Int)(x0_3:Int)(x0_4:List (List AV))(x0_5:Bool)(x0_6:List (List AV))(x0_7:Bool)(x0_8:List (List AV))(x1_0:Bool)(x1_1:Int)(x1_2:Int)(x1_3:Int)(x1_4:List (List AV))(x1_5:Bool)(x1_6:List (List AV))(x1_7:Bool)(x1_8:List (List AV)):BI A D E9 AgT .n 191 AhX [AV.agg [bv x0_0,iv x0_1,iv x0_2,iv x0_3,AV.ls x0_4,bv x0_5,AV.ls x0_6,bv x0_7,AV.ls x0_8],AV.agg [bv x1_0,iv x1_1,iv x1_2,iv x1_3,AV.ls x1_4,bv x1_5,AV.ls x1_6,bv x1_7,AV.ls x1_8]] [] =
 br (A.beq x0_0 x1_0)
 (br (A.eq x0_1 x1_1)
 (br (A.eq x0_2 x1_2)
 (Ae D (Key.fn 233) [AV.agg [iv x0_3,AV.ls x0_4,bv x0_5,AV.ls x0_6,bv x0_7,AV.ls x0_8],AV.agg [iv x1_3,AV.ls x1_4,bv x1_5,AV.ls x1_6,bv x1_7,AV.ls x1_8]] [] λr o=>
 AR r λb=>
 Ac o<|
 br b
 (some ((bv true,[])))
 (some ((bv false,[]))))
 (some ((bv false,[]))))
 (some ((bv false,[]))))
 (some ((bv false,[]))):=by kernel_rfl
theorem AnN(A:Ar)(D:Orc)(y1:Bool)(y2:Int)(y3:Int)(y4:Int)(y5:List (List AV))(y6:Bool)(y7:List (List AV))(y8:Bool)(y9:List (List AV))(x1:Bool)(x2:Int)(x3:Int)(x4:Int)(x5:List (List AV))(x6:Bool)(x7:List (List AV))(x8:Bool)(x9:List (List AV)):BI A D E9 AgS .n 190 AhW [AV.agg [bv y1,iv y2,iv y3,iv y4,AV.ls y5,bv y6,AV.ls y7,bv y8,AV.ls y9],AV.ptr 0 0] [{ cells:=[bv x1,iv x2,iv x3,iv x4,AV.ls x5,bv x6,AV.ls x7,bv x8,AV.ls x9],st:=true,ex:=false }] =
 Ae D (Key.fn 191) [AV.agg [bv x1,iv x2,iv x3,iv x4,AV.ls x5,bv x6,AV.ls x7,bv x8,AV.ls x9],AV.agg [bv y1,iv y2,iv y3,iv y4,AV.ls y5,bv y6,AV.ls y7,bv y8,AV.ls y9]] [] λr o=>
 AR r λb=>
 Ac o<|
 br b
 (some ((bv true,[BO.keep])))
 (some ((bv false,[BO.keep]))):=by kernel_rfl
theorem AkM(A:Ar)(D:Orc)(n0:Nat)(c0:List AV)(x1:Bool)(x2:Int)(x3:Int)(x4:Int)(x5:List (List AV))(x6:Bool)(x7:List (List AV))(x8:Bool)(x9:List (List AV)):BI A D E9 Sx .n 189 N2 [AV.sl 0 0 n0 9,AV.fn (Fn.func 190) [] [AV.ptr 1 0]] [{ cells:=c0,st:=true,ex:=true },{ cells:=[bv x1,iv x2,iv x3,iv x4,AV.ls x5,bv x6,AV.ls x7,bv x8,AV.ls x9],st:=true,ex:=false }] =
 Ae D (Key.lp 189 0) [AV.sl 0 0 n0 9,AV.fn (Fn.func 190) [] [AV.ptr 1 0],iv ↑n0,iv 0] [ABlk.mk c0 true true,ABlk.mk [bv x1,iv x2,iv x3,iv x4,AV.ls x5,bv x6,AV.ls x7,bv x8,AV.ls x9] true false] λr o=>
 Az r λcs=>
 Ai cs λc l=>
 br (Bi 0 c)
 (Ai l λc1 l1=>
 B1 0 9 c1 λ_=>
 At IntKind.i64 l1 λn1 l2=>
 Ad l2<|
 Am o λc2 l3=>
 AE true true c2 λcs1=>
 Am l3 λc3 l4=>
 CO c3<|
 Ac l4<|
 some ((iv n1,[BO.set (ABlk.mk cs1 true true),BO.keep])))
 (br (Bi 1 c)
 (Ai l λc1 l1=>
 B1 0 9 c1 λ_=>
 Ad l1<|
 Am o λc2 l2=>
 AE true true c2 λcs1=>
 Am l2 λc3 l3=>
 CO c3<|
 Ac l3<|
 some ((iv (-1),[BO.set (ABlk.mk cs1 true true),BO.keep])))
 (none)):=by kernel_rfl
theorem VW(A:Ar)(D:Orc)(n0:Nat)(c0:List AV)(x1:Bool)(x2:Int)(x3:Int)(x4:Int)(x5:List (List AV))(x6:Bool)(x7:List (List AV))(x8:Bool)(x9:List (List AV))(t7:Int)(t8:Int):Dv A D E9 Sx .n 189 0 (AW N2 0).fst (AW N2 0).snd [AV.sl 0 0 n0 9,AV.fn (Fn.func 190) [] [AV.ptr 1 0],iv t7,iv t8] [{ cells:=c0,st:=true,ex:=true },{ cells:=[bv x1,iv x2,iv x3,iv x4,AV.ls x5,bv x6,AV.ls x7,bv x8,AV.ls x9],st:=true,ex:=false }] =
 br (A.lt t8 t7)
 (unI t8 λi=>
 br (i.blt n0) (IG c0 (0+i*9) 9 λcs=>
 Af cs λb l=>
 At IntKind.i64 l λn l1=>
 At IntKind.i64 l1 λn1 l2=>
 At IntKind.i64 l2 λn2 l3=>
 As l3 λxs l4=>
 Af l4 λb1 l5=>
 As l5 λxs1 l6=>
 Af l6 λb2 l7=>
 As l7 λxs2 l8=>
 Ad l8<|
 Ae D (Key.fn 190) [AV.agg [bv b,iv n,iv n1,iv n2,AV.ls xs,bv b1,AV.ls xs1,bv b2,AV.ls xs2],AV.ptr 0 0] [ABlk.mk [bv x1,iv x2,iv x3,iv x4,AV.ls x5,bv x6,AV.ls x7,bv x8,AV.ls x9] true false] λr o=>
 AR r λb3=>
 Am o λc l9=>
 CO c<|
 Ac l9<|
 br b3
 (some ((AV.tup [bv true,AV.sl 0 0 n0 9,iv t8],[BO.set (ABlk.mk c0 true true),BO.keep])))
 (Ae D (Key.lp 189 0) [AV.sl 0 0 n0 9,AV.fn (Fn.func 190) [] [AV.ptr 1 0],iv t7,iv (A.add IntKind.i64 t8 1)] [ABlk.mk c0 true true,ABlk.mk [bv x1,iv x2,iv x3,iv x4,AV.ls x5,bv x6,AV.ls x7,bv x8,AV.ls x9] true false] λr1 o1=>
 AN 2 [0,1] (AH.mk [(0,ABlk.mk c0 true true),(1,ABlk.mk [bv x1,iv x2,iv x3,iv x4,AV.ls x5,bv x6,AV.ls x7,bv x8,AV.ls x9] true false)] 2 none) [] r1 o1)) none)
 (some ((AV.tup [iv 0,AV.sl 0 0 n0 9],[BO.set (ABlk.mk c0 true true),BO.keep]))):=by kernel_rfl
theorem AkL(A:Ar)(D:Orc)(x1:Bool)(x2:Int)(x3:Int)(x4:Int)(x5:List (List AV))(x6:Bool)(x7:List (List AV))(x8:Bool)(x9:List (List AV)):BI A D E9 Q8 .n 189 N2 [AV.v (Value.slice none 0 0),AV.fn (Fn.func 190) [] [AV.ptr 0 0]] [{ cells:=[bv x1,iv x2,iv x3,iv x4,AV.ls x5,bv x6,AV.ls x7,bv x8,AV.ls x9],st:=true,ex:=false }] =
 Ae D (Key.lp 189 0) [AV.v (Value.slice none 0 0),AV.fn (Fn.func 190) [] [AV.ptr 0 0],iv 0,iv 0] [ABlk.mk [bv x1,iv x2,iv x3,iv x4,AV.ls x5,bv x6,AV.ls x7,bv x8,AV.ls x9] true false] λr o=>
 Az r λcs=>
 Ai cs λc l=>
 br (Bi 0 c)
 (Ai l λc1 l1=>
 TR (Value.slice none 0 0) c1<|
 At IntKind.i64 l1 λn l2=>
 Ad l2<|
 Am o λc2 l3=>
 CO c2<|
 Ac l3<|
 some ((iv n,[BO.keep])))
 (br (Bi 1 c)
 (Ai l λc1 l1=>
 TR (Value.slice none 0 0) c1<|
 Ad l1<|
 Am o λc2 l2=>
 CO c2<|
 Ac l2<|
 some ((iv (-1),[BO.keep])))
 (none)):=by kernel_rfl
theorem AdS(A:Ar)(D:Orc)(x1:Bool)(x2:Int)(x3:Int)(x4:Int)(x5:List (List AV))(x6:Bool)(x7:List (List AV))(x8:Bool)(x9:List (List AV))(t7:Int)(t8:Int):Dv A D E9 Q8 .n 189 0 (AW N2 0).fst (AW N2 0).snd [AV.v (Value.slice none 0 0),AV.fn (Fn.func 190) [] [AV.ptr 0 0],iv t7,iv t8] [{ cells:=[bv x1,iv x2,iv x3,iv x4,AV.ls x5,bv x6,AV.ls x7,bv x8,AV.ls x9],st:=true,ex:=false }] =
 br (A.lt t8 t7)
 (unI t8 λ_=>
 none)
 (some ((AV.tup [iv 0,AV.v (Value.slice none 0 0)],[BO.keep]))):=by kernel_rfl
theorem AkH(A:Ar)(D:Orc)(s1:List (List AV))(s2:List (List AV))(s3:Int)(s4:List (List AV))(s5:Bool)(s6:List (List AV))(s7:Bool)(s8:List (List AV))(s9:List (List AV))(s10:List (List AV))(n0:Nat)(c0:List AV)(x1:Bool)(x2:Int)(x3:Int)(x4:Int)(x5:List (List AV))(x6:Bool)(x7:List (List AV))(x8:Bool)(x9:List (List AV)):BI A D E9 AaP .n 130 Abm [AV.ptr 0 0,AV.agg [bv x1,iv x2,iv x3,iv x4,AV.ls x5,bv x6,AV.ls x7,bv x8,AV.ls x9]] [{ cells:=[AV.ls s1,AV.ls s2,iv s3,AV.ls s4,bv s5,AV.ls s6,bv s7,AV.ls s8,AV.ls s9,AV.ls s10,AV.sl 1 0 n0 9],st:=true,ex:=false },{ cells:=c0,st:=true,ex:=true }] =
 Ae D (Key.fn 189) [AV.sl 0 0 n0 9,AV.fn (Fn.func 190) [] [AV.ptr 1 0]] [ABlk.mk c0 true true,ABlk.mk [bv x1,iv x2,iv x3,iv x4,AV.ls x5,bv x6,AV.ls x7,bv x8,AV.ls x9] true false] λr o=>
 AT IntKind.i64 r λn=>
 Am o λc l=>
 AE true true c λcs=>
 Am l λc1 l1=>
 CO c1<|
 Ac l1<|
 br (A.lt n 0)
 (br (Bp (n0+1) 120) (br ((0+n0*9).ble cs.length) (some ((iv ↑n0,[BO.set (ABlk.mk [AV.ls s1,AV.ls s2,iv s3,AV.ls s4,bv s5,AV.ls s6,bv s7,AV.ls s8,AV.ls s9,AV.ls s10,AV.sl 2 0 (n0+1) 9] true false),BO.del,BO.set (ABlk.mk (ApK 0 (ApG (0+n0*9) cs)++[bv x1,iv x2,iv x3,iv x4,AV.ls x5,bv x6,AV.ls x7,bv x8,AV.ls x9]) true true)]))) none) none)
 (some ((iv n,[BO.set (ABlk.mk [AV.ls s1,AV.ls s2,iv s3,AV.ls s4,bv s5,AV.ls s6,bv s7,AV.ls s8,AV.ls s9,AV.ls s10,AV.sl 2 0 n0 9] true false),BO.del,BO.set (ABlk.mk cs true true)]))):=by kernel_rfl
theorem AkG(A:Ar)(D:Orc)(s1:List (List AV))(s2:List (List AV))(s3:Int)(s4:List (List AV))(s5:Bool)(s6:List (List AV))(s7:Bool)(s8:List (List AV))(s9:List (List AV))(s10:List (List AV))(x1:Bool)(x2:Int)(x3:Int)(x4:Int)(x5:List (List AV))(x6:Bool)(x7:List (List AV))(x8:Bool)(x9:List (List AV)):BI A D E9 AaO .n 130 Abm [AV.ptr 0 0,AV.agg [bv x1,iv x2,iv x3,iv x4,AV.ls x5,bv x6,AV.ls x7,bv x8,AV.ls x9]] [{ cells:=[AV.ls s1,AV.ls s2,iv s3,AV.ls s4,bv s5,AV.ls s6,bv s7,AV.ls s8,AV.ls s9,AV.ls s10,AV.v (Value.slice none 0 0)],st:=true,ex:=false }] =
 Ae D (Key.fn 189) [AV.v (Value.slice none 0 0),AV.fn (Fn.func 190) [] [AV.ptr 0 0]] [ABlk.mk [bv x1,iv x2,iv x3,iv x4,AV.ls x5,bv x6,AV.ls x7,bv x8,AV.ls x9] true false] λr o=>
 AT IntKind.i64 r λn=>
 Am o λc l=>
 CO c<|
 Ac l<|
 br (A.lt n 0)
 (some ((iv 0,[BO.set (ABlk.mk [AV.ls s1,AV.ls s2,iv s3,AV.ls s4,bv s5,AV.ls s6,bv s7,AV.ls s8,AV.ls s9,AV.ls s10,AV.sl 1 0 1 9] true false),BO.set (ABlk.mk [bv x1,iv x2,iv x3,iv x4,AV.ls x5,bv x6,AV.ls x7,bv x8,AV.ls x9] true true)])))
 (some ((iv n,[BO.set (ABlk.mk [AV.ls s1,AV.ls s2,iv s3,AV.ls s4,bv s5,AV.ls s6,bv s7,AV.ls s8,AV.ls s9,AV.ls s10,AV.v (Value.slice none 0 0)] true false)]))):=by kernel_rfl
theorem AkK(A:Ar)(D:Orc)(s1:List (List AV))(s2:List (List AV))(s3:Int)(s4:List (List AV))(s5:Bool)(s6:List (List AV))(s7:Bool)(s8:List (List AV))(s9:List (List AV))(s10:List (List AV))(n0:Nat)(c0:List AV)(x1:Int)(x2:List (List AV))(x3:List (List AV))(x4:Int)(x5:ByteArray)(x6:ByteArray)(x7:List (List AV)):BI A D E9 V2 .n 188 Abn [AV.ptr 0 0,AV.agg [iv x1,AV.ls x2,AV.ls x3,iv x4,sv x5,sv x6,AV.ls x7]] [{ cells:=[AV.ls s1,AV.ls s2,iv s3,AV.ls s4,bv s5,AV.ls s6,bv s7,AV.ls s8,AV.ls s9,AV.ls s10,AV.sl 1 0 n0 9],st:=true,ex:=false },{ cells:=c0,st:=true,ex:=true }] =
 Ae D (Key.fn 232) [AV.agg [AV.ls s1,AV.ls s2,iv s3,AV.ls s4,bv s5,AV.ls s6,bv s7,AV.ls s8,AV.ls s9,AV.ls s10]] [] λr o=>
 BX r λxs=>
 Ac o<|
 Ae D (Key.fn 88) [AV.ls xs,sv x5] [] λr1 o1=>
 AT IntKind.i64 r1 λn=>
 Ac o1<|
 br (A.lt n 0)
 (some ((AV.tup [AV.agg [bv false,iv 0,iv 0,iv 0,AV.ls [],bv false,AV.ls [],bv false,AV.ls []],bv false],[BO.keep,BO.keep])))
 (unI n λi=>
 Br s9 i λcs=>
 Bv cs λ_ l=>
 As l λxs1 l1=>
 As l1 λ_ l2=>
 Ad l2<|
 Ae D (Key.fn 88) [AV.ls xs1,sv x6] [] λr2 o2=>
 AT IntKind.i64 r2 λn1=>
 Ac o2<|
 br (A.le 0 n1)
 (some ((AV.tup [AV.agg [bv true,iv n,iv n1,iv 0,AV.ls [],bv false,AV.ls [],bv false,AV.ls []],bv true],[BO.keep,BO.keep])))
 (some ((AV.tup [AV.agg [bv true,iv n,iv n1,iv 0,AV.ls [],bv false,AV.ls [],bv false,AV.ls []],bv false],[BO.keep,BO.keep])))):=by kernel_rfl
theorem AkJ(A:Ar)(D:Orc)(s1:List (List AV))(s2:List (List AV))(s3:Int)(s4:List (List AV))(s5:Bool)(s6:List (List AV))(s7:Bool)(s8:List (List AV))(s9:List (List AV))(s10:List (List AV))(x1:Int)(x2:List (List AV))(x3:List (List AV))(x4:Int)(x5:ByteArray)(x6:ByteArray)(x7:List (List AV)):BI A D E9 V2 .n 188 Abn [AV.ptr 0 0,AV.agg [iv x1,AV.ls x2,AV.ls x3,iv x4,sv x5,sv x6,AV.ls x7]] [{ cells:=[AV.ls s1,AV.ls s2,iv s3,AV.ls s4,bv s5,AV.ls s6,bv s7,AV.ls s8,AV.ls s9,AV.ls s10,AV.v (Value.slice none 0 0)],st:=true,ex:=false }] =
 Ae D (Key.fn 232) [AV.agg [AV.ls s1,AV.ls s2,iv s3,AV.ls s4,bv s5,AV.ls s6,bv s7,AV.ls s8,AV.ls s9,AV.ls s10]] [] λr o=>
 BX r λxs=>
 Ac o<|
 Ae D (Key.fn 88) [AV.ls xs,sv x5] [] λr1 o1=>
 AT IntKind.i64 r1 λn=>
 Ac o1<|
 br (A.lt n 0)
 (some ((AV.tup [AV.agg [bv false,iv 0,iv 0,iv 0,AV.ls [],bv false,AV.ls [],bv false,AV.ls []],bv false],[BO.keep])))
 (unI n λi=>
 Br s9 i λcs=>
 Bv cs λ_ l=>
 As l λxs1 l1=>
 As l1 λ_ l2=>
 Ad l2<|
 Ae D (Key.fn 88) [AV.ls xs1,sv x6] [] λr2 o2=>
 AT IntKind.i64 r2 λn1=>
 Ac o2<|
 br (A.le 0 n1)
 (some ((AV.tup [AV.agg [bv true,iv n,iv n1,iv 0,AV.ls [],bv false,AV.ls [],bv false,AV.ls []],bv true],[BO.keep])))
 (some ((AV.tup [AV.agg [bv true,iv n,iv n1,iv 0,AV.ls [],bv false,AV.ls [],bv false,AV.ls []],bv false],[BO.keep])))):=by kernel_rfl
theorem AkF(A:Ar)(D:Orc)(s1:List (List AV))(s2:List (List AV))(s3:Int)(s4:List (List AV))(s5:Bool)(s6:List (List AV))(s7:Bool)(s8:List (List AV))(s9:List (List AV))(s10:List (List AV))(n0:Nat)(c0:List AV)(x1:Int)(x2:List (List AV))(x3:List (List AV))(x4:Int)(x5:ByteArray)(x6:ByteArray)(x7:List (List AV)):BI A D E9 AaN .n 129 Abl [AV.ptr 0 0,AV.agg [iv x1,AV.ls x2,AV.ls x3,iv x4,sv x5,sv x6,AV.ls x7]] [{ cells:=[AV.ls s1,AV.ls s2,iv s3,AV.ls s4,bv s5,AV.ls s6,bv s7,AV.ls s8,AV.ls s9,AV.ls s10,AV.sl 1 0 n0 9],st:=true,ex:=false },{ cells:=c0,st:=true,ex:=true }] =
 br (A.eq x1 6)
 (Ae D (Key.fn 188) [AV.ptr 0 0,AV.agg [iv x1,AV.ls x2,AV.ls x3,iv x4,sv x5,sv x6,AV.ls x7]] [ABlk.mk [AV.ls s1,AV.ls s2,iv s3,AV.ls s4,bv s5,AV.ls s6,bv s7,AV.ls s8,AV.ls s9,AV.ls s10,AV.sl 1 0 n0 9] true false,ABlk.mk c0 true true] λr o=>
 Az r λcs=>
 Ai cs λc l=>
 Au c λcs1=>
 Af cs1 λb l1=>
 At IntKind.i64 l1 λn l2=>
 At IntKind.i64 l2 λn1 l3=>
 At IntKind.i64 l3 λn2 l4=>
 As l4 λxs l5=>
 Af l5 λb1 l6=>
 As l6 λxs1 l7=>
 Af l7 λb2 l8=>
 As l8 λxs2 l9=>
 Ad l9<|
 Af l λb3 l10=>
 Ad l10<|
 Am o λc1 l11=>
 CO c1<|
 Am l11 λc2 l12=>
 CO c2<|
 Ac l12<|
 some ((AV.tup [AV.agg [bv b,iv n,iv n1,iv n2,AV.ls xs,bv b1,AV.ls xs1,bv b2,AV.ls xs2],bv b3],[BO.keep,BO.keep])))
 (Ae D (Key.fn 27) [AV.agg [iv x1,AV.ls x2,AV.ls x3,iv x4,sv x5,sv x6,AV.ls x7],AV.ls s1] [] λr o=>
 Az r λcs=>
 Ai cs λc l=>
 Au c λcs1=>
 At IntKind.i64 cs1 λn l1=>
 As l1 λxs l2=>
 Af l2 λb l3=>
 As l3 λxs1 l4=>
 Af l4 λb1 l5=>
 As l5 λxs2 l6=>
 Ad l6<|
 Af l λb2 l7=>
 Ad l7<|
 Ac o<|
 some ((AV.tup [AV.agg [bv false,iv 0,iv 0,iv n,AV.ls xs,bv b,AV.ls xs1,bv b1,AV.ls xs2],bv b2],[BO.keep,BO.keep]))):=by kernel_rfl
theorem AkE(A:Ar)(D:Orc)(s1:List (List AV))(s2:List (List AV))(s3:Int)(s4:List (List AV))(s5:Bool)(s6:List (List AV))(s7:Bool)(s8:List (List AV))(s9:List (List AV))(s10:List (List AV))(x1:Int)(x2:List (List AV))(x3:List (List AV))(x4:Int)(x5:ByteArray)(x6:ByteArray)(x7:List (List AV)):BI A D E9 AaM .n 129 Abl [AV.ptr 0 0,AV.agg [iv x1,AV.ls x2,AV.ls x3,iv x4,sv x5,sv x6,AV.ls x7]] [{ cells:=[AV.ls s1,AV.ls s2,iv s3,AV.ls s4,bv s5,AV.ls s6,bv s7,AV.ls s8,AV.ls s9,AV.ls s10,AV.v (Value.slice none 0 0)],st:=true,ex:=false }] =
 br (A.eq x1 6)
 (Ae D (Key.fn 188) [AV.ptr 0 0,AV.agg [iv x1,AV.ls x2,AV.ls x3,iv x4,sv x5,sv x6,AV.ls x7]] [ABlk.mk [AV.ls s1,AV.ls s2,iv s3,AV.ls s4,bv s5,AV.ls s6,bv s7,AV.ls s8,AV.ls s9,AV.ls s10,AV.v (Value.slice none 0 0)] true false] λr o=>
 Az r λcs=>
 Ai cs λc l=>
 Au c λcs1=>
 Af cs1 λb l1=>
 At IntKind.i64 l1 λn l2=>
 At IntKind.i64 l2 λn1 l3=>
 At IntKind.i64 l3 λn2 l4=>
 As l4 λxs l5=>
 Af l5 λb1 l6=>
 As l6 λxs1 l7=>
 Af l7 λb2 l8=>
 As l8 λxs2 l9=>
 Ad l9<|
 Af l λb3 l10=>
 Ad l10<|
 Am o λc1 l11=>
 CO c1<|
 Ac l11<|
 some ((AV.tup [AV.agg [bv b,iv n,iv n1,iv n2,AV.ls xs,bv b1,AV.ls xs1,bv b2,AV.ls xs2],bv b3],[BO.keep])))
 (Ae D (Key.fn 27) [AV.agg [iv x1,AV.ls x2,AV.ls x3,iv x4,sv x5,sv x6,AV.ls x7],AV.ls s1] [] λr o=>
 Az r λcs=>
 Ai cs λc l=>
 Au c λcs1=>
 At IntKind.i64 cs1 λn l1=>
 As l1 λxs l2=>
 Af l2 λb l3=>
 As l3 λxs1 l4=>
 Af l4 λb1 l5=>
 As l5 λxs2 l6=>
 Ad l6<|
 Af l λb2 l7=>
 Ad l7<|
 Ac o<|
 some ((AV.tup [AV.agg [bv false,iv 0,iv 0,iv n,AV.ls xs,bv b,AV.ls xs1,bv b1,AV.ls xs2],bv b2],[BO.keep]))):=by kernel_rfl
theorem Aow(A:Ar)(D:Orc)(s1:List (List AV))(s2:List (List AV))(s3:Int)(s4:List (List AV))(s5:Bool)(s6:List (List AV))(s7:Bool)(s8:List (List AV))(s9:List (List AV))(s10:List (List AV))(n0:Nat)(c0:List AV)(x1:Int)(x2:List (List AV))(x3:List (List AV))(x4:Int)(x5:ByteArray)(x6:ByteArray)(x7:List (List AV)):BI A D E9 SJ .n 72 Abo [AV.ptr 0 0,AV.agg [iv x1,AV.ls x2,AV.ls x3,iv x4,sv x5,sv x6,AV.ls x7]] [{ cells:=[AV.ls s1,AV.ls s2,iv s3,AV.ls s4,bv s5,AV.ls s6,bv s7,AV.ls s8,AV.ls s9,AV.ls s10,AV.sl 1 0 n0 9],st:=true,ex:=false },{ cells:=c0,st:=true,ex:=true }] =
 br (A.eq x1 2)
 (Ae D (Key.fn 129) [AV.ptr 0 0,AV.agg [iv x1,AV.ls x2,AV.ls x3,iv x4,sv x5,sv x6,AV.ls x7]] [ABlk.mk [AV.ls s1,AV.ls s2,iv s3,AV.ls s4,bv s5,AV.ls s6,bv s7,AV.ls s8,AV.ls s9,AV.ls s10,AV.sl 1 0 n0 9] true false,ABlk.mk c0 true true] λr o=>
 Az r λcs=>
 Ai cs λc l=>
 Au c λcs1=>
 Af cs1 λb l1=>
 At IntKind.i64 l1 λn l2=>
 At IntKind.i64 l2 λn1 l3=>
 At IntKind.i64 l3 λn2 l4=>
 As l4 λxs l5=>
 Af l5 λb1 l6=>
 As l6 λxs1 l7=>
 Af l7 λb2 l8=>
 As l8 λxs2 l9=>
 Ad l9<|
 Af l λb3 l10=>
 Ad l10<|
 Am o λc1 l11=>
 CO c1<|
 Am l11 λc2 l12=>
 CO c2<|
 Ac l12<|
 br (A.not b3)
 (some ((AV.tup [AV.agg [iv 0,iv 0,AV.ls []],bv false],[BO.set (ABlk.mk [AV.ls s1,AV.ls s2,iv s3,AV.ls s4,bv s5,AV.ls s6,bv s7,AV.ls s8,AV.ls s9,AV.ls s10,AV.sl 2 0 n0 9] true false),BO.del,BO.set (ABlk.mk c0 true true)])))
 (Ae D (Key.fn 130) [AV.ptr 0 0,AV.agg [bv b,iv n,iv n1,iv n2,AV.ls xs,bv b1,AV.ls xs1,bv b2,AV.ls xs2]] [ABlk.mk [AV.ls s1,AV.ls s2,iv s3,AV.ls s4,bv s5,AV.ls s6,bv s7,AV.ls s8,AV.ls s9,AV.ls s10,AV.sl 1 0 n0 9] true false,ABlk.mk c0 true true] λr1 o1=>
 AT IntKind.i64 r1 λn3=>
 Am o1 λc3 l13=>
 AE true false c3 λcs2=>
 As cs2 λxs3 l14=>
 As l14 λxs4 l15=>
 At IntKind.i64 l15 λn4 l16=>
 As l16 λxs5 l17=>
 Af l17 λb4 l18=>
 As l18 λxs6 l19=>
 Af l19 λb5 l20=>
 As l20 λxs7 l21=>
 As l21 λxs8 l22=>
 As l22 λxs9 l23=>
 Ai l23 λc4 l24=>
 B1 2 9 c4 λn5=>
 Ad l24<|
 Am l13 λc5 l25=>
 Bn c5<|
 Am l25 λc6 l26=>
 AE true true c6 λcs3=>
 Ac l26<|
 some ((AV.tup [AV.agg [iv 2,iv n3,AV.ls []],bv true],[BO.set (ABlk.mk [AV.ls xs3,AV.ls xs4,iv n4,AV.ls xs5,bv b4,AV.ls xs6,bv b5,AV.ls xs7,AV.ls xs8,AV.ls xs9,AV.sl 2 0 n5 9] true false),BO.del,BO.set (ABlk.mk cs3 true true)]))))
 (br (A.eq x1 6)
 (Ae D (Key.fn 129) [AV.ptr 0 0,AV.agg [iv x1,AV.ls x2,AV.ls x3,iv x4,sv x5,sv x6,AV.ls x7]] [ABlk.mk [AV.ls s1,AV.ls s2,iv s3,AV.ls s4,bv s5,AV.ls s6,bv s7,AV.ls s8,AV.ls s9,AV.ls s10,AV.sl 1 0 n0 9] true false,ABlk.mk c0 true true] λr o=>
 Az r λcs=>
 Ai cs λc l=>
 Au c λcs1=>
 Af cs1 λb l1=>
 At IntKind.i64 l1 λn l2=>
 At IntKind.i64 l2 λn1 l3=>
 At IntKind.i64 l3 λn2 l4=>
 As l4 λxs l5=>
 Af l5 λb1 l6=>
 As l6 λxs1 l7=>
 Af l7 λb2 l8=>
 As l8 λxs2 l9=>
 Ad l9<|
 Af l λb3 l10=>
 Ad l10<|
 Am o λc1 l11=>
 CO c1<|
 Am l11 λc2 l12=>
 CO c2<|
 Ac l12<|
 br (A.not b3)
 (some ((AV.tup [AV.agg [iv 0,iv 0,AV.ls []],bv false],[BO.set (ABlk.mk [AV.ls s1,AV.ls s2,iv s3,AV.ls s4,bv s5,AV.ls s6,bv s7,AV.ls s8,AV.ls s9,AV.ls s10,AV.sl 2 0 n0 9] true false),BO.del,BO.set (ABlk.mk c0 true true)])))
 (Ae D (Key.fn 130) [AV.ptr 0 0,AV.agg [bv b,iv n,iv n1,iv n2,AV.ls xs,bv b1,AV.ls xs1,bv b2,AV.ls xs2]] [ABlk.mk [AV.ls s1,AV.ls s2,iv s3,AV.ls s4,bv s5,AV.ls s6,bv s7,AV.ls s8,AV.ls s9,AV.ls s10,AV.sl 1 0 n0 9] true false,ABlk.mk c0 true true] λr1 o1=>
 AT IntKind.i64 r1 λn3=>
 Am o1 λc3 l13=>
 AE true false c3 λcs2=>
 As cs2 λxs3 l14=>
 As l14 λxs4 l15=>
 At IntKind.i64 l15 λn4 l16=>
 As l16 λxs5 l17=>
 Af l17 λb4 l18=>
 As l18 λxs6 l19=>
 Af l19 λb5 l20=>
 As l20 λxs7 l21=>
 As l21 λxs8 l22=>
 As l22 λxs9 l23=>
 Ai l23 λc4 l24=>
 B1 2 9 c4 λn5=>
 Ad l24<|
 Am l13 λc5 l25=>
 Bn c5<|
 Am l25 λc6 l26=>
 AE true true c6 λcs3=>
 Ac l26<|
 some ((AV.tup [AV.agg [iv 2,iv n3,AV.ls []],bv true],[BO.set (ABlk.mk [AV.ls xs3,AV.ls xs4,iv n4,AV.ls xs5,bv b4,AV.ls xs6,bv b5,AV.ls xs7,AV.ls xs8,AV.ls xs9,AV.sl 2 0 n5 9] true false),BO.del,BO.set (ABlk.mk cs3 true true)]))))
 (Ae D (Key.lp 72 0) [AV.ptr 0 0,AV.ptr 1 0,AV.ptr 2 0,AV.ls x7,iv ↑(A1 x7),iv 0] [ABlk.mk [AV.ls s1,AV.ls s2,iv s3,AV.ls s4,bv s5,AV.ls s6,bv s7,AV.ls s8,AV.ls s9,AV.ls s10,AV.sl 3 0 n0 9] true false,ABlk.mk [iv 0,iv 0,AV.ls []] true false,ABlk.mk [iv x1,iv 0,AV.sl 4 0 0 3] true false,ABlk.mk c0 true true,ABlk.mk [] true true] λr o=>
 Az r λcs=>
 Ai cs λc l=>
 br (Bi 0 c)
 (Ai l λc1 l1=>
 Cp 0 0 c1<|
 Ai l1 λc2 l2=>
 Cp 1 0 c2<|
 Af l2 λb l3=>
 Ad l3<|
 Am o λc3 l4=>
 AE true false c3 λcs1=>
 As cs1 λxs l5=>
 As l5 λxs1 l6=>
 At IntKind.i64 l6 λn l7=>
 As l7 λxs2 l8=>
 Af l8 λb1 l9=>
 As l9 λxs3 l10=>
 Af l10 λb2 l11=>
 As l11 λxs4 l12=>
 As l12 λxs5 l13=>
 As l13 λxs6 l14=>
 Ai l14 λc4 l15=>
 B1 5 9 c4 λn1=>
 Ad l15<|
 Am l4 λc5 l16=>
 AE true false c5 λcs2=>
 At IntKind.i64 cs2 λn2 l17=>
 At IntKind.i64 l17 λn3 l18=>
 As l18 λxs7 l19=>
 Ad l19<|
 Am l16 λc6 l20=>
 Bn c6<|
 Am l20 λc7 l21=>
 Bn c7<|
 Am l21 λc8 l22=>
 Bn c8<|
 Am l22 λc9 l23=>
 AE true true c9 λcs3=>
 Ac l23<|
 some ((AV.tup [AV.agg [iv n2,iv n3,AV.ls xs7],bv b],[BO.set (ABlk.mk [AV.ls xs,AV.ls xs1,iv n,AV.ls xs2,bv b1,AV.ls xs3,bv b2,AV.ls xs4,AV.ls xs5,AV.ls xs6,AV.sl 2 0 n1 9] true false),BO.del,BO.set (ABlk.mk cs3 true true)])))
 (br (Bi 1 c)
 (Ai l λc1 l1=>
 Cp 0 0 c1<|
 Ai l1 λc2 l2=>
 Cp 1 0 c2<|
 Ai l2 λc3 l3=>
 Cp 2 0 c3<|
 Ad l3<|
 Am o λc4 l4=>
 AE true false c4 λcs1=>
 As cs1 λxs l5=>
 As l5 λxs1 l6=>
 At IntKind.i64 l6 λn l7=>
 As l7 λxs2 l8=>
 Af l8 λb l9=>
 As l9 λxs3 l10=>
 Af l10 λb1 l11=>
 As l11 λxs4 l12=>
 As l12 λxs5 l13=>
 As l13 λxs6 l14=>
 Ai l14 λc5 l15=>
 B1 5 9 c5 λn1=>
 Ad l15<|
 Am l4 λc6 l16=>
 AE true false c6 λcs2=>
 At IntKind.i64 cs2 λ_ l17=>
 At IntKind.i64 l17 λ_ l18=>
 As l18 λ_ l19=>
 Ad l19<|
 Am l16 λc7 l20=>
 AE true false c7 λcs3=>
 At IntKind.i64 cs3 λn4 l21=>
 At IntKind.i64 l21 λn5 l22=>
 Ai l22 λc8 l23=>
 B1 6 3 c8 λn6=>
 Ad l23<|
 Am l20 λc9 l24=>
 Bn c9<|
 Am l24 λc10 l25=>
 Bn c10<|
 Am l25 λc11 l26=>
 AE true true c11 λcs4=>
 Am l26 λc12 l27=>
 AE true true c12 λcs5=>
 Ac l27<|
 br ((0+n6*3).ble cs5.length) (some ((AV.tup [AV.agg [iv n4,iv n5,AV.ls (BA n6 3 (ApG (n6*3) cs5))],bv true],[BO.set (ABlk.mk [AV.ls xs,AV.ls xs1,iv n,AV.ls xs2,bv b,AV.ls xs3,bv b1,AV.ls xs4,AV.ls xs5,AV.ls xs6,AV.sl 2 0 n1 9] true false),BO.del,BO.set (ABlk.mk cs4 true true)]))) none)
 (none)))):=by kernel_rfl
theorem Aam(A:Ar)(D:Orc)(s1:List (List AV))(s2:List (List AV))(s3:Int)(s4:List (List AV))(s5:Bool)(s6:List (List AV))(s7:Bool)(s8:List (List AV))(s9:List (List AV))(s10:List (List AV))(n0:Nat)(a0:Int)(a1:Int)(a2:List (List AV))(k0:Int)(k1:Int)(n8:Nat)(c0:List AV)(c8:List AV)(t38:List (List AV))(t39:Int)(t40:Int):Dv A D E9 SJ .n 72 0 (AW Abo 0).fst (AW Abo 0).snd [AV.ptr 0 0,AV.ptr 1 0,AV.ptr 2 0,AV.ls t38,iv t39,iv t40] [{ cells:=[AV.ls s1,AV.ls s2,iv s3,AV.ls s4,bv s5,AV.ls s6,bv s7,AV.ls s8,AV.ls s9,AV.ls s10,AV.sl 3 0 n0 9],st:=true,ex:=false },{ cells:=[iv a0,iv a1,AV.ls a2],st:=true,ex:=false },{ cells:=[iv k0,iv k1,AV.sl 4 0 n8 3],st:=true,ex:=false },{ cells:=c0,st:=true,ex:=true },{ cells:=c8,st:=true,ex:=true }] =
 br (A.lt t40 t39)
 (unI t40 λi=>
 Br t38 i λcs=>
 At IntKind.i64 cs λn l=>
 As l λxs l1=>
 As l1 λxs1 l2=>
 At IntKind.i64 l2 λn1 l3=>
 Bv l3 λs l4=>
 Bv l4 λs11 l5=>
 As l5 λxs2 l6=>
 Ad l6<|
 Ae D (Key.fn 72) [AV.ptr 0 0,AV.agg [iv n,AV.ls xs,AV.ls xs1,iv n1,sv s,sv s11,AV.ls xs2]] [ABlk.mk [AV.ls s1,AV.ls s2,iv s3,AV.ls s4,bv s5,AV.ls s6,bv s7,AV.ls s8,AV.ls s9,AV.ls s10,AV.sl 1 0 n0 9] true false,ABlk.mk c0 true true] λr o=>
 Az r λcs1=>
 Ai cs1 λc l7=>
 Au c λcs2=>
 At IntKind.i64 cs2 λn2 l8=>
 At IntKind.i64 l8 λn3 l9=>
 As l9 λxs3 l10=>
 Ad l10<|
 Af l7 λb l11=>
 Ad l11<|
 Am o λc1 l12=>
 AE true false c1 λcs3=>
 As cs3 λxs4 l13=>
 As l13 λxs5 l14=>
 At IntKind.i64 l14 λn4 l15=>
 As l15 λxs6 l16=>
 Af l16 λb1 l17=>
 As l17 λxs7 l18=>
 Af l18 λb2 l19=>
 As l19 λxs8 l20=>
 As l20 λxs9 l21=>
 As l21 λxs10 l22=>
 Ai l22 λc2 l23=>
 B1 2 9 c2 λn5=>
 Ad l23<|
 Am l12 λc3 l24=>
 Bn c3<|
 Am l24 λc4 l25=>
 AE true true c4 λcs4=>
 Ac l25<|
 br (A.not b)
 (some ((AV.tup [bv true,AV.ptr 0 0,AV.ptr 1 0,bv false],[BO.set (ABlk.mk [AV.ls xs4,AV.ls xs5,iv n4,AV.ls xs6,bv b1,AV.ls xs7,bv b2,AV.ls xs8,AV.ls xs9,AV.ls xs10,AV.sl 5 0 n5 9] true false),BO.set (ABlk.mk [iv 0,iv 0,AV.ls []] true false),BO.del,BO.del,BO.del,BO.set (ABlk.mk cs4 true true)])))
 (br (Bp (n8+1) 40) (br ((0+n8*3).ble c8.length) (Ae D (Key.lp 72 0) [AV.ptr 0 0,AV.ptr 1 0,AV.ptr 2 0,AV.ls t38,iv t39,iv (A.add IntKind.i64 t40 1)] [ABlk.mk [AV.ls xs4,AV.ls xs5,iv n4,AV.ls xs6,bv b1,AV.ls xs7,bv b2,AV.ls xs8,AV.ls xs9,AV.ls xs10,AV.sl 3 0 n5 9] true false,ABlk.mk [iv a0,iv a1,AV.ls a2] true false,ABlk.mk [iv k0,iv k1,AV.sl 4 0 (n8+1) 3] true false,ABlk.mk cs4 true true,ABlk.mk (ApK 0 (ApG (0+n8*3) c8)++[iv n2,iv n3,AV.ls xs3]) true true] λr1 o1=>
 AN 5 [0,1,2,6,9] (AH.mk [(1,ABlk.mk [iv a0,iv a1,AV.ls a2] true false),(2,ABlk.mk [iv k0,iv k1,AV.sl 9 0 (n8+1) 3] true false),(9,ABlk.mk (ApK 0 (ApG (0+n8*3) c8)++[iv n2,iv n3,AV.ls xs3]) true true),(8,ABlk.mk [iv n2,iv n3,AV.ls xs3] true true),(7,ABlk.mk [iv n2,iv n3,AV.ls xs3] true false),(6,ABlk.mk cs4 true true),(0,ABlk.mk [AV.ls xs4,AV.ls xs5,iv n4,AV.ls xs6,bv b1,AV.ls xs7,bv b2,AV.ls xs8,AV.ls xs9,AV.ls xs10,AV.sl 6 0 n5 9] true false),(5,ABlk.mk [iv n,AV.ls xs,AV.ls xs1,iv n1,sv s,sv s11,AV.ls xs2] true false)] 10 none) [0,3,4,2,1] r1 o1) none) none))
 (some ((AV.tup [iv 0,AV.ptr 0 0,AV.ptr 1 0,AV.ptr 2 0],[BO.set (ABlk.mk [AV.ls s1,AV.ls s2,iv s3,AV.ls s4,bv s5,AV.ls s6,bv s7,AV.ls s8,AV.ls s9,AV.ls s10,AV.sl 5 0 n0 9] true false),BO.set (ABlk.mk [iv a0,iv a1,AV.ls a2] true false),BO.set (ABlk.mk [iv k0,iv k1,AV.sl 6 0 n8 3] true false),BO.del,BO.del,BO.set (ABlk.mk c0 true true),BO.set (ABlk.mk c8 true true)]))):=by kernel_rfl
theorem Aov(A:Ar)(D:Orc)(s1:List (List AV))(s2:List (List AV))(s3:Int)(s4:List (List AV))(s5:Bool)(s6:List (List AV))(s7:Bool)(s8:List (List AV))(s9:List (List AV))(s10:List (List AV))(x1:Int)(x2:List (List AV))(x3:List (List AV))(x4:Int)(x5:ByteArray)(x6:ByteArray)(x7:List (List AV)):BI A D E9 Ahh .n 72 Abo [AV.ptr 0 0,AV.agg [iv x1,AV.ls x2,AV.ls x3,iv x4,sv x5,sv x6,AV.ls x7]] [{ cells:=[AV.ls s1,AV.ls s2,iv s3,AV.ls s4,bv s5,AV.ls s6,bv s7,AV.ls s8,AV.ls s9,AV.ls s10,AV.v (Value.slice none 0 0)],st:=true,ex:=false }] =
 br (A.eq x1 2)
 (Ae D (Key.fn 129) [AV.ptr 0 0,AV.agg [iv x1,AV.ls x2,AV.ls x3,iv x4,sv x5,sv x6,AV.ls x7]] [ABlk.mk [AV.ls s1,AV.ls s2,iv s3,AV.ls s4,bv s5,AV.ls s6,bv s7,AV.ls s8,AV.ls s9,AV.ls s10,AV.v (Value.slice none 0 0)] true false] λr o=>
 Az r λcs=>
 Ai cs λc l=>
 Au c λcs1=>
 Af cs1 λb l1=>
 At IntKind.i64 l1 λn l2=>
 At IntKind.i64 l2 λn1 l3=>
 At IntKind.i64 l3 λn2 l4=>
 As l4 λxs l5=>
 Af l5 λb1 l6=>
 As l6 λxs1 l7=>
 Af l7 λb2 l8=>
 As l8 λxs2 l9=>
 Ad l9<|
 Af l λb3 l10=>
 Ad l10<|
 Am o λc1 l11=>
 CO c1<|
 Ac l11<|
 br (A.not b3)
 (some ((AV.tup [AV.agg [iv 0,iv 0,AV.ls []],bv false],[BO.set (ABlk.mk [AV.ls s1,AV.ls s2,iv s3,AV.ls s4,bv s5,AV.ls s6,bv s7,AV.ls s8,AV.ls s9,AV.ls s10,AV.v (Value.slice none 0 0)] true false)])))
 (Ae D (Key.fn 130) [AV.ptr 0 0,AV.agg [bv b,iv n,iv n1,iv n2,AV.ls xs,bv b1,AV.ls xs1,bv b2,AV.ls xs2]] [ABlk.mk [AV.ls s1,AV.ls s2,iv s3,AV.ls s4,bv s5,AV.ls s6,bv s7,AV.ls s8,AV.ls s9,AV.ls s10,AV.v (Value.slice none 0 0)] true false] λr1 o1=>
 AT IntKind.i64 r1 λn3=>
 Am o1 λc2 l12=>
 AE true false c2 λcs2=>
 As cs2 λxs3 l13=>
 As l13 λxs4 l14=>
 At IntKind.i64 l14 λn4 l15=>
 As l15 λxs5 l16=>
 Af l16 λb4 l17=>
 As l17 λxs6 l18=>
 Af l18 λb5 l19=>
 As l19 λxs7 l20=>
 As l20 λxs8 l21=>
 As l21 λxs9 l22=>
 Ai l22 λc3 l23=>
 B1 1 9 c3 λn5=>
 Ad l23<|
 Am l12 λc4 l24=>
 AE true true c4 λcs3=>
 Ac l24<|
 some ((AV.tup [AV.agg [iv 2,iv n3,AV.ls []],bv true],[BO.set (ABlk.mk [AV.ls xs3,AV.ls xs4,iv n4,AV.ls xs5,bv b4,AV.ls xs6,bv b5,AV.ls xs7,AV.ls xs8,AV.ls xs9,AV.sl 1 0 n5 9] true false),BO.set (ABlk.mk cs3 true true)]))))
 (br (A.eq x1 6)
 (Ae D (Key.fn 129) [AV.ptr 0 0,AV.agg [iv x1,AV.ls x2,AV.ls x3,iv x4,sv x5,sv x6,AV.ls x7]] [ABlk.mk [AV.ls s1,AV.ls s2,iv s3,AV.ls s4,bv s5,AV.ls s6,bv s7,AV.ls s8,AV.ls s9,AV.ls s10,AV.v (Value.slice none 0 0)] true false] λr o=>
 Az r λcs=>
 Ai cs λc l=>
 Au c λcs1=>
 Af cs1 λb l1=>
 At IntKind.i64 l1 λn l2=>
 At IntKind.i64 l2 λn1 l3=>
 At IntKind.i64 l3 λn2 l4=>
 As l4 λxs l5=>
 Af l5 λb1 l6=>
 As l6 λxs1 l7=>
 Af l7 λb2 l8=>
 As l8 λxs2 l9=>
 Ad l9<|
 Af l λb3 l10=>
 Ad l10<|
 Am o λc1 l11=>
 CO c1<|
 Ac l11<|
 br (A.not b3)
 (some ((AV.tup [AV.agg [iv 0,iv 0,AV.ls []],bv false],[BO.set (ABlk.mk [AV.ls s1,AV.ls s2,iv s3,AV.ls s4,bv s5,AV.ls s6,bv s7,AV.ls s8,AV.ls s9,AV.ls s10,AV.v (Value.slice none 0 0)] true false)])))
 (Ae D (Key.fn 130) [AV.ptr 0 0,AV.agg [bv b,iv n,iv n1,iv n2,AV.ls xs,bv b1,AV.ls xs1,bv b2,AV.ls xs2]] [ABlk.mk [AV.ls s1,AV.ls s2,iv s3,AV.ls s4,bv s5,AV.ls s6,bv s7,AV.ls s8,AV.ls s9,AV.ls s10,AV.v (Value.slice none 0 0)] true false] λr1 o1=>
 AT IntKind.i64 r1 λn3=>
 Am o1 λc2 l12=>
 AE true false c2 λcs2=>
 As cs2 λxs3 l13=>
 As l13 λxs4 l14=>
 At IntKind.i64 l14 λn4 l15=>
 As l15 λxs5 l16=>
 Af l16 λb4 l17=>
 As l17 λxs6 l18=>
 Af l18 λb5 l19=>
 As l19 λxs7 l20=>
 As l20 λxs8 l21=>
 As l21 λxs9 l22=>
 Ai l22 λc3 l23=>
 B1 1 9 c3 λn5=>
 Ad l23<|
 Am l12 λc4 l24=>
 AE true true c4 λcs3=>
 Ac l24<|
 some ((AV.tup [AV.agg [iv 2,iv n3,AV.ls []],bv true],[BO.set (ABlk.mk [AV.ls xs3,AV.ls xs4,iv n4,AV.ls xs5,bv b4,AV.ls xs6,bv b5,AV.ls xs7,AV.ls xs8,AV.ls xs9,AV.sl 1 0 n5 9] true false),BO.set (ABlk.mk cs3 true true)]))))
 (Ae D (Key.lp 72 0) [AV.ptr 0 0,AV.ptr 1 0,AV.ptr 2 0,AV.ls x7,iv ↑(A1 x7),iv 0] [ABlk.mk [AV.ls s1,AV.ls s2,iv s3,AV.ls s4,bv s5,AV.ls s6,bv s7,AV.ls s8,AV.ls s9,AV.ls s10,AV.sl 3 0 0 9] true false,ABlk.mk [iv 0,iv 0,AV.ls []] true false,ABlk.mk [iv x1,iv 0,AV.sl 4 0 0 3] true false,ABlk.mk [] true true,ABlk.mk [] true true] λr o=>
 Az r λcs=>
 Ai cs λc l=>
 br (Bi 0 c)
 (Ai l λc1 l1=>
 Cp 0 0 c1<|
 Ai l1 λc2 l2=>
 Cp 1 0 c2<|
 Af l2 λb l3=>
 Ad l3<|
 Am o λc3 l4=>
 AE true false c3 λcs1=>
 As cs1 λxs l5=>
 As l5 λxs1 l6=>
 At IntKind.i64 l6 λn l7=>
 As l7 λxs2 l8=>
 Af l8 λb1 l9=>
 As l9 λxs3 l10=>
 Af l10 λb2 l11=>
 As l11 λxs4 l12=>
 As l12 λxs5 l13=>
 As l13 λxs6 l14=>
 Ai l14 λc4 l15=>
 B1 5 9 c4 λn1=>
 Ad l15<|
 Am l4 λc5 l16=>
 AE true false c5 λcs2=>
 At IntKind.i64 cs2 λn2 l17=>
 At IntKind.i64 l17 λn3 l18=>
 As l18 λxs7 l19=>
 Ad l19<|
 Am l16 λc6 l20=>
 Bn c6<|
 Am l20 λc7 l21=>
 Bn c7<|
 Am l21 λc8 l22=>
 Bn c8<|
 Am l22 λc9 l23=>
 AE true true c9 λcs3=>
 Ac l23<|
 some ((AV.tup [AV.agg [iv n2,iv n3,AV.ls xs7],bv b],[BO.set (ABlk.mk [AV.ls xs,AV.ls xs1,iv n,AV.ls xs2,bv b1,AV.ls xs3,bv b2,AV.ls xs4,AV.ls xs5,AV.ls xs6,AV.sl 1 0 n1 9] true false),BO.set (ABlk.mk cs3 true true)])))
 (br (Bi 1 c)
 (Ai l λc1 l1=>
 Cp 0 0 c1<|
 Ai l1 λc2 l2=>
 Cp 1 0 c2<|
 Ai l2 λc3 l3=>
 Cp 2 0 c3<|
 Ad l3<|
 Am o λc4 l4=>
 AE true false c4 λcs1=>
 As cs1 λxs l5=>
 As l5 λxs1 l6=>
 At IntKind.i64 l6 λn l7=>
 As l7 λxs2 l8=>
 Af l8 λb l9=>
 As l9 λxs3 l10=>
 Af l10 λb1 l11=>
 As l11 λxs4 l12=>
 As l12 λxs5 l13=>
 As l13 λxs6 l14=>
 Ai l14 λc5 l15=>
 B1 5 9 c5 λn1=>
 Ad l15<|
 Am l4 λc6 l16=>
 AE true false c6 λcs2=>
 At IntKind.i64 cs2 λ_ l17=>
 At IntKind.i64 l17 λ_ l18=>
 As l18 λ_ l19=>
 Ad l19<|
 Am l16 λc7 l20=>
 AE true false c7 λcs3=>
 At IntKind.i64 cs3 λn4 l21=>
 At IntKind.i64 l21 λn5 l22=>
 Ai l22 λc8 l23=>
 B1 6 3 c8 λn6=>
 Ad l23<|
 Am l20 λc9 l24=>
 Bn c9<|
 Am l24 λc10 l25=>
 Bn c10<|
 Am l25 λc11 l26=>
 AE true true c11 λcs4=>
 Am l26 λc12 l27=>
 AE true true c12 λcs5=>
 Ac l27<|
 br ((0+n6*3).ble cs5.length) (some ((AV.tup [AV.agg [iv n4,iv n5,AV.ls (BA n6 3 (ApG (n6*3) cs5))],bv true],[BO.set (ABlk.mk [AV.ls xs,AV.ls xs1,iv n,AV.ls xs2,bv b,AV.ls xs3,bv b1,AV.ls xs4,AV.ls xs5,AV.ls xs6,AV.sl 1 0 n1 9] true false),BO.set (ABlk.mk cs4 true true)]))) none)
 (none)))):=by kernel_rfl
theorem Aot(A:Ar)(D:Orc)(x0_0:Int)(x0_1:List (List AV))(x0_2:List (List AV))(x0_3:Int)(x0_4:ByteArray)(x0_5:ByteArray)(x0_6:List (List AV))(x1_0:List (List AV))(x1_1:List (List AV))(x1_2:Int)(x1_3:List (List AV))(x1_4:Bool)(x1_5:List (List AV))(x1_6:Bool)(x1_7:List (List AV))(x1_8:List (List AV))(x1_9:List (List AV)):BI A D E9 AkZ .n 34 Ajt [AV.agg [iv x0_0,AV.ls x0_1,AV.ls x0_2,iv x0_3,sv x0_4,sv x0_5,AV.ls x0_6],AV.agg [AV.ls x1_0,AV.ls x1_1,iv x1_2,AV.ls x1_3,bv x1_4,AV.ls x1_5,bv x1_6,AV.ls x1_7,AV.ls x1_8,AV.ls x1_9]] [] =
 Ae D (Key.fn 36) [AV.agg [iv x0_0,AV.ls x0_1,AV.ls x0_2,iv x0_3,sv x0_4,sv x0_5,AV.ls x0_6]] [] λr o=>
 AR r λb=>
 Ac o<|
 br b
 (Ae D (Key.fn 72) [AV.ptr 0 0,AV.agg [iv x0_0,AV.ls x0_1,AV.ls x0_2,iv x0_3,sv x0_4,sv x0_5,AV.ls x0_6]] [ABlk.mk [AV.ls x1_0,AV.ls x1_1,iv x1_2,AV.ls x1_3,bv x1_4,AV.ls x1_5,bv x1_6,AV.ls x1_7,AV.ls x1_8,AV.ls x1_9,AV.v (Value.slice none 0 0)] true false] λr1 o1=>
 Az r1 λcs=>
 Ai cs λc l=>
 Au c λcs1=>
 At IntKind.i64 cs1 λn l1=>
 At IntKind.i64 l1 λn1 l2=>
 As l2 λxs l3=>
 Ad l3<|
 Af l λb1 l4=>
 Ad l4<|
 Am o1 λc1 l5=>
 AE true false c1 λcs2=>
 As cs2 λ_ l6=>
 As l6 λ_ l7=>
 At IntKind.i64 l7 λ_ l8=>
 As l8 λ_ l9=>
 Af l9 λ_ l10=>
 As l10 λ_ l11=>
 Af l11 λ_ l12=>
 As l12 λ_ l13=>
 As l13 λ_ l14=>
 As l14 λ_ l15=>
 Ai l15 λc2 l16=>
 B1 1 9 c2 λn3=>
 Ad l16<|
 Am l5 λc3 l17=>
 AE true true c3 λcs3=>
 Ac l17<|
 br (A.not b1)
 (some ((AV.tup [AV.agg [iv 0,iv 0,AV.ls []],AV.ls [],bv false],[])))
 (br ((0+n3*9).ble cs3.length) (some ((AV.tup [AV.agg [iv n,iv n1,AV.ls xs],AV.ls (BA n3 9 (ApG (n3*9) cs3)),bv true],[]))) none))
 (some ((AV.tup [AV.agg [iv 0,iv 0,AV.ls []],AV.ls [],bv false],[]))):=by kernel_rfl
theorem Aos(A:Ar)(D:Orc)(x0_0:Int)(x0_1:List (List AV))(x0_2:List (List AV))(x0_3:Int)(x0_4:ByteArray)(x0_5:ByteArray)(x0_6:List (List AV))(x1_0:List (List AV))(x1_1:List (List AV))(x1_2:Int)(x1_3:List (List AV))(x1_4:Bool)(x1_5:List (List AV))(x1_6:Bool)(x1_7:List (List AV))(x1_8:List (List AV))(x1_9:List (List AV)):BI A D E9 Ahg .n 34 Ajt [AV.agg [iv x0_0,AV.ls x0_1,AV.ls x0_2,iv x0_3,sv x0_4,sv x0_5,AV.ls x0_6],AV.agg [AV.ls x1_0,AV.ls x1_1,iv x1_2,AV.ls x1_3,bv x1_4,AV.ls x1_5,bv x1_6,AV.ls x1_7,AV.ls x1_8,AV.ls x1_9]] [] =
 Ae D (Key.fn 36) [AV.agg [iv x0_0,AV.ls x0_1,AV.ls x0_2,iv x0_3,sv x0_4,sv x0_5,AV.ls x0_6]] [] λr o=>
 AR r λb=>
 Ac o<|
 br b
 (Ae D (Key.fn 72) [AV.ptr 0 0,AV.agg [iv x0_0,AV.ls x0_1,AV.ls x0_2,iv x0_3,sv x0_4,sv x0_5,AV.ls x0_6]] [ABlk.mk [AV.ls x1_0,AV.ls x1_1,iv x1_2,AV.ls x1_3,bv x1_4,AV.ls x1_5,bv x1_6,AV.ls x1_7,AV.ls x1_8,AV.ls x1_9,AV.v (Value.slice none 0 0)] true false] λr1 o1=>
 Az r1 λcs=>
 Ai cs λc l=>
 Au c λcs1=>
 At IntKind.i64 cs1 λn l1=>
 At IntKind.i64 l1 λn1 l2=>
 As l2 λxs l3=>
 Ad l3<|
 Af l λb1 l4=>
 Ad l4<|
 Am o1 λc1 l5=>
 AE true false c1 λcs2=>
 As cs2 λ_ l6=>
 As l6 λ_ l7=>
 At IntKind.i64 l7 λ_ l8=>
 As l8 λ_ l9=>
 Af l9 λ_ l10=>
 As l10 λ_ l11=>
 Af l11 λ_ l12=>
 As l12 λ_ l13=>
 As l13 λ_ l14=>
 As l14 λ_ l15=>
 Ai l15 λc2 l16=>
 TR (Value.slice none 0 0) c2<|
 Ad l16<|
 Ac l5<|
 br (A.not b1)
 (some ((AV.tup [AV.agg [iv 0,iv 0,AV.ls []],AV.ls [],bv false],[])))
 (some ((AV.tup [AV.agg [iv n,iv n1,AV.ls xs],AV.ls [],bv true],[]))))
 (some ((AV.tup [AV.agg [iv 0,iv 0,AV.ls []],AV.ls [],bv false],[]))):=by kernel_rfl
end
end Go.Proofs.YtlmhajfbpplpoaaGreat
