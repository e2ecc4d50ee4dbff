/- Functions of the program as trees: what a call com -/
import Derived.Test.YtlmhajfbpplpoaaGreatOAS
set_option linter.all false
open List renaming drop->ApK,take->ApG
namespace Go.Proofs.YtlmhajfbpplpoaaGreat
noncomputable section
open Go.RowKit
def AlE:Be:=[⟨36,[true,false,false,true,false,false,false,false,false,true,true,true],[],[],[(1,([true,false,false,true],([],[])))]⟩,⟨36,[false,false,false,false,false,false,true,false,false,false,false,false,false,false,false,false,false,false,false,false,false,false,false,false,false,true,true,true],[(6,3)],[],[(3,([false,false,false,false,false,false,true],([],[])))]⟩]
def PW:MFn:=Bx AlE 250
def Ma:Hnt:=⟨[(263,(.sl 0 3,[.row true]))],[(0,[(1,([.ls,.int .i64],[]))]),(1,[(3,([.sl 1 3],[.del,.row true]))])],[(13,[.ls]),(14,[.ls]),(29,[.ls]),(30,[.ls])]⟩
def AhO:MFn:=Bx [] 170
def AgK:Hnt:=⟨[(155,(.agg [.bool,.ls],[]))],[],[(3,[.bool,.ls])]⟩
def Ah6:MFn:=Bx [] 223
def Ag0:Hnt:=⟨[(87,(.agg [.bool,.ls],[])),(89,(.agg [.ls,.bool,.ls],[])),(250,(.ls,[]))],[],[(6,[.ls]),(8,[.ls]),(12,[.bool,.ls]),(14,[.bool,.ls])]⟩
def Ah7:MFn:=Bx [] 224
def Ag1:Hnt:=⟨[(84,(.agg [.bool,.ls],[])),(251,(.agg [.ls,.bool,.ls],[]))],[],[(3,[.ls,.bool,.ls])]⟩
def AlF:Be:=[⟨35,[false,false,false,true,true,true,false,false,false,false,false,false,false,false,true,true,true],[(1000005,3)],[3,4],[(1,([false,false,false,false,true,true],([],[3])))]⟩]
def Wq:MFn:=Bx AlF 251
def SE:Hnt:=⟨[(89,(.agg [.ls,.bool,.ls],[])),(264,(.agg [.bool,.ls],[]))],[(0,[(1,([.ptr 1 0,.ptr 2 0],[.del,.box [.ls,.bool,.ls],.box [.sl 4 3,.bool,.ls],.del,.row true]))])],[(9,[.bool,.ls]),(10,[.bool,.ls]),(14,[.ls]),(18,[.int .i64,.bool,.ls]),(19,[.int .i64,.bool,.ls]),(21,[.ls]),(23,[.int .i64]),(25,[.bool,.ls]),(26,[.bool,.ls]),(33,[.ls,.bool,.ls])]⟩
def AhR:MFn:=Bx [] 173
def AgN:Hnt:=⟨[(223,(.agg [.ls,.bool,.ls],[])),(224,(.agg [.ls,.bool,.ls],[]))],[],[(5,[.ls,.bool,.ls]),(6,[.ls,.bool,.ls])]⟩
def AhQ:MFn:=Bx [] 172
def AgM:Hnt:=⟨[(89,(.agg [.ls,.bool,.ls],[]))],[],[(3,[.ls,.bool,.ls])]⟩
def AhS:MFn:=Bx [] 174
def AgO:Hnt:=⟨[(89,(.agg [.ls,.bool,.ls],[]))],[],[(3,[.ls,.bool,.ls])]⟩
def Mt:List (Nat × MFn):=[(250,PW),(170,AhO),(223,Ah6),(224,Ah7),(251,Wq),(173,AhR),(172,AhQ),(174,AhS)]
theorem Aob(A:Ar)(D:Orc)(x0:List (List AV)):BI A D Al Ma .n 250 PW [AV.ls x0] [] =
 Ae D (Key.lp 250 0) [AV.ls x0,iv 0,AV.ls x0,iv ↑(A1 x0),iv 0] [] λr o=>
 Az r λcs=>
 Ai cs λc l=>
 br (Bi 1 c)
 (As l λxs l1=>
 At IntKind.i64 l1 λn l2=>
 Ad l2<|
 Ac o<|
 Ae D (Key.fn 263) [AV.v (Value.slice none 0 0),iv n] [] λr1 o1=>
 B1 0 3 r1 λn1=>
 Am o1 λc1 l3=>
 AE true true c1 λcs1=>
 Ac l3<|
 Ae D (Key.lp 250 1) [AV.sl 0 0 n1 3,AV.ls xs,iv ↑(A1 xs),iv 0] [ABlk.mk cs1 true true] λr2 o2=>
 Az r2 λcs2=>
 Ai cs2 λc2 l4=>
 br (Bi 3 c2)
 (Ai l4 λc3 l5=>
 B1 1 3 c3 λn2=>
 Ad l5<|
 Am o2 λc4 l6=>
 Bn c4<|
 Am l6 λc5 l7=>
 AE true true c5 λcs3=>
 Ac l7<|
 br ((0+n2*3).ble cs3.length) (some ((AV.ls (BA n2 3 (ApG (n2*3) cs3)),[]))) none)
 (none))
 (none):=by kernel_rfl
theorem Aae(A:Ar)(D:Orc)(t0:List (List AV))(t3:Int)(t9:List (List AV))(t10:Int)(t11:Int):Dv A D Al Ma .n 250 0 (AW PW 0).fst (AW PW 0).snd [AV.ls t0,iv t3,AV.ls t9,iv t10,iv t11] [] =
 br (A.lt t11 t10)
 (unI t11 λi=>
 Br t9 i λcs=>
 As cs λxs l=>
 Ad l<|
 br (A.lt (A.add IntKind.i64 t3 ↑(A1 xs)) 0)
 (none)
 (Ae D (Key.lp 250 0) [AV.ls t0,iv (A.add IntKind.i64 t3 ↑(A1 xs)),AV.ls t9,iv t10,iv (A.add IntKind.i64 t11 1)] [] λr o=>
 AN 0 [] (AH.mk [] 0 none) [] r o))
 (some ((AV.tup [iv 0,AV.ls t0,iv t3],[]))):=by kernel_rfl
theorem Aaf(A:Ar)(D:Orc)(n6:Nat)(c6:List AV)(t25:List (List AV))(t26:Int)(t27:Int):Dv A D Al Ma .n 250 1 (AW PW 1).fst (AW PW 1).snd [AV.sl 0 0 n6 3,AV.ls t25,iv t26,iv t27] [{ cells:=c6,st:=true,ex:=true }] =
 br (A.lt t27 t26)
 (unI t27 λi=>
 Br t25 i λcs=>
 As cs λxs l=>
 Ad l<|
 br (Gv 3 xs) (br ((A1 xs).beq 0)
 (Ae D (Key.lp 250 1) [AV.sl 0 0 n6 3,AV.ls t25,iv t26,iv (A.add IntKind.i64 t27 1)] [ABlk.mk c6 true true] λr o=>
 AN 1 [0] (AH.mk [(0,ABlk.mk c6 true true)] 1 none) [] r o)
 (br (Kd (IQ xs)) (br (Bp (n6+A1 xs) 40) (br ((0+n6*3).ble c6.length) (Ae D (Key.lp 250 1) [AV.sl 0 0 (n6+A1 xs) 3,AV.ls t25,iv t26,iv (A.add IntKind.i64 t27 1)] [ABlk.mk (ApK 0 (ApG (0+n6*3) c6)++IQ xs) true true] λr o=>
 AN 1 [1] (AH.mk [(1,ABlk.mk (ApK 0 (ApG (0+n6*3) c6)++IQ xs) true true)] 2 none) [0] r o) none) none) none)) none)
 (some ((AV.tup [iv 2,AV.sl 1 0 n6 3],[BO.del,BO.set (ABlk.mk c6 true true)]))):=by kernel_rfl
theorem Anx(A:Ar)(D:Orc)(x0_0:Bool)(x0_1:List (List AV)):BI A D Al AgK .n 170 AhO [AV.agg [bv x0_0,AV.ls x0_1]] [] =
 Ae D (Key.fn 155) [AV.agg [bv x0_0,AV.ls x0_1]] [] λr o=>
 Au r λcs=>
 Af cs λb l=>
 As l λxs l1=>
 Ad l1<|
 Ac o<|
 some ((AV.agg [AV.ls [],bv b,AV.ls xs],[])):=by kernel_rfl
theorem An0(A:Ar)(D:Orc)(x0_0:List (List AV))(x0_1:Bool)(x0_2:List (List AV))(x1_0:List (List AV))(x1_1:Bool)(x1_2:List (List AV)):BI A D Al Ag0 .n 223 Ah6 [AV.agg [AV.ls x0_0,bv x0_1,AV.ls x0_2],AV.agg [AV.ls x1_0,bv x1_1,AV.ls x1_2]] [] =
 Ae D (Key.fn 250) [AV.ls [[AV.ls x0_0],[AV.ls x1_0]]] [] λr o=>
 BX r λxs=>
 Ac o<|
 Ae D (Key.fn 87) [AV.agg [bv x0_1,AV.ls x0_2],AV.agg [bv x1_1,AV.ls x1_2]] [] λr1 o1=>
 Au r1 λcs=>
 Af cs λb l=>
 As l λxs1 l1=>
 Ad l1<|
 Ac o1<|
 Ae D (Key.fn 89) [AV.agg [AV.ls xs,bv b,AV.ls xs1]] [] λr2 o2=>
 Au r2 λcs1=>
 As cs1 λxs2 l2=>
 Af l2 λb1 l3=>
 As l3 λxs3 l4=>
 Ad l4<|
 Ac o2<|
 some ((AV.agg [AV.ls xs2,bv b1,AV.ls xs3],[])):=by kernel_rfl
theorem An1(A:Ar)(D:Orc)(x0_0:List (List AV))(x0_1:Bool)(x0_2:List (List AV)):BI A D Al Ag1 .n 224 Ah7 [AV.agg [AV.ls x0_0,bv x0_1,AV.ls x0_2]] [] =
 Ae D (Key.fn 84) [iv (-1)] [] λr o=>
 Au r λcs=>
 Af cs λb l=>
 As l λxs l1=>
 Ad l1<|
 Ac o<|
 Ae D (Key.fn 251) [AV.agg [AV.ls x0_0,bv x0_1,AV.ls x0_2],AV.agg [bv b,AV.ls xs]] [] λr1 o1=>
 Au r1 λcs1=>
 As cs1 λxs1 l2=>
 Af l2 λb1 l3=>
 As l3 λxs2 l4=>
 Ad l4<|
 Ac o1<|
 some ((AV.agg [AV.ls xs1,bv b1,AV.ls xs2],[])):=by kernel_rfl
theorem Aoc(A:Ar)(D:Orc)(x0_0:List (List AV))(x0_1:Bool)(x0_2:List (List AV))(x1_0:Bool)(x1_1:List (List AV)):BI A D Al SE .n 251 Wq [AV.agg [AV.ls x0_0,bv x0_1,AV.ls x0_2],AV.agg [bv x1_0,AV.ls x1_1]] [] =
 Ae D (Key.fn 264) [AV.agg [bv x0_1,AV.ls x0_2],AV.agg [bv x1_0,AV.ls x1_1]] [] λr o=>
 Au r λcs=>
 Af cs λb l=>
 As l λxs l1=>
 Ad l1<|
 Ac o<|
 Ae D (Key.lp 251 0) [AV.ptr 0 0,AV.ptr 1 0,AV.ptr 2 0,AV.ls x0_0,iv ↑(A1 x0_0),iv 0] [ABlk.mk [bv x1_0,AV.ls x1_1] true false,ABlk.mk [AV.ls [],bv false,AV.ls []] true false,ABlk.mk [AV.sl 3 0 0 3,bv b,AV.ls xs] true false,ABlk.mk [] true true] λr1 o1=>
 Az r1 λcs1=>
 Ai cs1 λc l2=>
 br (Bi 1 c)
 (Ai l2 λc1 l3=>
 Cp 1 0 c1<|
 Ai l3 λc2 l4=>
 Cp 2 0 c2<|
 Ad l4<|
 Am o1 λc3 l5=>
 Bn c3<|
 Am l5 λc4 l6=>
 AE true false c4 λcs2=>
 As cs2 λ_ l7=>
 Af l7 λ_ l8=>
 As l8 λ_ l9=>
 Ad l9<|
 Am l6 λc5 l10=>
 AE true false c5 λcs3=>
 Ai cs3 λc6 l11=>
 B1 4 3 c6 λn=>
 Af l11 λb2 l12=>
 As l12 λxs3 l13=>
 Ad l13<|
 Am l10 λc7 l14=>
 Bn c7<|
 Am l14 λc8 l15=>
 AE true true c8 λcs4=>
 Ac l15<|
 br ((0+n*3).ble cs4.length) (Ae D (Key.fn 89) [AV.agg [AV.ls (BA n 3 (ApG (n*3) cs4)),bv b2,AV.ls xs3]] [] λr2 o2=>
 Au r2 λcs5=>
 As cs5 λxs4 l16=>
 Af l16 λb3 l17=>
 As l17 λxs5 l18=>
 Ad l18<|
 Ac o2<|
 some ((AV.agg [AV.ls xs4,bv b3,AV.ls xs5],[]))) none)
 (none):=by kernel_rfl
theorem Aag(A:Ar)(D:Orc)(i0:Bool)(i1:List (List AV))(r0:List (List AV))(r1:Bool)(r2:List (List AV))(n5:Nat)(k1:Bool)(k2:List (List AV))(c5:List AV)(t14:List (List AV))(t15:Int)(t16:Int):Dv A D Al SE .n 251 0 (AW Wq 0).fst (AW Wq 0).snd [AV.ptr 0 0,AV.ptr 1 0,AV.ptr 2 0,AV.ls t14,iv t15,iv t16] [{ cells:=[bv i0,AV.ls i1],st:=true,ex:=false },{ cells:=[AV.ls r0,bv r1,AV.ls r2],st:=true,ex:=false },{ cells:=[AV.sl 3 0 n5 3,bv k1,AV.ls k2],st:=true,ex:=false },{ cells:=c5,st:=true,ex:=true }] =
 br (A.lt t16 t15)
 (unI t16 λi=>
 Br t14 i λcs=>
 At IntKind.i64 cs λn l=>
 Af l λb l1=>
 As l1 λxs l2=>
 Ad l2<|
 Ae D (Key.fn 264) [AV.agg [bv b,AV.ls xs],AV.agg [bv i0,AV.ls i1]] [] λr o=>
 Au r λcs1=>
 Af cs1 λb1 l3=>
 As l3 λxs1 l4=>
 Ad l4<|
 Ac o<|
 br (Bp (n5+1) 40) (br ((0+n5*3).ble c5.length) (Ae D (Key.lp 251 0) [AV.ptr 0 0,AV.ptr 1 0,AV.ptr 2 0,AV.ls t14,iv t15,iv (A.add IntKind.i64 t16 1)] [ABlk.mk [bv i0,AV.ls i1] true false,ABlk.mk [AV.ls r0,bv r1,AV.ls r2] true false,ABlk.mk [AV.sl 3 0 (n5+1) 3,bv k1,AV.ls k2] true false,ABlk.mk (ApK 0 (ApG (0+n5*3) c5)++[iv n,bv b1,AV.ls xs1]) true true] λr3 o1=>
 AN 4 [0,1,2,6] (AH.mk [(1,ABlk.mk [AV.ls r0,bv r1,AV.ls r2] true false),(0,ABlk.mk [bv i0,AV.ls i1] true false),(2,ABlk.mk [AV.sl 6 0 (n5+1) 3,bv k1,AV.ls k2] true false),(6,ABlk.mk (ApK 0 (ApG (0+n5*3) c5)++[iv n,bv b1,AV.ls xs1]) true true),(5,ABlk.mk [iv n,bv b1,AV.ls xs1] true true),(4,ABlk.mk [iv n,bv b,AV.ls xs] true false)] 7 none) [3,2,0,1] r3 o1) none) none)
 (some ((AV.tup [iv 0,AV.ptr 1 0,AV.ptr 2 0],[BO.del,BO.set (ABlk.mk [AV.ls r0,bv r1,AV.ls r2] true false),BO.set (ABlk.mk [AV.sl 4 0 n5 3,bv k1,AV.ls k2] true false),BO.del,BO.set (ABlk.mk c5 true true)]))):=by kernel_rfl
theorem AnB(A:Ar)(D:Orc)(x0_0:List (List AV))(x0_1:Bool)(x0_2:List (List AV))(x1_0:List (List AV))(x1_1:Bool)(x1_2:List (List AV)):BI A D Al AgN .n 173 AhR [AV.agg [AV.ls x0_0,bv x0_1,AV.ls x0_2],AV.agg [AV.ls x1_0,bv x1_1,AV.ls x1_2]] [] =
 Ae D (Key.fn 224) [AV.agg [AV.ls x1_0,bv x1_1,AV.ls x1_2]] [] λr o=>
 Au r λcs=>
 As cs λxs l=>
 Af l λb l1=>
 As l1 λxs1 l2=>
 Ad l2<|
 Ac o<|
 Ae D (Key.fn 223) [AV.agg [AV.ls x0_0,bv x0_1,AV.ls x0_2],AV.agg [AV.ls xs,bv b,AV.ls xs1]] [] λr1 o1=>
 Au r1 λcs1=>
 As cs1 λxs2 l3=>
 Af l3 λb1 l4=>
 As l4 λxs3 l5=>
 Ad l5<|
 Ac o1<|
 some ((AV.agg [AV.ls xs2,bv b1,AV.ls xs3],[])):=by kernel_rfl
theorem AnA(A:Ar)(D:Orc)(x0_0:List (List AV))(x0_1:Bool)(x0_2:List (List AV)):BI A D Al AgM .n 172 AhQ [AV.agg [AV.ls x0_0,bv x0_1,AV.ls x0_2]] [] =
 Ae D (Key.fn 89) [AV.agg [AV.ls x0_0,bv x0_1,AV.ls x0_2]] [] λr o=>
 Au r λcs=>
 As cs λxs l=>
 Af l λb l1=>
 As l1 λxs1 l2=>
 Ad l2<|
 Ac o<|
 some ((AV.agg [AV.ls xs,bv b,AV.ls xs1,bv true],[])):=by kernel_rfl
theorem AnC(A:Ar)(D:Orc)(x0_0:List (List AV))(x0_1:Bool)(x0_2:List (List AV)):BI A D Al AgO .n 174 AhS [AV.agg [AV.ls x0_0,bv x0_1,AV.ls x0_2]] [] =
 Ae D (Key.fn 89) [AV.agg [AV.ls x0_0,bv x0_1,AV.ls x0_2]] [] λr o=>
 Au r λcs=>
 As cs λxs l=>
 Af l λb l1=>
 As l1 λxs1 l2=>
 Ad l2<|
 Ac o<|
 some ((AV.agg [AV.ls xs,bv b,AV.ls xs1,bv false],[])):=by kernel_rfl
def Ah5:MFn:=Bx [] 222
def AgZ:Hnt:=⟨[(89,(.agg [.ls,.bool,.ls],[]))],[],[(4,[.ls,.bool,.ls]),(7,[.bool])]⟩
def AhP:MFn:=Bx [] 171
def AgL:Hnt:=⟨[(222,(.agg [.ls,.bool,.ls,.bool],[]))],[],[(3,[.ls,.bool,.ls,.bool])]⟩
def Amj:MFn:=Bx [] 64
def Ak8:Hnt:=⟨[],[],[]⟩
def Ah8:MFn:=Bx [] 225
def Ag2:Hnt:=⟨[],[],[(4,[.int .i64]),(9,[.ls]),(13,[.ls]),(15,[.ls])]⟩
def AhT:MFn:=Bx [] 175
def AgP:Hnt:=⟨[(64,(.agg [.int .i64,.ls,.bool,.ls,.bool,.ls],[])),(171,(.agg [.int .i64,.ls,.bool,.ls,.bool,.ls],[])),(176,(.ls,[])),(225,(.ls,[]))],[],[(4,[.int .i64]),(11,[.ls,.bool,.ls,.bool]),(18,[.int .i64]),(19,[.int .i64,.ls,.bool,.ls,.bool,.ls])]⟩
def Alm:Be:=[⟨19,[false,false,false,true,false,false,true,true,true],[(3,6)],[],[(1,([false,false,false,true],([],[])))]⟩]
def Wf:MFn:=Bx Alm 176
def St:Hnt:=⟨[(175,(.agg [.int .i64,.ls,.bool,.ls,.bool,.ls],[]))],[(0,[(1,([.sl 1 6],[.del,.row true]))])],[(10,[.int .i64,.ls,.bool,.ls,.bool,.ls]),(11,[.int .i64,.ls,.bool,.ls,.bool,.ls]),(13,[.int .i64,.ls,.bool,.ls,.bool,.ls])]⟩
def Ahs:MFn:=Bx [] 113
def Agp:Hnt:=⟨[(175,(.agg [.int .i64,.ls,.bool,.ls,.bool,.ls],[]))],[],[(3,[.int .i64,.ls,.bool,.ls,.bool,.ls])]⟩
def Aht:MFn:=Bx [] 114
def Agq:Hnt:=⟨[(176,(.ls,[]))],[],[]⟩
def Ahu:MFn:=Bx [] 115
def Agr:Hnt:=⟨[(176,(.ls,[]))],[],[]⟩
def Ahr:MFn:=Bx [] 112
def L7:Hnt:=⟨[(64,(.agg [.int .i64,.ls,.bool,.ls,.bool,.ls],[])),(84,(.agg [.bool,.ls],[])),(112,(.agg [.int .i64,.ls,.bool,.ls,.bool,.ls],[])),(113,(.agg [.int .i64,.ls,.bool,.ls,.bool,.ls],[])),(170,(.agg [.ls,.bool,.ls],[])),(171,(.agg [.int .i64,.ls,.bool,.ls,.bool,.ls],[])),(172,(.agg [.ls,.bool,.ls,.bool],[])),(173,(.agg [.ls,.bool,.ls],[])),(174,(.agg [.ls,.bool,.ls,.bool],[]))],[],[(13,[.ls,.bool,.ls]),(14,[.ls,.bool,.ls]),(20,[.ls,.bool,.ls]),(21,[.ls,.bool,.ls]),(26,[.ls,.bool,.ls]),(27,[.ls,.bool,.ls]),(29,[.ls,.bool,.ls]),(35,[.ls,.bool,.ls]),(36,[.ls,.bool,.ls]),(42,[.ls,.bool,.ls]),(43,[.ls,.bool,.ls]),(47,[.ls,.bool,.ls]),(48,[.ls,.bool,.ls])]⟩
def Mr:List (Nat × MFn):=[(222,Ah5),(171,AhP),(64,Amj),(225,Ah8),(175,AhT),(176,Wf),(113,Ahs),(114,Aht),(115,Ahu),(112,Ahr)]
theorem AnZ(A:Ar)(D:Orc)(x0_0:List (List AV))(x0_1:Bool)(x0_2:List (List AV))(x0_3:Bool):BI A D Al AgZ .n 222 Ah5 [AV.agg [AV.ls x0_0,bv x0_1,AV.ls x0_2,bv x0_3]] [] =
 Ae D (Key.fn 89) [AV.agg [AV.ls x0_0,bv x0_1,AV.ls x0_2]] [] λr o=>
 Au r λcs=>
 As cs λxs l=>
 Af l λb l1=>
 As l1 λxs1 l2=>
 Ad l2<|
 Ac o<|
 some ((AV.agg [AV.ls xs,bv b,AV.ls xs1,bv x0_3],[])):=by kernel_rfl
theorem Anz(A:Ar)(D:Orc)(x0_0:List (List AV))(x0_1:Bool)(x0_2:List (List AV))(x0_3:Bool):BI A D Al AgL .n 171 AhP [AV.agg [AV.ls x0_0,bv x0_1,AV.ls x0_2,bv x0_3]] [] =
 Ae D (Key.fn 222) [AV.agg [AV.ls x0_0,bv x0_1,AV.ls x0_2,bv x0_3]] [] λr o=>
 Au r λcs=>
 As cs λxs l=>
 Af l λb l1=>
 As l1 λxs1 l2=>
 Af l2 λb1 l3=>
 Ad l3<|
 Ac o<|
 some ((AV.agg [iv 2,AV.ls xs,bv b,AV.ls xs1,bv b1,AV.ls []],[])):=by kernel_rfl
theorem e64(A:Ar)(D:Orc)(x0:Bool):BI A D Al Ak8 .n 64 Amj [bv x0] [] =
 br x0
 (some ((AV.agg [iv 0,AV.ls [],bv false,AV.ls [],bv false,AV.ls []],[])))
 (some ((AV.agg [iv 1,AV.ls [],bv false,AV.ls [],bv false,AV.ls []],[]))):=by kernel_rfl
theorem An2(A:Ar)(D:Orc)(x0_0:Int)(x0_1:List (List AV))(x0_2:Bool)(x0_3:List (List AV))(x0_4:Bool)(x0_5:List (List AV)):BI A D Al Ag2 .n 225 Ah8 [AV.agg [iv x0_0,AV.ls x0_1,bv x0_2,AV.ls x0_3,bv x0_4,AV.ls x0_5]] [] =
 br (A.eq x0_0 4)
 (some ((AV.ls x0_5,[])))
 (br (A.eq x0_0 5)
 (some ((AV.ls x0_5,[])))
 (br (A.eq x0_0 3)
 (unI (A.min (↑(A1 x0_5)) 1) λi=>
 br (J3 0 i (A1 x0_5)) (br (Gv 6 x0_5) (some ((AV.ls (I0 (I9 x0_5 i) 0),[]))) none) none)
 (some ((AV.ls [],[]))))):=by kernel_rfl
theorem AnD(A:Ar)(D:Orc)(x0_0:Int)(x0_1:List (List AV))(x0_2:Bool)(x0_3:List (List AV))(x0_4:Bool)(x0_5:List (List AV)):BI A D Al AgP .n 175 AhT [AV.agg [iv x0_0,AV.ls x0_1,bv x0_2,AV.ls x0_3,bv x0_4,AV.ls x0_5]] [] =
 br (A.eq x0_0 0)
 (Ae D (Key.fn 64) [bv true] [] λr o=>
 Au r λcs=>
 At IntKind.i64 cs λn l=>
 As l λxs l1=>
 Af l1 λb l2=>
 As l2 λxs1 l3=>
 Af l3 λb1 l4=>
 As l4 λxs2 l5=>
 Ad l5<|
 Ac o<|
 some ((AV.agg [iv n,AV.ls xs,bv b,AV.ls xs1,bv b1,AV.ls xs2],[])))
 (br (A.eq x0_0 2)
 (Ae D (Key.fn 171) [AV.agg [AV.ls x0_1,bv x0_2,AV.ls x0_3,bv x0_4]] [] λr o=>
 Au r λcs=>
 At IntKind.i64 cs λn l=>
 As l λxs l1=>
 Af l1 λb l2=>
 As l2 λxs1 l3=>
 Af l3 λb1 l4=>
 As l4 λxs2 l5=>
 Ad l5<|
 Ac o<|
 some ((AV.agg [iv n,AV.ls xs,bv b,AV.ls xs1,bv b1,AV.ls xs2],[])))
 (br (A.eq x0_0 3)
 (Ae D (Key.fn 225) [AV.agg [iv x0_0,AV.ls x0_1,bv x0_2,AV.ls x0_3,bv x0_4,AV.ls x0_5]] [] λr o=>
 BX r λxs=>
 Ac o<|
 Ae D (Key.fn 176) [AV.ls xs] [] λr1 o1=>
 BX r1 λxs1=>
 Ac o1<|
 some ((AV.agg [iv x0_0,AV.ls [],bv false,AV.ls [],bv false,AV.ls xs1],[])))
 (br (A.eq x0_0 4)
 (Ae D (Key.fn 225) [AV.agg [iv x0_0,AV.ls x0_1,bv x0_2,AV.ls x0_3,bv x0_4,AV.ls x0_5]] [] λr o=>
 BX r λxs=>
 Ac o<|
 Ae D (Key.fn 176) [AV.ls xs] [] λr1 o1=>
 BX r1 λxs1=>
 Ac o1<|
 some ((AV.agg [iv x0_0,AV.ls [],bv false,AV.ls [],bv false,AV.ls xs1],[])))
 (br (A.eq x0_0 5)
 (Ae D (Key.fn 225) [AV.agg [iv x0_0,AV.ls x0_1,bv x0_2,AV.ls x0_3,bv x0_4,AV.ls x0_5]] [] λr o=>
 BX r λxs=>
 Ac o<|
 Ae D (Key.fn 176) [AV.ls xs] [] λr1 o1=>
 BX r1 λxs1=>
 Ac o1<|
 some ((AV.agg [iv x0_0,AV.ls [],bv false,AV.ls [],bv false,AV.ls xs1],[])))
 (Ae D (Key.fn 64) [bv false] [] λr o=>
 Au r λcs=>
 At IntKind.i64 cs λn l=>
 As l λxs l1=>
 Af l1 λb l2=>
 As l2 λxs1 l3=>
 Af l3 λb1 l4=>
 As l4 λxs2 l5=>
 Ad l5<|
 Ac o<|
 some ((AV.agg [iv n,AV.ls xs,bv b,AV.ls xs1,bv b1,AV.ls xs2],[]))))))):=by kernel_rfl
theorem AnE(A:Ar)(D:Orc)(x0:List (List AV)):BI A D Al St .n 176 Wf [AV.ls x0] [] =
 Ae D (Key.lp 176 0) [AV.sl 0 0 0 6,AV.ls x0,iv ↑(A1 x0),iv 0] [ABlk.mk [] true true] λr o=>
 Az r λcs=>
 Ai cs λc l=>
 br (Bi 1 c)
 (Ai l λc1 l1=>
 B1 1 6 c1 λn=>
 Ad l1<|
 Am o λc2 l2=>
 Bn c2<|
 Am l2 λc3 l3=>
 AE true true c3 λcs1=>
 Ac l3<|
 br ((0+n*6).ble cs1.length) (some ((AV.ls (BA n 6 (ApG (n*6) cs1)),[]))) none)
 (none):=by kernel_rfl
theorem ZV(A:Ar)(D:Orc)(n3:Nat)(c3:List AV)(t6:List (List AV))(t7:Int)(t8:Int):Dv A D Al St .n 176 0 (AW Wf 0).fst (AW Wf 0).snd [AV.sl 0 0 n3 6,AV.ls t6,iv t7,iv t8] [{ cells:=c3,st:=true,ex:=true }] =
 br (A.lt t8 t7)
 (unI t8 λi=>
 Br t6 i λcs=>
 At IntKind.i64 cs λn l=>
 As l λxs l1=>
 Af l1 λb l2=>
 As l2 λxs1 l3=>
 Af l3 λb1 l4=>
 As l4 λxs2 l5=>
 Ad l5<|
 Ae D (Key.fn 175) [AV.agg [iv n,AV.ls xs,bv b,AV.ls xs1,bv b1,AV.ls xs2]] [] λr o=>
 Au r λcs1=>
 At IntKind.i64 cs1 λn1 l6=>
 As l6 λxs3 l7=>
 Af l7 λb2 l8=>
 As l8 λxs4 l9=>
 Af l9 λb3 l10=>
 As l10 λxs5 l11=>
 Ad l11<|
 Ac o<|
 br (Bp (n3+1) 96) (br ((0+n3*6).ble c3.length) (Ae D (Key.lp 176 0) [AV.sl 0 0 (n3+1) 6,AV.ls t6,iv t7,iv (A.add IntKind.i64 t8 1)] [ABlk.mk (ApK 0 (ApG (0+n3*6) c3)++[iv n1,AV.ls xs3,bv b2,AV.ls xs4,bv b3,AV.ls xs5]) true true] λr1 o1=>
 AN 1 [3] (AH.mk [(3,ABlk.mk (ApK 0 (ApG (0+n3*6) c3)++[iv n1,AV.ls xs3,bv b2,AV.ls xs4,bv b3,AV.ls xs5]) true true),(2,ABlk.mk [iv n1,AV.ls xs3,bv b2,AV.ls xs4,bv b3,AV.ls xs5] true true),(1,ABlk.mk [iv n,AV.ls xs,bv b,AV.ls xs1,bv b1,AV.ls xs2] true false)] 4 none) [0] r1 o1) none) none)
 (some ((AV.tup [iv 0,AV.sl 1 0 n3 6],[BO.del,BO.set (ABlk.mk c3 true true)]))):=by kernel_rfl
theorem Am7(A:Ar)(D:Orc)(x0_0:Int)(x0_1:List (List AV))(x0_2:Bool)(x0_3:List (List AV))(x0_4:Bool)(x0_5:List (List AV)):BI A D Al Agp .n 113 Ahs [AV.agg [iv x0_0,AV.ls x0_1,bv x0_2,AV.ls x0_3,bv x0_4,AV.ls x0_5]] [] =
 Ae D (Key.fn 175) [AV.agg [iv x0_0,AV.ls x0_1,bv x0_2,AV.ls x0_3,bv x0_4,AV.ls x0_5]] [] λr o=>
 Au r λcs=>
 At IntKind.i64 cs λn l=>
 As l λxs l1=>
 Af l1 λb l2=>
 As l2 λxs1 l3=>
 Af l3 λb1 l4=>
 As l4 λxs2 l5=>
 Ad l5<|
 Ac o<|
 some ((AV.agg [iv 3,AV.ls [],bv false,AV.ls [],bv false,AV.ls [[iv n,AV.ls xs,bv b,AV.ls xs1,bv b1,AV.ls xs2]]],[])):=by kernel_rfl
theorem Am8(A:Ar)(D:Orc)(x0:List (List AV)):BI A D Al Agq .n 114 Aht [AV.ls x0] [] =
 Ae D (Key.fn 176) [AV.ls x0] [] λr o=>
 BX r λxs=>
 Ac o<|
 some ((AV.agg [iv 4,AV.ls [],bv false,AV.ls [],bv false,AV.ls xs],[])):=by kernel_rfl
theorem Am9(A:Ar)(D:Orc)(x0:List (List AV)):BI A D Al Agr .n 115 Ahu [AV.ls x0] [] =
 Ae D (Key.fn 176) [AV.ls x0] [] λr o=>
 BX r λxs=>
 Ac o<|
 some ((AV.agg [iv 5,AV.ls [],bv false,AV.ls [],bv false,AV.ls xs],[])):=by kernel_rfl
theorem Uv(A:Ar)(D:Orc)(x0:Int)(x1_0:List (List AV))(x1_1:Bool)(x1_2:List (List AV))(x2_0:List (List AV))(x2_1:Bool)(x2_2:List (List AV)):BI A D Al L7 .n 112 Ahr [iv x0,AV.agg [AV.ls x1_0,bv x1_1,AV.ls x1_2],AV.agg [AV.ls x2_0,bv x2_1,AV.ls x2_2]] [] =
 Ae D (Key.fn 84) [iv 1] [] λr o=>
 Au r λcs=>
 Af cs λb l=>
 As l λxs l1=>
 Ad l1<|
 Ac o<|
 Ae D (Key.fn 170) [AV.agg [bv b,AV.ls xs]] [] λr1 o1=>
 Au r1 λcs1=>
 As cs1 λxs1 l2=>
 Af l2 λb1 l3=>
 As l3 λxs2 l4=>
 Ad l4<|
 Ac o1<|
 br (A.eq x0 0)
 (Ae D (Key.fn 173) [AV.agg [AV.ls x1_0,bv x1_1,AV.ls x1_2],AV.agg [AV.ls x2_0,bv x2_1,AV.ls x2_2]] [] λr2 o2=>
 Au r2 λcs2=>
 As cs2 λxs3 l5=>
 Af l5 λb2 l6=>
 As l6 λxs4 l7=>
 Ad l7<|
 Ac o2<|
 Ae D (Key.fn 172) [AV.agg [AV.ls xs3,bv b2,AV.ls xs4]] [] λr3 o3=>
 Au r3 λcs3=>
 As cs3 λxs5 l8=>
 Af l8 λb3 l9=>
 As l9 λxs6 l10=>
 Af l10 λb4 l11=>
 Ad l11<|
 Ac o3<|
 Ae D (Key.fn 171) [AV.agg [AV.ls xs5,bv b3,AV.ls xs6,bv b4]] [] λr4 o4=>
 Au r4 λcs4=>
 At IntKind.i64 cs4 λn l12=>
 As l12 λxs7 l13=>
 Af l13 λb5 l14=>
 As l14 λxs8 l15=>
 Af l15 λb6 l16=>
 As l16 λxs9 l17=>
 Ad l17<|
 Ac o4<|
 some ((AV.agg [iv n,AV.ls xs7,bv b5,AV.ls xs8,bv b6,AV.ls xs9],[])))
 (br (A.eq x0 1)
 (Ae D (Key.fn 112) [iv 0,AV.agg [AV.ls x1_0,bv x1_1,AV.ls x1_2],AV.agg [AV.ls x2_0,bv x2_1,AV.ls x2_2]] [] λr2 o2=>
 Au r2 λcs2=>
 At IntKind.i64 cs2 λn l5=>
 As l5 λxs3 l6=>
 Af l6 λb2 l7=>
 As l7 λxs4 l8=>
 Af l8 λb3 l9=>
 As l9 λxs5 l10=>
 Ad l10<|
 Ac o2<|
 Ae D (Key.fn 113) [AV.agg [iv n,AV.ls xs3,bv b2,AV.ls xs4,bv b3,AV.ls xs5]] [] λr3 o3=>
 Au r3 λcs3=>
 At IntKind.i64 cs3 λn1 l11=>
 As l11 λxs6 l12=>
 Af l12 λb4 l13=>
 As l13 λxs7 l14=>
 Af l14 λb5 l15=>
 As l15 λxs8 l16=>
 Ad l16<|
 Ac o3<|
 some ((AV.agg [iv n1,AV.ls xs6,bv b4,AV.ls xs7,bv b5,AV.ls xs8],[])))
 (br (A.eq x0 2)
 (Ae D (Key.fn 173) [AV.agg [AV.ls x2_0,bv x2_1,AV.ls x2_2],AV.agg [AV.ls x1_0,bv x1_1,AV.ls x1_2]] [] λr2 o2=>
 Au r2 λcs2=>
 As cs2 λxs3 l5=>
 Af l5 λb2 l6=>
 As l6 λxs4 l7=>
 Ad l7<|
 Ac o2<|
 Ae D (Key.fn 173) [AV.agg [AV.ls xs3,bv b2,AV.ls xs4],AV.agg [AV.ls xs1,bv b1,AV.ls xs2]] [] λr3 o3=>
 Au r3 λcs3=>
 As cs3 λxs5 l8=>
 Af l8 λb3 l9=>
 As l9 λxs6 l10=>
 Ad l10<|
 Ac o3<|
 Ae D (Key.fn 174) [AV.agg [AV.ls xs5,bv b3,AV.ls xs6]] [] λr4 o4=>
 Au r4 λcs4=>
 As cs4 λxs7 l11=>
 Af l11 λb4 l12=>
 As l12 λxs8 l13=>
 Af l13 λb5 l14=>
 Ad l14<|
 Ac o4<|
 Ae D (Key.fn 171) [AV.agg [AV.ls xs7,bv b4,AV.ls xs8,bv b5]] [] λr5 o5=>
 Au r5 λcs5=>
 At IntKind.i64 cs5 λn l15=>
 As l15 λxs9 l16=>
 Af l16 λb6 l17=>
 As l17 λxs10 l18=>
 Af l18 λb7 l19=>
 As l19 λxs11 l20=>
 Ad l20<|
 Ac o5<|
 some ((AV.agg [iv n,AV.ls xs9,bv b6,AV.ls xs10,bv b7,AV.ls xs11],[])))
 (br (A.eq x0 3)
 (Ae D (Key.fn 173) [AV.agg [AV.ls x2_0,bv x2_1,AV.ls x2_2],AV.agg [AV.ls x1_0,bv x1_1,AV.ls x1_2]] [] λr2 o2=>
 Au r2 λcs2=>
 As cs2 λxs3 l5=>
 Af l5 λb2 l6=>
 As l6 λxs4 l7=>
 Ad l7<|
 Ac o2<|
 Ae D (Key.fn 174) [AV.agg [AV.ls xs3,bv b2,AV.ls xs4]] [] λr3 o3=>
 Au r3 λcs3=>
 As cs3 λxs5 l8=>
 Af l8 λb3 l9=>
 As l9 λxs6 l10=>
 Af l10 λb4 l11=>
 Ad l11<|
 Ac o3<|
 Ae D (Key.fn 171) [AV.agg [AV.ls xs5,bv b3,AV.ls xs6,bv b4]] [] λr4 o4=>
 Au r4 λcs4=>
 At IntKind.i64 cs4 λn l12=>
 As l12 λxs7 l13=>
 Af l13 λb5 l14=>
 As l14 λxs8 l15=>
 Af l15 λb6 l16=>
 As l16 λxs9 l17=>
 Ad l17<|
 Ac o4<|
 some ((AV.agg [iv n,AV.ls xs7,bv b5,AV.ls xs8,bv b6,AV.ls xs9],[])))
 (br (A.eq x0 4)
 (Ae D (Key.fn 112) [iv 2,AV.agg [AV.ls x2_0,bv x2_1,AV.ls x2_2],AV.agg [AV.ls x1_0,bv x1_1,AV.ls x1_2]] [] λr2 o2=>
 Au r2 λcs2=>
 At IntKind.i64 cs2 λn l5=>
 As l5 λxs3 l6=>
 Af l6 λb2 l7=>
 As l7 λxs4 l8=>
 Af l8 λb3 l9=>
 As l9 λxs5 l10=>
 Ad l10<|
 Ac o2<|
 some ((AV.agg [iv n,AV.ls xs3,bv b2,AV.ls xs4,bv b3,AV.ls xs5],[])))
 (br (A.eq x0 5)
 (Ae D (Key.fn 112) [iv 3,AV.agg [AV.ls x2_0,bv x2_1,AV.ls x2_2],AV.agg [AV.ls x1_0,bv x1_1,AV.ls x1_2]] [] λr2 o2=>
 Au r2 λcs2=>
 At IntKind.i64 cs2 λn l5=>
 As l5 λxs3 l6=>
 Af l6 λb2 l7=>
 As l7 λxs4 l8=>
 Af l8 λb3 l9=>
 As l9 λxs5 l10=>
 Ad l10<|
 Ac o2<|
 some ((AV.agg [iv n,AV.ls xs3,bv b2,AV.ls xs4,bv b3,AV.ls xs5],[])))
 (Ae D (Key.fn 64) [bv false] [] λr2 o2=>
 Au r2 λcs2=>
 At IntKind.i64 cs2 λn l5=>
 As l5 λxs3 l6=>
 Af l6 λb2 l7=>
 As l7 λxs4 l8=>
 Af l8 λb3 l9=>
 As l9 λxs5 l10=>
 Ad l10<|
 Ac o2<|
 some ((AV.agg [iv n,AV.ls xs3,bv b2,AV.ls xs4,bv b3,AV.ls xs5],[])))))))):=by kernel_rfl
def AoK:Be:=[⟨61,[false,true,false,false,true,false,true,false,false,false,false,false,false,false,false,true,true,true],[(1000006,3),(3000006,0)],[4],[(0,([false,false,false,false,true,true],([4],[1000006,6]))),(1,([false,false,false,false,true,false,true],([],[])))]⟩]
def Aeu:MFn:=Bx AoK 44
def AaR:Hnt:=⟨[(23,(.bool,[])),(84,(.agg [.bool,.ls],[])),(85,(.tup [.agg [.bool,.ls],.int .i64],[])),(86,(.agg [.bool,.ls],[])),(87,(.agg [.bool,.ls],[])),(88,(.int .i64,[])),(89,(.agg [.ls,.bool,.ls],[]))],[(0,[(0,([.ptr 0 0,.bool],[.box [.ls,.bool,.ls],.del,.del])),(1,([.ptr 0 0,.ptr 1 0],[.box [.ls,.bool,.ls],.box [.sl 3 3,.bool,.ls],.del,.row true]))])],[(19,[.bool,.str,.str]),(20,[.bool,.str,.str]),(23,[.str]),(27,[.str]),(32,[.bool]),(33,[.bool,.ls]),(36,[.str]),(39,[.bool,.ls]),(40,[.bool,.ls]),(45,[.str]),(51,[.ls]),(53,[.bool,.ls]),(59,[.ls,.bool,.ls])]⟩
def AoM:Be:=[⟨82,[false,true,true,false,true,false,false,false,false,false,true,false,false,false,false,false,false,false,false,false,false,false,false,false,false,false,false,false,false,false,false,false,false,false,false,false,false,false,false,false,false,false,true,true,true],[(10,6)],[2,4],[(0,([false,false,false,false,true,true],([4],[2,10]))),(1,([false,false,true,false,true,false,false,false,false,false,true],([],[])))]⟩]
def Aew:MFn:=Bx AoM 65
def XQ:Hnt:=⟨[(44,(.tup [.agg [.ls,.bool,.ls],.bool],[])),(64,(.agg [.int .i64,.ls,.bool,.ls,.bool,.ls],[])),(65,(.tup [.agg [.int .i64,.ls,.bool,.ls,.bool,.ls],.bool],[])),(112,(.agg [.int .i64,.ls,.bool,.ls,.bool,.ls],[])),(113,(.agg [.int .i64,.ls,.bool,.ls,.bool,.ls],[])),(114,(.agg [.int .i64,.ls,.bool,.ls,.bool,.ls],[])),(115,(.agg [.int .i64,.ls,.bool,.ls,.bool,.ls],[]))],[(0,[(0,([.ptr 1 0,.bool],[.del,.box [.int .i64,.ls,.bool,.ls,.bool,.ls],.del])),(1,([.ptr 0 0,.ptr 1 0,.sl 3 6],[.box [.int .i64,.ls,.ls,.int .i64,.str,.str,.ls],.box [.int .i64,.ls,.bool,.ls,.bool,.ls],.del,.row true]))])],[(16,[.int .i64]),(20,[.ls]),(27,[.ls]),(33,[.int .i64]),(34,[.ls,.bool,.ls]),(35,[.ls,.bool,.ls]),(42,[.ls]),(46,[.int .i64,.ls,.ls,.int .i64,.str,.str,.ls]),(47,[.int .i64,.ls,.ls,.int .i64,.str,.str,.ls]),(49,[.int .i64,.ls,.ls,.int .i64,.str,.str,.ls]),(58,[.int .i64,.ls,.bool,.ls,.bool,.ls]),(63,[.int .i64]),(70,[.int .i64,.ls,.bool,.ls,.bool,.ls]),(71,[.int .i64,.ls,.bool,.ls,.bool,.ls])]⟩
def Al8:MFn:=Bx [] 27
def AkX:Hnt:=⟨[(24,(.bool,[])),(64,(.agg [.int .i64,.ls,.bool,.ls,.bool,.ls],[])),(65,(.tup [.agg [.int .i64,.ls,.bool,.ls,.bool,.ls],.bool],[]))],[],[(8,[.int .i64,.ls,.ls,.int .i64,.str,.str,.ls]),(13,[.int .i64,.ls,.ls,.int .i64,.str,.str,.ls]),(21,[.int .i64,.ls,.bool,.ls,.bool,.ls])]⟩
def TJ:List (Nat × MFn):=[(44,Aeu),(65,Aew),(27,Al8)]
theorem e44(A:Ar)(D:Orc)(x0:List (List AV))(x1:List (List AV)):BI A D Al AaR .n 44 Aeu [AV.ls x0,AV.ls x1] [] =
 Ae D (Key.fn 23) [AV.ls x0] [] λr o=>
 AR r λb=>
 Ac o<|
 br b
 (Ae D (Key.lp 44 0) [AV.ls x1,AV.ptr 0 0,AV.ptr 1 0,AV.ls x0,iv ↑(A1 x0),iv 0] [ABlk.mk [AV.ls [],bv false,AV.ls []] true false,ABlk.mk [AV.sl 2 0 0 3,bv false,AV.ls []] true false,ABlk.mk [] true true] λr1 o1=>
 Az r1 λcs=>
 Ai cs λc l=>
 br (Bi 0 c)
 (Ai l λc1 l1=>
 Cp 0 0 c1<|
 Af l1 λb1 l2=>
 Ad l2<|
 Am o1 λc2 l3=>
 AE true false c2 λcs1=>
 As cs1 λxs l4=>
 Af l4 λb2 l5=>
 As l5 λxs1 l6=>
 Ad l6<|
 Am l3 λc3 l7=>
 Bn c3<|
 Am l7 λc4 l8=>
 Bn c4<|
 Ac l8<|
 some ((AV.tup [AV.agg [AV.ls xs,bv b2,AV.ls xs1],bv b1],[])))
 (br (Bi 1 c)
 (Ai l λc1 l1=>
 Cp 0 0 c1<|
 Ai l1 λc2 l2=>
 Cp 1 0 c2<|
 Ad l2<|
 Am o1 λc3 l3=>
 AE true false c3 λcs1=>
 As cs1 λ_ l4=>
 Af l4 λ_ l5=>
 As l5 λ_ l6=>
 Ad l6<|
 Am l3 λc4 l7=>
 AE true false c4 λcs2=>
 Ai cs2 λc5 l8=>
 B1 3 3 c5 λn=>
 Af l8 λb2 l9=>
 As l9 λxs2 l10=>
 Ad l10<|
 Am l7 λc6 l11=>
 Bn c6<|
 Am l11 λc7 l12=>
 AE true true c7 λcs3=>
 Ac l12<|
 br ((0+n*3).ble cs3.length) (Ae D (Key.fn 89) [AV.agg [AV.ls (BA n 3 (ApG (n*3) cs3)),bv b2,AV.ls xs2]] [] λr2 o2=>
 Au r2 λcs4=>
 As cs4 λxs3 l13=>
 Af l13 λb3 l14=>
 As l14 λxs4 l15=>
 Ad l15<|
 Ac o2<|
 some ((AV.tup [AV.agg [AV.ls xs3,bv b3,AV.ls xs4],bv true],[]))) none)
 (none)))
 (some ((AV.tup [AV.agg [AV.ls [],bv false,AV.ls []],bv false],[]))):=by kernel_rfl
theorem Af8(A:Ar)(D:Orc)(t1:List (List AV))(r0:List (List AV))(r1:Bool)(r2:List (List AV))(n6:Nat)(k1:Bool)(k2:List (List AV))(c6:List AV)(t15:List (List AV))(t16:Int)(t17:Int):Dv A D Al AaR .n 44 0 (AW Aeu 0).fst (AW Aeu 0).snd [AV.ls t1,AV.ptr 0 0,AV.ptr 1 0,AV.ls t15,iv t16,iv t17] [{ cells:=[AV.ls r0,bv r1,AV.ls r2],st:=true,ex:=false },{ cells:=[AV.sl 2 0 n6 3,bv k1,AV.ls k2],st:=true,ex:=false },{ cells:=c6,st:=true,ex:=true }] =
 br (A.lt t17 t16)
 (unI t17 λi=>
 Br t15 i λcs=>
 Af cs λb l=>
 Bv l λs l1=>
 Bv l1 λs1 l2=>
 Ad l2<|
 Ae D (Key.fn 84) [iv 1] [] λr o=>
 Au r λcs1=>
 Af cs1 λb1 l3=>
 As l3 λxs l4=>
 Ad l4<|
 Ac o<|
 br (A.seq s (AI []))
 (br b
 (Ae D (Key.fn 86) [AV.agg [bv b1,AV.ls xs]] [] λr3 o1=>
 Au r3 λcs2=>
 Af cs2 λb2 l5=>
 As l5 λxs1 l6=>
 Ad l6<|
 Ac o1<|
 br (A.seq s1 (AI []))
 (Ae D (Key.fn 87) [AV.agg [bv k1,AV.ls k2],AV.agg [bv b2,AV.ls xs1]] [] λr4 o2=>
 Au r4 λcs3=>
 Af cs3 λb3 l7=>
 As l7 λxs2 l8=>
 Ad l8<|
 Ac o2<|
 Ae D (Key.lp 44 0) [AV.ls t1,AV.ptr 0 0,AV.ptr 1 0,AV.ls t15,iv t16,iv (A.add IntKind.i64 t17 1)] [ABlk.mk [AV.ls r0,bv r1,AV.ls r2] true false,ABlk.mk [AV.sl 2 0 n6 3,bv b3,AV.ls xs2] true false,ABlk.mk c6 true true] λr5 o3=>
 AN 3 [0,1,2] (AH.mk [(0,ABlk.mk [AV.ls r0,bv r1,AV.ls r2] true false),(1,ABlk.mk [AV.sl 2 0 n6 3,bv b3,AV.ls xs2] true false),(4,ABlk.mk [bv b2,AV.ls xs1] true false),(3,ABlk.mk [bv b,sv s,sv s1] true false),(2,ABlk.mk c6 true true)] 5 none) [1,0] r5 o3)
 (Ae D (Key.fn 88) [AV.ls t1,sv s1] [] λr4 o2=>
 AT IntKind.i64 r4 λn=>
 Ac o2<|
 br (A.lt n 0)
 (some ((AV.tup [bv true,AV.ptr 0 0,bv false],[BO.set (ABlk.mk [AV.ls [],bv false,AV.ls []] true false),BO.del,BO.del])))
 (br (Bp (n6+1) 40) (br ((0+n6*3).ble c6.length) (Ae D (Key.lp 44 0) [AV.ls t1,AV.ptr 0 0,AV.ptr 1 0,AV.ls t15,iv t16,iv (A.add IntKind.i64 t17 1)] [ABlk.mk [AV.ls r0,bv r1,AV.ls r2] true false,ABlk.mk [AV.sl 2 0 (n6+1) 3,bv k1,AV.ls k2] true false,ABlk.mk (ApK 0 (ApG (0+n6*3) c6)++[iv n,bv b2,AV.ls xs1]) true true] λr5 o3=>
 AN 3 [0,1,6] (AH.mk [(0,ABlk.mk [AV.ls r0,bv r1,AV.ls r2] true false),(1,ABlk.mk [AV.sl 6 0 (n6+1) 3,bv k1,AV.ls k2] true false),(6,ABlk.mk (ApK 0 (ApG (0+n6*3) c6)++[iv n,bv b2,AV.ls xs1]) true true),(5,ABlk.mk [iv n,bv b2,AV.ls xs1] true true),(4,ABlk.mk [bv b2,AV.ls xs1] true false),(3,ABlk.mk [bv b,sv s,sv s1] true false)] 7 none) [2,1,0] r5 o3) none) none)))
 (br (A.seq s1 (AI []))
 (Ae D (Key.fn 87) [AV.agg [bv k1,AV.ls k2],AV.agg [bv b1,AV.ls xs]] [] λr3 o1=>
 Au r3 λcs2=>
 Af cs2 λb2 l5=>
 As l5 λxs1 l6=>
 Ad l6<|
 Ac o1<|
 Ae D (Key.lp 44 0) [AV.ls t1,AV.ptr 0 0,AV.ptr 1 0,AV.ls t15,iv t16,iv (A.add IntKind.i64 t17 1)] [ABlk.mk [AV.ls r0,bv r1,AV.ls r2] true false,ABlk.mk [AV.sl 2 0 n6 3,bv b2,AV.ls xs1] true false,ABlk.mk c6 true true] λr4 o2=>
 AN 3 [0,1,2] (AH.mk [(0,ABlk.mk [AV.ls r0,bv r1,AV.ls r2] true false),(1,ABlk.mk [AV.sl 2 0 n6 3,bv b2,AV.ls xs1] true false),(4,ABlk.mk [bv b1,AV.ls xs] true false),(3,ABlk.mk [bv b,sv s,sv s1] true false),(2,ABlk.mk c6 true true)] 5 none) [1,0] r4 o2)
 (Ae D (Key.fn 88) [AV.ls t1,sv s1] [] λr3 o1=>
 AT IntKind.i64 r3 λn=>
 Ac o1<|
 br (A.lt n 0)
 (some ((AV.tup [bv true,AV.ptr 0 0,bv false],[BO.set (ABlk.mk [AV.ls [],bv false,AV.ls []] true false),BO.del,BO.del])))
 (br (Bp (n6+1) 40) (br ((0+n6*3).ble c6.length) (Ae D (Key.lp 44 0) [AV.ls t1,AV.ptr 0 0,AV.ptr 1 0,AV.ls t15,iv t16,iv (A.add IntKind.i64 t17 1)] [ABlk.mk [AV.ls r0,bv r1,AV.ls r2] true false,ABlk.mk [AV.sl 2 0 (n6+1) 3,bv k1,AV.ls k2] true false,ABlk.mk (ApK 0 (ApG (0+n6*3) c6)++[iv n,bv b1,AV.ls xs]) true true] λr4 o2=>
 AN 3 [0,1,6] (AH.mk [(0,ABlk.mk [AV.ls r0,bv r1,AV.ls r2] true false),(1,ABlk.mk [AV.sl 6 0 (n6+1) 3,bv k1,AV.ls k2] true false),(6,ABlk.mk (ApK 0 (ApG (0+n6*3) c6)++[iv n,bv b1,AV.ls xs]) true true),(5,ABlk.mk [iv n,bv b1,AV.ls xs] true true),(4,ABlk.mk [bv b1,AV.ls xs] true false),(3,ABlk.mk [bv b,sv s,sv s1] true false)] 7 none) [2,1,0] r4 o2) none) none))))
 (Ae D (Key.fn 85) [sv s] [] λr3 o1=>
 Az r3 λcs2=>
 Ai cs2 λc l5=>
 Au c λcs3=>
 Af cs3 λb2 l6=>
 As l6 λxs1 l7=>
 Ad l7<|
 At IntKind.i64 l5 λ_ l8=>
 Ad l8<|
 Ac o1<|
 br b
 (Ae D (Key.fn 86) [AV.agg [bv b2,AV.ls xs1]] [] λr4 o2=>
 Au r4 λcs4=>
 Af cs4 λb3 l9=>
 As l9 λxs2 l10=>
 Ad l10<|
 Ac o2<|
 br (A.seq s1 (AI []))
 (Ae D (Key.fn 87) [AV.agg [bv k1,AV.ls k2],AV.agg [bv b3,AV.ls xs2]] [] λr5 o3=>
 Au r5 λcs5=>
 Af cs5 λb4 l11=>
 As l11 λxs3 l12=>
 Ad l12<|
 Ac o3<|
 Ae D (Key.lp 44 0) [AV.ls t1,AV.ptr 0 0,AV.ptr 1 0,AV.ls t15,iv t16,iv (A.add IntKind.i64 t17 1)] [ABlk.mk [AV.ls r0,bv r1,AV.ls r2] true false,ABlk.mk [AV.sl 2 0 n6 3,bv b4,AV.ls xs3] true false,ABlk.mk c6 true true] λr6 o4=>
 AN 3 [0,1,2] (AH.mk [(0,ABlk.mk [AV.ls r0,bv r1,AV.ls r2] true false),(1,ABlk.mk [AV.sl 2 0 n6 3,bv b4,AV.ls xs3] true false),(4,ABlk.mk [bv b3,AV.ls xs2] true false),(3,ABlk.mk [bv b,sv s,sv s1] true false),(2,ABlk.mk c6 true true)] 5 none) [1,0] r6 o4)
 (Ae D (Key.fn 88) [AV.ls t1,sv s1] [] λr5 o3=>
 AT IntKind.i64 r5 λn1=>
 Ac o3<|
 br (A.lt n1 0)
 (some ((AV.tup [bv true,AV.ptr 0 0,bv false],[BO.set (ABlk.mk [AV.ls [],bv false,AV.ls []] true false),BO.del,BO.del])))
 (br (Bp (n6+1) 40) (br ((0+n6*3).ble c6.length) (Ae D (Key.lp 44 0) [AV.ls t1,AV.ptr 0 0,AV.ptr 1 0,AV.ls t15,iv t16,iv (A.add IntKind.i64 t17 1)] [ABlk.mk [AV.ls r0,bv r1,AV.ls r2] true false,ABlk.mk [AV.sl 2 0 (n6+1) 3,bv k1,AV.ls k2] true false,ABlk.mk (ApK 0 (ApG (0+n6*3) c6)++[iv n1,bv b3,AV.ls xs2]) true true] λr6 o4=>
 AN 3 [0,1,6] (AH.mk [(0,ABlk.mk [AV.ls r0,bv r1,AV.ls r2] true false),(1,ABlk.mk [AV.sl 6 0 (n6+1) 3,bv k1,AV.ls k2] true false),(6,ABlk.mk (ApK 0 (ApG (0+n6*3) c6)++[iv n1,bv b3,AV.ls xs2]) true true),(5,ABlk.mk [iv n1,bv b3,AV.ls xs2] true true),(4,ABlk.mk [bv b3,AV.ls xs2] true false),(3,ABlk.mk [bv b,sv s,sv s1] true false)] 7 none) [2,1,0] r6 o4) none) none)))
 (br (A.seq s1 (AI []))
 (Ae D (Key.fn 87) [AV.agg [bv k1,AV.ls k2],AV.agg [bv b2,AV.ls xs1]] [] λr4 o2=>
 Au r4 λcs4=>
 Af cs4 λb3 l9=>
 As l9 λxs2 l10=>
 Ad l10<|
 Ac o2<|
 Ae D (Key.lp 44 0) [AV.ls t1,AV.ptr 0 0,AV.ptr 1 0,AV.ls t15,iv t16,iv (A.add IntKind.i64 t17 1)] [ABlk.mk [AV.ls r0,bv r1,AV.ls r2] true false,ABlk.mk [AV.sl 2 0 n6 3,bv b3,AV.ls xs2] true false,ABlk.mk c6 true true] λr5 o3=>
 AN 3 [0,1,2] (AH.mk [(0,ABlk.mk [AV.ls r0,bv r1,AV.ls r2] true false),(1,ABlk.mk [AV.sl 2 0 n6 3,bv b3,AV.ls xs2] true false),(4,ABlk.mk [bv b2,AV.ls xs1] true false),(3,ABlk.mk [bv b,sv s,sv s1] true false),(2,ABlk.mk c6 true true)] 5 none) [1,0] r5 o3)
 (Ae D (Key.fn 88) [AV.ls t1,sv s1] [] λr4 o2=>
 AT IntKind.i64 r4 λn1=>
 Ac o2<|
 br (A.lt n1 0)
 (some ((AV.tup [bv true,AV.ptr 0 0,bv false],[BO.set (ABlk.mk [AV.ls [],bv false,AV.ls []] true false),BO.del,BO.del])))
 (br (Bp (n6+1) 40) (br ((0+n6*3).ble c6.length) (Ae D (Key.lp 44 0) [AV.ls t1,AV.ptr 0 0,AV.ptr 1 0,AV.ls t15,iv t16,iv (A.add IntKind.i64 t17 1)] [ABlk.mk [AV.ls r0,bv r1,AV.ls r2] true false,ABlk.mk [AV.sl 2 0 (n6+1) 3,bv k1,AV.ls k2] true false,ABlk.mk (ApK 0 (ApG (0+n6*3) c6)++[iv n1,bv b2,AV.ls xs1]) true true] λr5 o3=>
 AN 3 [0,1,6] (AH.mk [(0,ABlk.mk [AV.ls r0,bv r1,AV.ls r2] true false),(1,ABlk.mk [AV.sl 6 0 (n6+1) 3,bv k1,AV.ls k2] true false),(6,ABlk.mk (ApK 0 (ApG (0+n6*3) c6)++[iv n1,bv b2,AV.ls xs1]) true true),(5,ABlk.mk [iv n1,bv b2,AV.ls xs1] true true),(4,ABlk.mk [bv b2,AV.ls xs1] true false),(3,ABlk.mk [bv b,sv s,sv s1] true false)] 7 none) [2,1,0] r5 o3) none) none)))))
 (some ((AV.tup [iv 0,AV.ptr 0 0,AV.ptr 1 0],[BO.set (ABlk.mk [AV.ls r0,bv r1,AV.ls r2] true false),BO.set (ABlk.mk [AV.sl 3 0 n6 3,bv k1,AV.ls k2] true false),BO.del,BO.set (ABlk.mk c6 true true)]))):=by kernel_rfl
theorem e65(A:Ar)(D:Orc)(x0_0:Int)(x0_1:List (List AV))(x0_2:List (List AV))(x0_3:Int)(x0_4:ByteArray)(x0_5:ByteArray)(x0_6:List (List AV))(x1:List (List AV)):BI A D Al XQ (.b (.b (.b (.t .n) (.f .n)) .n) .n) 65 Aew [AV.agg [iv x0_0,AV.ls x0_1,AV.ls x0_2,iv x0_3,sv x0_4,sv x0_5,AV.ls x0_6],AV.ls x1] [] =
 br (A.eq x0_0 2)
 (Ae D (Key.fn 44) [AV.ls x0_1,AV.ls x1] [] λr o=>
 Az r λcs=>
 Ai cs λc l=>
 Au c λcs1=>
 As cs1 λxs l1=>
 Af l1 λb l2=>
 As l2 λxs1 l3=>
 Ad l3<|
 Af l λb1 l4=>
 Ad l4<|
 Ac o<|
 Ae D (Key.fn 44) [AV.ls x0_2,AV.ls x1] [] λr1 o1=>
 Az r1 λcs2=>
 Ai cs2 λc1 l5=>
 Au c1 λcs3=>
 As cs3 λxs2 l6=>
 Af l6 λb2 l7=>
 As l7 λxs3 l8=>
 Ad l8<|
 Af l5 λb3 l9=>
 Ad l9<|
 Ac o1<|
 Ae D (Key.fn 112) [iv x0_3,AV.agg [AV.ls xs,bv b,AV.ls xs1],AV.agg [AV.ls xs2,bv b2,AV.ls xs3]] [] λr2 o2=>
 Au r2 λcs4=>
 At IntKind.i64 cs4 λn l10=>
 As l10 λxs4 l11=>
 Af l11 λb4 l12=>
 As l12 λxs5 l13=>
 Af l13 λb5 l14=>
 As l14 λxs6 l15=>
 Ad l15<|
 Ac o2<|
 br b1
 (br b1 (br b3
 (some ((AV.tup [AV.agg [iv n,AV.ls xs4,bv b4,AV.ls xs5,bv b5,AV.ls xs6],bv true],[])))
 (some ((AV.tup [AV.agg [iv n,AV.ls xs4,bv b4,AV.ls xs5,bv b5,AV.ls xs6],bv false],[])))) none)
 (br b1 none (some ((AV.tup [AV.agg [iv n,AV.ls xs4,bv b4,AV.ls xs5,bv b5,AV.ls xs6],bv false],[])))))
 (Ae D (Key.lp 65 0) [AV.ls x1,AV.ptr 0 0,AV.ptr 1 0,AV.sl 2 0 0 6,AV.ls x0_6,iv ↑(A1 x0_6),iv 0] [ABlk.mk [iv x0_0,AV.ls x0_1,AV.ls x0_2,iv x0_3,sv x0_4,sv x0_5,AV.ls x0_6] true false,ABlk.mk [iv 0,AV.ls [],bv false,AV.ls [],bv false,AV.ls []] true false,ABlk.mk [] true true] λr o=>
 Az r λcs=>
 Ai cs λc l=>
 br (Bi 0 c)
 (Ai l λc1 l1=>
 Cp 1 0 c1<|
 Af l1 λb l2=>
 Ad l2<|
 Am o λc2 l3=>
 Bn c2<|
 Am l3 λc3 l4=>
 AE true false c3 λcs1=>
 At IntKind.i64 cs1 λn l5=>
 As l5 λxs l6=>
 Af l6 λb1 l7=>
 As l7 λxs1 l8=>
 Af l8 λb2 l9=>
 As l9 λxs2 l10=>
 Ad l10<|
 Am l4 λc4 l11=>
 Bn c4<|
 Ac l11<|
 some ((AV.tup [AV.agg [iv n,AV.ls xs,bv b1,AV.ls xs1,bv b2,AV.ls xs2],bv b],[])))
 (br (Bi 1 c)
 (Ai l λc1 l1=>
 Cp 0 0 c1<|
 Ai l1 λc2 l2=>
 Cp 1 0 c2<|
 Ai l2 λc3 l3=>
 B1 3 6 c3 λn=>
 Ad l3<|
 Am o λc4 l4=>
 AE true false c4 λcs1=>
 At IntKind.i64 cs1 λn1 l5=>
 As l5 λ_ l6=>
 As l6 λ_ l7=>
 At IntKind.i64 l7 λ_ l8=>
 Bv l8 λ_ l9=>
 Bv l9 λ_ l10=>
 As l10 λ_ l11=>
 Ad l11<|
 Am l4 λc5 l12=>
 AE true false c5 λcs2=>
 At IntKind.i64 cs2 λ_ l13=>
 As l13 λ_ l14=>
 Af l14 λ_ l15=>
 As l15 λ_ l16=>
 Af l16 λ_ l17=>
 As l17 λ_ l18=>
 Ad l18<|
 Am l12 λc6 l19=>
 Bn c6<|
 Am l19 λc7 l20=>
 AE true true c7 λcs3=>
 Ac l20<|
 br (A.eq n1 0)
 (Ae D (Key.fn 64) [bv true] [] λr1 o1=>
 Au r1 λcs4=>
 At IntKind.i64 cs4 λn4 l21=>
 As l21 λxs6 l22=>
 Af l22 λb2 l23=>
 As l23 λxs7 l24=>
 Af l24 λb3 l25=>
 As l25 λxs8 l26=>
 Ad l26<|
 Ac o1<|
 some ((AV.tup [AV.agg [iv n4,AV.ls xs6,bv b2,AV.ls xs7,bv b3,AV.ls xs8],bv true],[])))
 (br (A.eq n1 3)
 (br (Nat.blt 0 n) (IG cs3 0 6 λcs4=>
 At IntKind.i64 cs4 λn4 l21=>
 As l21 λxs6 l22=>
 Af l22 λb2 l23=>
 As l23 λxs7 l24=>
 Af l24 λb3 l25=>
 As l25 λxs8 l26=>
 Ad l26<|
 Ae D (Key.fn 113) [AV.agg [iv n4,AV.ls xs6,bv b2,AV.ls xs7,bv b3,AV.ls xs8]] [] λr1 o1=>
 Au r1 λcs5=>
 At IntKind.i64 cs5 λn5 l27=>
 As l27 λxs9 l28=>
 Af l28 λb4 l29=>
 As l29 λxs10 l30=>
 Af l30 λb5 l31=>
 As l31 λxs11 l32=>
 Ad l32<|
 Ac o1<|
 some ((AV.tup [AV.agg [iv n5,AV.ls xs9,bv b4,AV.ls xs10,bv b5,AV.ls xs11],bv true],[]))) none)
 (br (A.eq n1 4)
 (br ((0+n*6).ble cs3.length) (Ae D (Key.fn 114) [AV.ls (BA n 6 (ApG (n*6) cs3))] [] λr1 o1=>
 Au r1 λcs4=>
 At IntKind.i64 cs4 λn4 l21=>
 As l21 λxs6 l22=>
 Af l22 λb2 l23=>
 As l23 λxs7 l24=>
 Af l24 λb3 l25=>
 As l25 λxs8 l26=>
 Ad l26<|
 Ac o1<|
 some ((AV.tup [AV.agg [iv n4,AV.ls xs6,bv b2,AV.ls xs7,bv b3,AV.ls xs8],bv true],[]))) none)
 (br (A.eq n1 5)
 (br ((0+n*6).ble cs3.length) (Ae D (Key.fn 115) [AV.ls (BA n 6 (ApG (n*6) cs3))] [] λr1 o1=>
 Au r1 λcs4=>
 At IntKind.i64 cs4 λn4 l21=>
 As l21 λxs6 l22=>
 Af l22 λb2 l23=>
 As l23 λxs7 l24=>
 Af l24 λb3 l25=>
 As l25 λxs8 l26=>
 Ad l26<|
 Ac o1<|
 some ((AV.tup [AV.agg [iv n4,AV.ls xs6,bv b2,AV.ls xs7,bv b3,AV.ls xs8],bv true],[]))) none)
 (Ae D (Key.fn 64) [bv false] [] λr1 o1=>
 Au r1 λcs4=>
 At IntKind.i64 cs4 λn4 l21=>
 As l21 λxs6 l22=>
 Af l22 λb2 l23=>
 As l23 λxs7 l24=>
 Af l24 λb3 l25=>
 As l25 λxs8 l26=>
 Ad l26<|
 Ac o1<|
 some ((AV.tup [AV.agg [iv n4,AV.ls xs6,bv b2,AV.ls xs7,bv b3,AV.ls xs8],bv true],[])))))))
 (none))):=by kernel_rfl
theorem Aga(A:Ar)(D:Orc)(t1:List (List AV))(b2_0:Int)(b2_1:List (List AV))(b2_2:List (List AV))(b2_3:Int)(b2_4:ByteArray)(b2_5:ByteArray)(b2_6:List (List AV))(b4_0:Int)(b4_1:List (List AV))(b4_2:Bool)(b4_3:List (List AV))(b4_4:Bool)(b4_5:List (List AV))(n10:Nat)(c10:List AV)(t42:List (List AV))(t43:Int)(t44:Int):Dv A D Al XQ .n 65 0 (AW Aew 0).fst (AW Aew 0).snd [AV.ls t1,AV.ptr 0 0,AV.ptr 1 0,AV.sl 2 0 n10 6,AV.ls t42,iv t43,iv t44] [{ cells:=[iv b2_0,AV.ls b2_1,AV.ls b2_2,iv b2_3,sv b2_4,sv b2_5,AV.ls b2_6],st:=true,ex:=false },{ cells:=[iv b4_0,AV.ls b4_1,bv b4_2,AV.ls b4_3,bv b4_4,AV.ls b4_5],st:=true,ex:=false },{ cells:=c10,st:=true,ex:=true }] =
 br (A.lt t44 t43)
 (unI t44 λi=>
 Br t42 i λcs=>
 At IntKind.i64 cs λn l=>
 As l λxs l1=>
 As l1 λxs1 l2=>
 At IntKind.i64 l2 λn1 l3=>
 Bv l3 λs l4=>
 Bv l4 λs1 l5=>
 As l5 λxs2 l6=>
 Ad l6<|
 Ae D (Key.fn 65) [AV.agg [iv n,AV.ls xs,AV.ls xs1,iv n1,sv s,sv s1,AV.ls xs2],AV.ls t1] [] λr o=>
 Az r λcs1=>
 Ai cs1 λc l7=>
 Au c λcs2=>
 At IntKind.i64 cs2 λn2 l8=>
 As l8 λxs3 l9=>
 Af l9 λb l10=>
 As l10 λxs4 l11=>
 Af l11 λb1 l12=>
 As l12 λxs5 l13=>
 Ad l13<|
 Af l7 λb2 l14=>
 Ad l14<|
 Ac o<|
 br (A.not b2)
 (some ((AV.tup [bv true,AV.ptr 1 0,bv false],[BO.del,BO.set (ABlk.mk [iv 0,AV.ls [],bv false,AV.ls [],bv false,AV.ls []] true false),BO.del])))
 (br (Bp (n10+1) 96) (br ((0+n10*6).ble c10.length) (Ae D (Key.lp 65 0) [AV.ls t1,AV.ptr 0 0,AV.ptr 1 0,AV.sl 2 0 (n10+1) 6,AV.ls t42,iv t43,iv (A.add IntKind.i64 t44 1)] [ABlk.mk [iv b2_0,AV.ls b2_1,AV.ls b2_2,iv b2_3,sv b2_4,sv b2_5,AV.ls b2_6] true false,ABlk.mk [iv b4_0,AV.ls b4_1,bv b4_2,AV.ls b4_3,bv b4_4,AV.ls b4_5] true false,ABlk.mk (ApK 0 (ApG (0+n10*6) c10)++[iv n2,AV.ls xs3,bv b,AV.ls xs4,bv b1,AV.ls xs5]) true true] λr1 o1=>
 AN 3 [0,1,6] (AH.mk [(1,ABlk.mk [iv b4_0,AV.ls b4_1,bv b4_2,AV.ls b4_3,bv b4_4,AV.ls b4_5] true false),(0,ABlk.mk [iv b2_0,AV.ls b2_1,AV.ls b2_2,iv b2_3,sv b2_4,sv b2_5,AV.ls b2_6] true false),(6,ABlk.mk (ApK 0 (ApG (0+n10*6) c10)++[iv n2,AV.ls xs3,bv b,AV.ls xs4,bv b1,AV.ls xs5]) true true),(5,ABlk.mk [iv n2,AV.ls xs3,bv b,AV.ls xs4,bv b1,AV.ls xs5] true true),(4,ABlk.mk [iv n2,AV.ls xs3,bv b,AV.ls xs4,bv b1,AV.ls xs5] true false),(3,ABlk.mk [iv n,AV.ls xs,AV.ls xs1,iv n1,sv s,sv s1,AV.ls xs2] true false)] 7 none) [2,0,1] r1 o1) none) none))
 (some ((AV.tup [iv 0,AV.ptr 0 0,AV.ptr 1 0,AV.sl 3 0 n10 6],[BO.set (ABlk.mk [iv b2_0,AV.ls b2_1,AV.ls b2_2,iv b2_3,sv b2_4,sv b2_5,AV.ls b2_6] true false),BO.set (ABlk.mk [iv b4_0,AV.ls b4_1,bv b4_2,AV.ls b4_3,bv b4_4,AV.ls b4_5] true false),BO.del,BO.set (ABlk.mk c10 true true)]))):=by kernel_rfl
theorem e27(A:Ar)(D:Orc)(x0_0:Int)(x0_1:List (List AV))(x0_2:List (List AV))(x0_3:Int)(x0_4:ByteArray)(x0_5:ByteArray)(x0_6:List (List AV))(x1:List (List AV)):BI A D Al AkX .n 27 Al8 [AV.agg [iv x0_0,AV.ls x0_1,AV.ls x0_2,iv x0_3,sv x0_4,sv x0_5,AV.ls x0_6],AV.ls x1] [] =
 Ae D (Key.fn 24) [AV.agg [iv x0_0,AV.ls x0_1,AV.ls x0_2,iv x0_3,sv x0_4,sv x0_5,AV.ls x0_6]] [] λr o=>
 AR r λb=>
 Ac o<|
 br b
 (Ae D (Key.fn 65) [AV.agg [iv x0_0,AV.ls x0_1,AV.ls x0_2,iv x0_3,sv x0_4,sv x0_5,AV.ls x0_6],AV.ls x1] [] λr1 o1=>
 Az r1 λcs=>
 Ai cs λc l=>
 Au c λcs1=>
 At IntKind.i64 cs1 λn l1=>
 As l1 λxs l2=>
 Af l2 λb1 l3=>
 As l3 λxs1 l4=>
 Af l4 λb2 l5=>
 As l5 λxs2 l6=>
 Ad l6<|
 Af l λb3 l7=>
 Ad l7<|
 Ac o1<|
 br (A.not b3)
 (Ae D (Key.fn 64) [bv false] [] λr2 o2=>
 Au r2 λcs2=>
 At IntKind.i64 cs2 λn1 l8=>
 As l8 λxs3 l9=>
 Af l9 λb4 l10=>
 As l10 λxs4 l11=>
 Af l11 λb5 l12=>
 As l12 λxs5 l13=>
 Ad l13<|
 Ac o2<|
 some ((AV.tup [AV.agg [iv n1,AV.ls xs3,bv b4,AV.ls xs4,bv b5,AV.ls xs5],bv false],[])))
 (some ((AV.tup [AV.agg [iv n,AV.ls xs,bv b1,AV.ls xs1,bv b2,AV.ls xs2],bv true],[]))))
 (Ae D (Key.fn 64) [bv false] [] λr1 o1=>
 Au r1 λcs=>
 At IntKind.i64 cs λn l=>
 As l λxs l1=>
 Af l1 λb1 l2=>
 As l2 λxs1 l3=>
 Af l3 λb2 l4=>
 As l4 λxs2 l5=>
 Ad l5<|
 Ac o1<|
 some ((AV.tup [AV.agg [iv n,AV.ls xs,bv b1,AV.ls xs1,bv b2,AV.ls xs2],bv false],[]))):=by kernel_rfl
def AlK:Be:=[⟨18,[false,false,false,true,false,false,true,true,true],[],[],[(0,([false,false,true],([],[]))),(1,([false,false,false,true],([],[])))]⟩]
def Wv:MFn:=Bx AlK 277
def PL:Hnt:=⟨[],[(0,[(0,([.int .i64],[])),(1,([.int .i64],[]))])],[(10,[.int .i64]),(11,[.int .i64])]⟩
def Aik:MFn:=Bx [] 284
def Ahe:Hnt:=⟨[(154,(.int .i64,[])),(277,(.int .i64,[])),(285,(.int .i64,[]))],[],[(6,[.int .i64]),(8,[.int .i64]),(11,[.bool,.ls]),(13,[.bool,.ls])]⟩
def AlM:Be:=[⟨39,[true,true,true,false,false,false,false,false,false,false,false,true,true,true],[],[],[(0,([false,false,false,false,false,false,true],([],[]))),(1,([true,true],([],[])))]⟩]
def Ww:MFn:=Bx AlM 286
def SI:Hnt:=⟨[(284,(.int .i64,[]))],[(0,[(0,([.int .i64],[])),(1,([.ls,.ls],[]))])],[(16,[.int .i64,.bool,.ls]),(17,[.int .i64,.bool,.ls]),(24,[.int .i64,.bool,.ls]),(25,[.int .i64,.bool,.ls]),(27,[.int .i64,.bool,.ls]),(28,[.int .i64,.bool,.ls])]⟩
def Aii:MFn:=Bx [] 278
def Ahc:Hnt:=⟨[(89,(.agg [.ls,.bool,.ls],[])),(277,(.int .i64,[])),(285,(.int .i64,[])),(286,(.int .i64,[]))],[],[(6,[.ls,.bool,.ls]),(8,[.ls,.bool,.ls]),(11,[.ls]),(13,[.ls]),(17,[.bool,.ls]),(19,[.bool,.ls])]⟩
def Aij:MFn:=Bx [] 279
def Ahd:Hnt:=⟨[],[],[(4,[.bool])]⟩
def Aig:MFn:=Bx [] 270
def Aha:Hnt:=⟨[(154,(.int .i64,[])),(277,(.int .i64,[])),(278,(.int .i64,[])),(279,(.int .i64,[]))],[],[(6,[.ls,.bool,.ls]),(8,[.ls,.bool,.ls]),(10,[.ls,.bool,.ls,.bool]),(12,[.ls,.bool,.ls,.bool])]⟩
def Aie:MFn:=Bx [] 254
def Ag8:Hnt:=⟨[(270,(.int .i64,[]))],[],[(5,[.ls,.bool,.ls,.bool]),(6,[.ls,.bool,.ls,.bool])]⟩
def AlG:Be:=[⟨32,[false,true,true,false,false,false,false,false,false,false,false,false,false,false,false,true,true,true],[],[],[(0,([false,false,false,false,false,false,true],([],[]))),(1,([],([],[])))]⟩]
def Wr:MFn:=Bx AlG 255
def SF:Hnt:=⟨[(233,(.bool,[]))],[(0,[(0,([.bool],[])),(1,([],[]))])],[(20,[.int .i64,.ls,.bool,.ls,.bool,.ls]),(21,[.int .i64,.ls,.bool,.ls,.bool,.ls]),(24,[.int .i64,.ls,.bool,.ls,.bool,.ls]),(25,[.int .i64,.ls,.bool,.ls,.bool,.ls]),(27,[.int .i64,.ls,.bool,.ls,.bool,.ls]),(28,[.int .i64,.ls,.bool,.ls,.bool,.ls])]⟩
def Aib:MFn:=Bx [] 233
def Ag5:Hnt:=⟨[(175,(.agg [.int .i64,.ls,.bool,.ls,.bool,.ls],[])),(254,(.bool,[])),(255,(.bool,[]))],[],[(5,[.int .i64,.ls,.bool,.ls,.bool,.ls]),(7,[.int .i64,.ls,.bool,.ls,.bool,.ls]),(10,[.int .i64]),(12,[.int .i64]),(16,[.int .i64]),(20,[.ls,.bool,.ls,.bool]),(22,[.ls,.bool,.ls,.bool]),(28,[.ls]),(30,[.ls])]⟩
def TK:List (Nat × MFn):=[(277,Wv),(284,Aik),(286,Ww),(278,Aii),(279,Aij),(270,Aig),(254,Aie),(255,Wr),(233,Aib)]
theorem Aol(A:Ar)(D:Orc)(x0:List (List AV)):BI A D Al PL .n 277 Wv [AV.ls x0] [] =
 Ae D (Key.lp 277 0) [iv 0,AV.ls x0,iv ↑(A1 x0),iv 0] [] λr o=>
 Az r λcs=>
 Ai cs λc l=>
 br (Bi 0 c)
 (At IntKind.i64 l λn l1=>
 Ad l1<|
 Ac o<|
 some ((iv n,[])))
 (br (Bi 1 c)
 (At IntKind.i64 l λn l1=>
 Ad l1<|
 Ac o<|
 some ((iv n,[])))
 (none)):=by kernel_rfl
theorem UE(A:Ar)(D:Orc)(t3:Int)(t6:List (List AV))(t7:Int)(t8:Int):Dv A D Al PL .n 277 0 (AW Wv 0).fst (AW Wv 0).snd [iv t3,AV.ls t6,iv t7,iv t8] [] =
 br (A.lt t8 t7)
 (unI t8 λi=>
 Br t6 i λcs=>
 At IntKind.i64 cs λn l=>
 Ad l<|
 br (A.eq n t3)
 (Ae D (Key.lp 277 0) [iv t3,AV.ls t6,iv t7,iv (A.add IntKind.i64 t8 1)] [] λr o=>
 AN 0 [] (AH.mk [] 0 none) [] r o)
 (some ((AV.tup [bv true,iv n],[]))))
 (some ((AV.tup [iv 0,iv t3],[]))):=by kernel_rfl
theorem Aop(A:Ar)(D:Orc)(x0_0:Int)(x0_1:Bool)(x0_2:List (List AV))(x1_0:Int)(x1_1:Bool)(x1_2:List (List AV)):BI A D Al Ahe .n 284 Aik [AV.agg [iv x0_0,bv x0_1,AV.ls x0_2],AV.agg [iv x1_0,bv x1_1,AV.ls x1_2]] [] =
 Ae D (Key.fn 154) [iv x0_0,iv x1_0] [] λr o=>
 AT IntKind.i64 r λn=>
 Ac o<|
 Ae D (Key.fn 285) [AV.agg [bv x0_1,AV.ls x0_2],AV.agg [bv x1_1,AV.ls x1_2]] [] λr1 o1=>
 AT IntKind.i64 r1 λn1=>
 Ac o1<|
 Ae D (Key.fn 277) [AV.ls [[iv n],[iv n1]]] [] λr2 o2=>
 AT IntKind.i64 r2 λn2=>
 Ac o2<|
 some ((iv n2,[])):=by kernel_rfl
theorem Aor(A:Ar)(D:Orc)(x0:List (List AV))(x1:List (List AV)):BI A D Al SI .n 286 Ww [AV.ls x0,AV.ls x1,AV.fn (Fn.func 284) [] []] [] =
 Ae D (Key.lp 286 0) [AV.ls x0,AV.ls x1,AV.fn (Fn.func 284) [] [],AV.ls x0,iv ↑(A1 x0),iv 0] [] λr o=>
 Az r λcs=>
 Ai cs λc l=>
 br (Bi 0 c)
 (At IntKind.i64 l λn l1=>
 Ad l1<|
 Ac o<|
 some ((iv n,[])))
 (br (Bi 1 c)
 (As l λxs l1=>
 As l1 λxs1 l2=>
 Ad l2<|
 Ac o<|
 br (A.lt ↑(A1 xs) ↑(A1 xs1))
 (some ((iv (-1),[])))
 (some ((iv 0,[]))))
 (none)):=by kernel_rfl
theorem Aal(A:Ar)(D:Orc)(t0:List (List AV))(t1:List (List AV))(t11:List (List AV))(t12:Int)(t13:Int):Dv A D Al SI .n 286 0 (AW Ww 0).fst (AW Ww 0).snd [AV.ls t0,AV.ls t1,AV.fn (Fn.func 284) [] [],AV.ls t11,iv t12,iv t13] [] =
 br (A.lt t13 t12)
 (unI t13 λi=>
 Br t11 i λcs=>
 At IntKind.i64 cs λn l=>
 Af l λb l1=>
 As l1 λxs l2=>
 Ad l2<|
 br (A.le (↑(A1 t1)) t13)
 (some ((AV.tup [bv true,iv 1],[])))
 (unI t13 λi1=>
 Br t1 i1 λcs1=>
 At IntKind.i64 cs1 λn1 l3=>
 Af l3 λb1 l4=>
 As l4 λxs1 l5=>
 Ad l5<|
 Ae D (Key.fn 284) [AV.agg [iv n,bv b,AV.ls xs],AV.agg [iv n1,bv b1,AV.ls xs1]] [] λr o=>
 AT IntKind.i64 r λn2=>
 Ac o<|
 br (A.eq n2 0)
 (Ae D (Key.lp 286 0) [AV.ls t0,AV.ls t1,AV.fn (Fn.func 284) [] [],AV.ls t11,iv t12,iv (A.add IntKind.i64 t13 1)] [] λr1 o1=>
 AN 0 [] (AH.mk [(1,ABlk.mk [iv n1,bv b1,AV.ls xs1] true false),(0,ABlk.mk [iv n,bv b,AV.ls xs] true false)] 2 none) [] r1 o1)
 (some ((AV.tup [bv true,iv n2],[])))))
 (some ((AV.tup [iv 0,AV.ls t0,AV.ls t1],[]))):=by kernel_rfl
theorem Aom(A:Ar)(D:Orc)(x0_0:List (List AV))(x0_1:Bool)(x0_2:List (List AV))(x1_0:List (List AV))(x1_1:Bool)(x1_2:List (List AV)):BI A D Al Ahc .n 278 Aii [AV.agg [AV.ls x0_0,bv x0_1,AV.ls x0_2],AV.agg [AV.ls x1_0,bv x1_1,AV.ls x1_2]] [] =
 Ae D (Key.fn 89) [AV.agg [AV.ls x0_0,bv x0_1,AV.ls x0_2]] [] λr o=>
 Au r λcs=>
 As cs λxs l=>
 Af l λb l1=>
 As l1 λxs1 l2=>
 Ad l2<|
 Ac o<|
 Ae D (Key.fn 89) [AV.agg [AV.ls x1_0,bv x1_1,AV.ls x1_2]] [] λr1 o1=>
 Au r1 λcs1=>
 As cs1 λxs2 l3=>
 Af l3 λb1 l4=>
 As l4 λxs3 l5=>
 Ad l5<|
 Ac o1<|
 Ae D (Key.fn 286) [AV.ls xs,AV.ls xs2,AV.fn (Fn.func 284) [] []] [] λr2 o2=>
 AT IntKind.i64 r2 λn=>
 Ac o2<|
 Ae D (Key.fn 285) [AV.agg [bv b,AV.ls xs1],AV.agg [bv b1,AV.ls xs3]] [] λr3 o3=>
 AT IntKind.i64 r3 λn1=>
 Ac o3<|
 Ae D (Key.fn 277) [AV.ls [[iv n],[iv n1]]] [] λr4 o4=>
 AT IntKind.i64 r4 λn2=>
 Ac o4<|
 some ((iv n2,[])):=by kernel_rfl
theorem Aon(A:Ar)(D:Orc)(x0_0:List (List AV))(x0_1:Bool)(x0_2:List (List AV))(x0_3:Bool):BI A D Al Ahd .n 279 Aij [AV.agg [AV.ls x0_0,bv x0_1,AV.ls x0_2,bv x0_3]] [] =
 br x0_3
 (some ((iv 1,[])))
 (some ((iv 0,[]))):=by kernel_rfl
theorem Aoi(A:Ar)(D:Orc)(x0_0:List (List AV))(x0_1:Bool)(x0_2:List (List AV))(x0_3:Bool)(x1_0:List (List AV))(x1_1:Bool)(x1_2:List (List AV))(x1_3:Bool):BI A D Al Aha .n 270 Aig [AV.agg [AV.ls x0_0,bv x0_1,AV.ls x0_2,bv x0_3],AV.agg [AV.ls x1_0,bv x1_1,AV.ls x1_2,bv x1_3]] [] =
 Ae D (Key.fn 278) [AV.agg [AV.ls x0_0,bv x0_1,AV.ls x0_2],AV.agg [AV.ls x1_0,bv x1_1,AV.ls x1_2]] [] λr o=>
 AT IntKind.i64 r λn=>
 Ac o<|
 Ae D (Key.fn 279) [AV.agg [AV.ls x0_0,bv x0_1,AV.ls x0_2,bv x0_3]] [] λr1 o1=>
 AT IntKind.i64 r1 λn1=>
 Ac o1<|
 Ae D (Key.fn 279) [AV.agg [AV.ls x1_0,bv x1_1,AV.ls x1_2,bv x1_3]] [] λr2 o2=>
 AT IntKind.i64 r2 λn2=>
 Ac o2<|
 Ae D (Key.fn 154) [iv n1,iv n2] [] λr3 o3=>
 AT IntKind.i64 r3 λn3=>
 Ac o3<|
 Ae D (Key.fn 277) [AV.ls [[iv n],[iv n3]]] [] λr4 o4=>
 AT IntKind.i64 r4 λn4=>
 Ac o4<|
 some ((iv n4,[])):=by kernel_rfl
theorem Aod(A:Ar)(D:Orc)(x0_0:List (List AV))(x0_1:Bool)(x0_2:List (List AV))(x0_3:Bool)(x1_0:List (List AV))(x1_1:Bool)(x1_2:List (List AV))(x1_3:Bool):BI A D Al Ag8 .n 254 Aie [AV.agg [AV.ls x0_0,bv x0_1,AV.ls x0_2,bv x0_3],AV.agg [AV.ls x1_0,bv x1_1,AV.ls x1_2,bv x1_3]] [] =
 Ae D (Key.fn 270) [AV.agg [AV.ls x0_0,bv x0_1,AV.ls x0_2,bv x0_3],AV.agg [AV.ls x1_0,bv x1_1,AV.ls x1_2,bv x1_3]] [] λr o=>
 AT IntKind.i64 r λn=>
 Ac o<|
 br (A.eq n 0)
 (some ((bv true,[])))
 (some ((bv false,[]))):=by kernel_rfl
theorem Aoe(A:Ar)(D:Orc)(x0:List (List AV))(x1:List (List AV)):BI A D Al SF .n 255 Wr [AV.ls x0,AV.ls x1,AV.fn (Fn.func 233) [] []] [] =
 br (A.eq ↑(A1 x0) ↑(A1 x1))
 (Ae D (Key.lp 255 0) [AV.ls x1,AV.fn (Fn.func 233) [] [],AV.ls x0,iv ↑(A1 x0),iv 0] [] λr o=>
 Az r λcs=>
 Ai cs λc l=>
 br (Bi 0 c)
 (Af l λb l1=>
 Ad l1<|
 Ac o<|
 some ((bv b,[])))
 (br (Bi 1 c)
 (Ad l<|
 Ac o<|
 some ((bv true,[])))
 (none)))
 (some ((bv false,[]))):=by kernel_rfl
theorem Aah(A:Ar)(D:Orc)(t1:List (List AV))(t15:List (List AV))(t16:Int)(t17:Int):Dv A D Al SF .n 255 0 (AW Wr 0).fst (AW Wr 0).snd [AV.ls t1,AV.fn (Fn.func 233) [] [],AV.ls t15,iv t16,iv t17] [] =
 br (A.lt t17 t16)
 (unI t17 λi=>
 Br t15 i λcs=>
 At IntKind.i64 cs λn l=>
 As l λxs l1=>
 Af l1 λb l2=>
 As l2 λxs1 l3=>
 Af l3 λb1 l4=>
 As l4 λxs2 l5=>
 Ad l5<|
 unI t17 λi1=>
 Br t1 i1 λcs1=>
 At IntKind.i64 cs1 λn1 l6=>
 As l6 λxs3 l7=>
 Af l7 λb2 l8=>
 As l8 λxs4 l9=>
 Af l9 λb3 l10=>
 As l10 λxs5 l11=>
 Ad l11<|
 Ae D (Key.fn 233) [AV.agg [iv n,AV.ls xs,bv b,AV.ls xs1,bv b1,AV.ls xs2],AV.agg [iv n1,AV.ls xs3,bv b2,AV.ls xs4,bv b3,AV.ls xs5]] [] λr o=>
 AR r λb4=>
 Ac o<|
 br b4
 (Ae D (Key.lp 255 0) [AV.ls t1,AV.fn (Fn.func 233) [] [],AV.ls t15,iv t16,iv (A.add IntKind.i64 t17 1)] [] λr1 o1=>
 AN 0 [] (AH.mk [(1,ABlk.mk [iv n1,AV.ls xs3,bv b2,AV.ls xs4,bv b3,AV.ls xs5] true false),(0,ABlk.mk [iv n,AV.ls xs,bv b,AV.ls xs1,bv b1,AV.ls xs2] true false)] 2 none) [] r1 o1)
 (some ((AV.tup [bv true,bv false],[]))))
 (some ((AV.tup [iv 0],[]))):=by kernel_rfl
theorem An8(A:Ar)(D:Orc)(x0_0:Int)(x0_1:List (List AV))(x0_2:Bool)(x0_3:List (List AV))(x0_4:Bool)(x0_5:List (List AV))(x1_0:Int)(x1_1:List (List AV))(x1_2:Bool)(x1_3:List (List AV))(x1_4:Bool)(x1_5:List (List AV)):BI A D Al Ag5 .n 233 Aib [AV.agg [iv x0_0,AV.ls x0_1,bv x0_2,AV.ls x0_3,bv x0_4,AV.ls x0_5],AV.agg [iv x1_0,AV.ls x1_1,bv x1_2,AV.ls x1_3,bv x1_4,AV.ls x1_5]] [] =
 Ae D (Key.fn 175) [AV.agg [iv x0_0,AV.ls x0_1,bv x0_2,AV.ls x0_3,bv x0_4,AV.ls x0_5]] [] λr o=>
 Au r λcs=>
 At IntKind.i64 cs λn l=>
 As l λxs l1=>
 Af l1 λb l2=>
 As l2 λxs1 l3=>
 Af l3 λb1 l4=>
 As l4 λxs2 l5=>
 Ad l5<|
 Ac o<|
 Ae D (Key.fn 175) [AV.agg [iv x1_0,AV.ls x1_1,bv x1_2,AV.ls x1_3,bv x1_4,AV.ls x1_5]] [] λr1 o1=>
 Au r1 λcs1=>
 At IntKind.i64 cs1 λn1 l6=>
 As l6 λxs3 l7=>
 Af l7 λb2 l8=>
 As l8 λxs4 l9=>
 Af l9 λb3 l10=>
 As l10 λxs5 l11=>
 Ad l11<|
 Ac o1<|
 br (A.eq n n1)
 (br (A.eq n 2)
 (Ae D (Key.fn 254) [AV.agg [AV.ls xs,bv b,AV.ls xs1,bv b1],AV.agg [AV.ls xs3,bv b2,AV.ls xs4,bv b3]] [] λr2 o2=>
 AR r2 λb4=>
 Ac o2<|
 br b4
 (Ae D (Key.fn 255) [AV.ls xs2,AV.ls xs5,AV.fn (Fn.func 233) [] []] [] λr3 o3=>
 AR r3 λb5=>
 Ac o3<|
 br b5
 (some ((bv true,[])))
 (some ((bv false,[]))))
 (some ((bv false,[]))))
 (Ae D (Key.fn 255) [AV.ls xs2,AV.ls xs5,AV.fn (Fn.func 233) [] []] [] λr2 o2=>
 AR r2 λb4=>
 Ac o2<|
 br b4
 (some ((bv true,[])))
 (some ((bv false,[])))))
 (some ((bv false,[]))):=by kernel_rfl
end
end Go.Proofs.YtlmhajfbpplpoaaGreat
