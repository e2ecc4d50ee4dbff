/- Functions of the program as trees: what a call com -/
import Derived.Test.YtlmhajfbpplpoaaGreatSAS
set_option linter.unusedSectionVars false
set_option linter.unusedSimpArgs false
set_option linter.unusedVariables false
namespace Go.Proofs.YtlmhajfbpplpoaaGreat
open Go.RowKit
def AiV:Am:=[]
noncomputable def AeS:MFn:=Bj Tryz.prog Ah AiV false false 155
def Ad5:Hnt:=⟨[(145,(.agg [.bool,.ls],[]))],[],[(4,[.bool]),(6,[.ls])]⟩
def Ane:Am:=[⟨74,[false,false,true,false,true,false,false,false,false,false,false,false,false,false,false,false,false,true,true,true],[(1000004,3)],[2,17],[(1,([false,false,true,false,true],([],[])))]⟩]
noncomputable def Acl:MFn:=Bj Tryz.prog Ah Ane false false 89
def Y6:Hnt:=⟨[(87,(.agg [.bool,.ls],[])),(151,(.sl 0 3,[.row true])),(152,(.tup [],[.row true])),(155,(.agg [.bool,.ls],[])),(156,(.sl 0 3,[.row true]))],[(0,[(1,([.ptr 0 0,.ptr 1 0],[.box [.ls,.bool,.ls],.box [.sl 3 3,.bool,.ls],.del,.row true]))])],[(9,[.ls]),(14,[.bool,.ls]),(21,[.int .i64,.bool,.ls]),(22,[.int .i64,.bool,.ls]),(24,[.int .i64]),(27,[.ls]),(34,[.ls]),(36,[.int .i64,.bool,.ls]),(38,[.int .i64]),(40,[.int .i64]),(44,[.ls]),(47,[.ls]),(49,[.int .i64,.bool,.ls]),(51,[.bool,.ls]),(53,[.bool,.ls]),(55,[.int .i64,.bool,.ls]),(58,[.ls]),(60,[.int .i64]),(62,[.bool,.ls]),(70,[.ls]),(73,[.ls,.bool,.ls])]⟩
noncomputable def J7:List (Nat × MFn):=[(155,AeS),(89,Acl)]
theorem AlL(A:Ar)(D:Orc)(x0_0:Bool)(x0_1:List (List AV)):B3 A D As Ad5 .n 155 AeS [AV.agg [bv x0_0,AV.ls x0_1]] [] =
 Af D (Key.fn 145) [bv x0_0,AV.ls x0_1] [] fun r o=>
 At r fun cs=>
 Ag cs fun b l=>
 AI l fun xs l1=>
 Ad l1<|
 Ac o<|
 some ((AV.agg [bv b,AV.ls xs],[])):=by kernel_rfl
theorem e89(A:Ar)(D:Orc)(x0_0:List (List AV))(x0_1:Bool)(x0_2:List (List AV)):B3 A D As Y6 .n 89 Acl [AV.agg [AV.ls x0_0,bv x0_1,AV.ls x0_2]] [] =
 Af D (Key.fn 151) [AV.ls x0_0] [] fun r o=>
 CC 0 3 r fun n=>
 AG o fun c l=>
 AP true true c fun cs=>
 Ac l<|
 Af D (Key.fn 152) [AV.sl 0 0 n 3,AV.fn (Fn.func 153) [] []] [ABlk.mk cs true true] fun r1 o1=>
 AF r1 fun cs1=>
 Ad cs1<|
 AG o1 fun c1 l1=>
 AP true true c1 fun cs2=>
 Ac l1<|
 Af D (Key.fn 155) [AV.agg [bv x0_1,AV.ls x0_2]] [] fun r2 o2=>
 At r2 fun cs3=>
 Ag cs3 fun b l2=>
 AI l2 fun xs l3=>
 Ad l3<|
 Ac o2<|
 br ((0+n*3).ble cs2.length) (Af D (Key.lp 89 0) [AV.ptr 0 0,AV.ptr 1 0,AV.ls (BF n 3 (List.take (n*3) cs2)),iv ↑n,iv 0] [ABlk.mk [AV.ls [],bv false,AV.ls []] true false,ABlk.mk [AV.sl 2 0 0 3,bv b,AV.ls xs] true false,ABlk.mk [] true true] fun r3 o3=>
 AF r3 fun cs4=>
 Aj cs4 fun c2 l4=>
 br (Bw 1 c2)
 (Aj l4 fun c3 l5=>
 Dr 0 0 c3<|
 Aj l5 fun c4 l6=>
 Dr 1 0 c4<|
 Ad l6<|
 AG o3 fun c5 l7=>
 AP true false c5 fun cs5=>
 AI cs5 fun _ l8=>
 Ag l8 fun _ l9=>
 AI l9 fun _ l10=>
 Ad l10<|
 AG l7 fun c6 l11=>
 AP true false c6 fun cs6=>
 Aj cs6 fun c7 l12=>
 CC 3 3 c7 fun n1=>
 Ag l12 fun b2 l13=>
 AI l13 fun xs3 l14=>
 Ad l14<|
 AG l11 fun c8 l15=>
 BW c8<|
 AG l15 fun c9 l16=>
 AP true true c9 fun cs7=>
 Ac l16<|
 Af D (Key.fn 156) [AV.sl 0 0 n1 3,AV.fn (Fn.func 157) [] []] [ABlk.mk cs7 true true] fun r4 o4=>
 CC 0 3 r4 fun n2=>
 AG o4 fun c10 l17=>
 AP true true c10 fun cs8=>
 Ac l17<|
 br ((0+n2*3).ble cs8.length) (some ((AV.agg [AV.ls (BF n2 3 (List.take (n2*3) cs8)),bv b2,AV.ls xs3],[]))) none)
 (none)) none:=by kernel_rfl
theorem AdG(A:Ar)(D:Orc)(r0:List (List AV))(r1:Bool)(r2:List (List AV))(n4:Nat)(k1:Bool)(k2:List (List AV))(c4:List AV)(t17:List (List AV))(t18:Int)(t19:Int):D2 A D As Y6 .n 89 0 (Bc Acl 0).fst (Bc Acl 0).snd [AV.ptr 0 0,AV.ptr 1 0,AV.ls t17,iv t18,iv t19] [{ cells:=[AV.ls r0,bv r1,AV.ls r2],st:=true,ex:=false },{ cells:=[AV.sl 2 0 n4 3,bv k1,AV.ls k2],st:=true,ex:=false },{ cells:=c4,st:=true,ex:=true }] =
 br (A.lt t19 t18)
 (unI t19 fun i=>
 BG t17 i fun cs=>
 Ay IntKind.i64 cs fun n l=>
 Ag l fun b l1=>
 AI l1 fun xs l2=>
 Ad l2<|
 br (A.lt n 0)
 (Af D (Key.lp 89 0) [AV.ptr 0 0,AV.ptr 1 0,AV.ls t17,iv t18,iv (A.add IntKind.i64 t19 1)] [ABlk.mk [AV.ls r0,bv r1,AV.ls r2] true false,ABlk.mk [AV.sl 2 0 n4 3,bv k1,AV.ls k2] true false,ABlk.mk c4 true true] fun r o=>
 AR 3 [0,1,2] (AH.mk [(0,ABlk.mk [AV.ls r0,bv r1,AV.ls r2] true false),(3,ABlk.mk [iv n,bv b,AV.ls xs] true false),(1,ABlk.mk [AV.sl 2 0 n4 3,bv k1,AV.ls k2] true false),(2,ABlk.mk c4 true true)] 4 none) [0] r o)
 (br (A.le 0 (A.sub IntKind.i64 (↑n4) 1))
 (unI (A.sub IntKind.i64 (↑n4) 1) fun i1=>
 br (i1.blt n4) (IA c4 (0+i1*3+0) 1 fun cs1=>
 Ay IntKind.i64 cs1 fun n1 l3=>
 Ad l3<|
 br (A.eq n1 n)
 (unI (A.sub IntKind.i64 (↑n4) 1) fun i2=>
 br (i2.blt n4) (IA c4 (0+i2*3+1) 2 fun cs2=>
 Ag cs2 fun b1 l4=>
 AI l4 fun xs1 l5=>
 Ad l5<|
 Af D (Key.fn 87) [AV.agg [bv b1,AV.ls xs1],AV.agg [bv b,AV.ls xs]] [] fun r o=>
 At r fun cs3=>
 Ag cs3 fun b2 l6=>
 AI l6 fun xs2 l7=>
 Ad l7<|
 Ac o<|
 unI (A.sub IntKind.i64 (↑n4) 1) fun i3=>
 br (i3.blt n4) (br ((0+i3*3+1+2).ble c4.length) (Af D (Key.lp 89 0) [AV.ptr 0 0,AV.ptr 1 0,AV.ls t17,iv t18,iv (A.add IntKind.i64 t19 1)] [ABlk.mk [AV.ls r0,bv r1,AV.ls r2] true false,ABlk.mk [AV.sl 2 0 n4 3,bv k1,AV.ls k2] true false,ABlk.mk (Ba c4 (0+i3*3+1) [bv b2,AV.ls xs2]) true true] fun r3 o1=>
 AR 3 [0,1,2] (AH.mk [(0,ABlk.mk [AV.ls r0,bv r1,AV.ls r2] true false),(2,ABlk.mk (Ba c4 (0+i3*3+1) [bv b2,AV.ls xs2]) true true),(3,ABlk.mk [iv n,bv b,AV.ls xs] true false),(1,ABlk.mk [AV.sl 2 0 n4 3,bv k1,AV.ls k2] true false)] 4 none) [2,0] r3 o1) none) none) none)
 (Af D (Key.fn 155) [AV.agg [bv b,AV.ls xs]] [] fun r o=>
 At r fun cs2=>
 Ag cs2 fun b1 l4=>
 AI l4 fun xs1 l5=>
 Ad l5<|
 Ac o<|
 br (Bu (n4+1) 40) (br ((0+n4*3).ble c4.length) (Af D (Key.lp 89 0) [AV.ptr 0 0,AV.ptr 1 0,AV.ls t17,iv t18,iv (A.add IntKind.i64 t19 1)] [ABlk.mk [AV.ls r0,bv r1,AV.ls r2] true false,ABlk.mk [AV.sl 2 0 (n4+1) 3,bv k1,AV.ls k2] true false,ABlk.mk (List.drop 0 (List.take (0+n4*3) c4)++[iv n,bv b1,AV.ls xs1]) true true] fun r3 o1=>
 AR 3 [0,1,5] (AH.mk [(0,ABlk.mk [AV.ls r0,bv r1,AV.ls r2] true false),(1,ABlk.mk [AV.sl 5 0 (n4+1) 3,bv k1,AV.ls k2] true false),(5,ABlk.mk (List.drop 0 (List.take (0+n4*3) c4)++[iv n,bv b1,AV.ls xs1]) true true),(4,ABlk.mk [iv n,bv b1,AV.ls xs1] true true),(3,ABlk.mk [iv n,bv b,AV.ls xs] true false)] 6 none) [2,1,0] r3 o1) none) none)) none)
 (Af D (Key.fn 155) [AV.agg [bv b,AV.ls xs]] [] fun r o=>
 At r fun cs1=>
 Ag cs1 fun b1 l3=>
 AI l3 fun xs1 l4=>
 Ad l4<|
 Ac o<|
 br (Bu (n4+1) 40) (br ((0+n4*3).ble c4.length) (Af D (Key.lp 89 0) [AV.ptr 0 0,AV.ptr 1 0,AV.ls t17,iv t18,iv (A.add IntKind.i64 t19 1)] [ABlk.mk [AV.ls r0,bv r1,AV.ls r2] true false,ABlk.mk [AV.sl 2 0 (n4+1) 3,bv k1,AV.ls k2] true false,ABlk.mk (List.drop 0 (List.take (0+n4*3) c4)++[iv n,bv b1,AV.ls xs1]) true true] fun r3 o1=>
 AR 3 [0,1,5] (AH.mk [(0,ABlk.mk [AV.ls r0,bv r1,AV.ls r2] true false),(1,ABlk.mk [AV.sl 5 0 (n4+1) 3,bv k1,AV.ls k2] true false),(5,ABlk.mk (List.drop 0 (List.take (0+n4*3) c4)++[iv n,bv b1,AV.ls xs1]) true true),(4,ABlk.mk [iv n,bv b1,AV.ls xs1] true true),(3,ABlk.mk [iv n,bv b,AV.ls xs] true false)] 6 none) [2,1,0] r3 o1) none) none)))
 (some ((AV.tup [iv 0,AV.ptr 0 0,AV.ptr 1 0],[BO.set (ABlk.mk [AV.ls r0,bv r1,AV.ls r2] true false),BO.set (ABlk.mk [AV.sl 3 0 n4 3,bv k1,AV.ls k2] true false),BO.del,BO.set (ABlk.mk c4 true true)]))):=by kernel_rfl
def AjL:Am:=[⟨36,[true,false,false,true,false,false,false,false,false,true,true,true],[],[],[(1,([true,false,false,true],([],[])))]⟩,⟨36,[false,false,false,false,false,false,true,false,false,false,false,false,false,false,false,false,false,false,false,false,false,false,false,false,false,true,true,true],[(6,3)],[],[(3,([false,false,false,false,false,false,true],([],[])))]⟩]
noncomputable def O5:MFn:=Bj Tryz.prog Ah AjL false false 250
def Lw:Hnt:=⟨[(263,(.sl 0 3,[.row true]))],[(0,[(1,([.ls,.int .i64],[]))]),(1,[(3,([.sl 1 3],[.del,.row true]))])],[(13,[.ls]),(14,[.ls]),(29,[.ls]),(30,[.ls])]⟩
def Ai4:Am:=[]
noncomputable def AeV:MFn:=Bj Tryz.prog Ah Ai4 false false 170
def Ad8:Hnt:=⟨[(155,(.agg [.bool,.ls],[]))],[],[(3,[.bool,.ls])]⟩
def Ajx:Am:=[]
noncomputable def Afa:MFn:=Bj Tryz.prog Ah Ajx false false 223
def Ael:Hnt:=⟨[(87,(.agg [.bool,.ls],[])),(89,(.agg [.ls,.bool,.ls],[])),(250,(.ls,[]))],[],[(6,[.ls]),(8,[.ls]),(12,[.bool,.ls]),(14,[.bool,.ls])]⟩
def Ajy:Am:=[]
noncomputable def Afb:MFn:=Bj Tryz.prog Ah Ajy false false 224
def Aem:Hnt:=⟨[(84,(.agg [.bool,.ls],[])),(251,(.agg [.ls,.bool,.ls],[]))],[],[(3,[.ls,.bool,.ls])]⟩
def AjM:Am:=[⟨35,[false,false,false,true,true,true,false,false,false,false,false,false,false,false,true,true,true],[(1000005,3)],[3,4],[(1,([false,false,false,false,true,true],([],[3])))]⟩]
noncomputable def Vj:MFn:=Bj Tryz.prog Ah AjM false false 251
def RR:Hnt:=⟨[(89,(.agg [.ls,.bool,.ls],[])),(264,(.agg [.bool,.ls],[]))],[(0,[(1,([.ptr 1 0,.ptr 2 0],[.del,.box [.ls,.bool,.ls],.box [.sl 4 3,.bool,.ls],.del,.row true]))])],[(9,[.bool,.ls]),(10,[.bool,.ls]),(14,[.ls]),(18,[.int .i64,.bool,.ls]),(19,[.int .i64,.bool,.ls]),(21,[.ls]),(23,[.int .i64]),(25,[.bool,.ls]),(26,[.bool,.ls]),(33,[.ls,.bool,.ls])]⟩
def Ai7:Am:=[]
noncomputable def AeY:MFn:=Bj Tryz.prog Ah Ai7 false false 173
def Aeb:Hnt:=⟨[(223,(.agg [.ls,.bool,.ls],[])),(224,(.agg [.ls,.bool,.ls],[]))],[],[(5,[.ls,.bool,.ls]),(6,[.ls,.bool,.ls])]⟩
def Ai6:Am:=[]
noncomputable def AeX:MFn:=Bj Tryz.prog Ah Ai6 false false 172
def Aea:Hnt:=⟨[(89,(.agg [.ls,.bool,.ls],[]))],[],[(3,[.ls,.bool,.ls])]⟩
def Ai8:Am:=[]
noncomputable def AeZ:MFn:=Bj Tryz.prog Ah Ai8 false false 174
def Aec:Hnt:=⟨[(89,(.agg [.ls,.bool,.ls],[]))],[],[(3,[.ls,.bool,.ls])]⟩
noncomputable def LO:List (Nat × MFn):=[(250,O5),(170,AeV),(223,Afa),(224,Afb),(251,Vj),(173,AeY),(172,AeX),(174,AeZ)]
theorem Amm(A:Ar)(D:Orc)(x0:List (List AV)):B3 A D As Lw .n 250 O5 [AV.ls x0] [] =
 Af D (Key.lp 250 0) [AV.ls x0,iv 0,AV.ls x0,iv ↑(Be x0),iv 0] [] fun r o=>
 AF r fun cs=>
 Aj cs fun c l=>
 br (Bw 1 c)
 (AI l fun xs l1=>
 Ay IntKind.i64 l1 fun n l2=>
 Ad l2<|
 Ac o<|
 Af D (Key.fn 263) [AV.v (Value.slice none 0 0),iv n] [] fun r1 o1=>
 CC 0 3 r1 fun n1=>
 AG o1 fun c1 l3=>
 AP true true c1 fun cs1=>
 Ac l3<|
 Af D (Key.lp 250 1) [AV.sl 0 0 n1 3,AV.ls xs,iv ↑(Be xs),iv 0] [ABlk.mk cs1 true true] fun r2 o2=>
 AF r2 fun cs2=>
 Aj cs2 fun c2 l4=>
 br (Bw 3 c2)
 (Aj l4 fun c3 l5=>
 CC 1 3 c3 fun n2=>
 Ad l5<|
 AG o2 fun c4 l6=>
 BW c4<|
 AG l6 fun c5 l7=>
 AP true true c5 fun cs3=>
 Ac l7<|
 br ((0+n2*3).ble cs3.length) (some ((AV.ls (BF n2 3 (List.take (n2*3) cs3)),[]))) none)
 (none))
 (none):=by kernel_rfl
theorem YC(A:Ar)(D:Orc)(t0:List (List AV))(t3:Int)(t9:List (List AV))(t10:Int)(t11:Int):D2 A D As Lw .n 250 0 (Bc O5 0).fst (Bc O5 0).snd [AV.ls t0,iv t3,AV.ls t9,iv t10,iv t11] [] =
 br (A.lt t11 t10)
 (unI t11 fun i=>
 BG t9 i fun cs=>
 AI cs fun xs l=>
 Ad l<|
 br (A.lt (A.add IntKind.i64 t3 ↑(Be xs)) 0)
 (none)
 (Af D (Key.lp 250 0) [AV.ls t0,iv (A.add IntKind.i64 t3 ↑(Be xs)),AV.ls t9,iv t10,iv (A.add IntKind.i64 t11 1)] [] fun r o=>
 AR 0 [] (AH.mk [] 0 none) [] r o))
 (some ((AV.tup [iv 0,AV.ls t0,iv t3],[]))):=by kernel_rfl
theorem YD(A:Ar)(D:Orc)(n6:Nat)(c6:List AV)(t25:List (List AV))(t26:Int)(t27:Int):D2 A D As Lw .n 250 1 (Bc O5 1).fst (Bc O5 1).snd [AV.sl 0 0 n6 3,AV.ls t25,iv t26,iv t27] [{ cells:=c6,st:=true,ex:=true }] =
 br (A.lt t27 t26)
 (unI t27 fun i=>
 BG t25 i fun cs=>
 AI cs fun xs l=>
 Ad l<|
 br (Gi 3 xs) (br ((Be xs).beq 0)
 (Af D (Key.lp 250 1) [AV.sl 0 0 n6 3,AV.ls t25,iv t26,iv (A.add IntKind.i64 t27 1)] [ABlk.mk c6 true true] fun r o=>
 AR 1 [0] (AH.mk [(0,ABlk.mk c6 true true)] 1 none) [] r o)
 (br (JP (Iz xs)) (br (Bu (n6+Be xs) 40) (br ((0+n6*3).ble c6.length) (Af D (Key.lp 250 1) [AV.sl 0 0 (n6+Be xs) 3,AV.ls t25,iv t26,iv (A.add IntKind.i64 t27 1)] [ABlk.mk (List.drop 0 (List.take (0+n6*3) c6)++Iz xs) true true] fun r o=>
 AR 1 [1] (AH.mk [(1,ABlk.mk (List.drop 0 (List.take (0+n6*3) c6)++Iz xs) true true)] 2 none) [0] r o) none) none) none)) none)
 (some ((AV.tup [iv 2,AV.sl 1 0 n6 3],[BO.del,BO.set (ABlk.mk c6 true true)]))):=by kernel_rfl
theorem AlO(A:Ar)(D:Orc)(x0_0:Bool)(x0_1:List (List AV)):B3 A D As Ad8 .n 170 AeV [AV.agg [bv x0_0,AV.ls x0_1]] [] =
 Af D (Key.fn 155) [AV.agg [bv x0_0,AV.ls x0_1]] [] fun r o=>
 At r fun cs=>
 Ag cs fun b l=>
 AI l fun xs l1=>
 Ad l1<|
 Ac o<|
 some ((AV.agg [AV.ls [],bv b,AV.ls xs],[])):=by kernel_rfl
theorem Amd(A:Ar)(D:Orc)(x0_0:List (List AV))(x0_1:Bool)(x0_2:List (List AV))(x1_0:List (List AV))(x1_1:Bool)(x1_2:List (List AV)):B3 A D As Ael .n 223 Afa [AV.agg [AV.ls x0_0,bv x0_1,AV.ls x0_2],AV.agg [AV.ls x1_0,bv x1_1,AV.ls x1_2]] [] =
 Af D (Key.fn 250) [AV.ls [[AV.ls x0_0],[AV.ls x1_0]]] [] fun r o=>
 BX r fun xs=>
 Ac o<|
 Af D (Key.fn 87) [AV.agg [bv x0_1,AV.ls x0_2],AV.agg [bv x1_1,AV.ls x1_2]] [] fun r1 o1=>
 At r1 fun cs=>
 Ag cs fun b l=>
 AI l fun xs1 l1=>
 Ad l1<|
 Ac o1<|
 Af D (Key.fn 89) [AV.agg [AV.ls xs,bv b,AV.ls xs1]] [] fun r2 o2=>
 At r2 fun cs1=>
 AI cs1 fun xs2 l2=>
 Ag l2 fun b1 l3=>
 AI l3 fun xs3 l4=>
 Ad l4<|
 Ac o2<|
 some ((AV.agg [AV.ls xs2,bv b1,AV.ls xs3],[])):=by kernel_rfl
theorem Ame(A:Ar)(D:Orc)(x0_0:List (List AV))(x0_1:Bool)(x0_2:List (List AV)):B3 A D As Aem .n 224 Afb [AV.agg [AV.ls x0_0,bv x0_1,AV.ls x0_2]] [] =
 Af D (Key.fn 84) [iv (-1)] [] fun r o=>
 At r fun cs=>
 Ag cs fun b l=>
 AI l fun xs l1=>
 Ad l1<|
 Ac o<|
 Af D (Key.fn 251) [AV.agg [AV.ls x0_0,bv x0_1,AV.ls x0_2],AV.agg [bv b,AV.ls xs]] [] fun r1 o1=>
 At r1 fun cs1=>
 AI cs1 fun xs1 l2=>
 Ag l2 fun b1 l3=>
 AI l3 fun xs2 l4=>
 Ad l4<|
 Ac o1<|
 some ((AV.agg [AV.ls xs1,bv b1,AV.ls xs2],[])):=by kernel_rfl
theorem Amn(A:Ar)(D:Orc)(x0_0:List (List AV))(x0_1:Bool)(x0_2:List (List AV))(x1_0:Bool)(x1_1:List (List AV)):B3 A D As RR .n 251 Vj [AV.agg [AV.ls x0_0,bv x0_1,AV.ls x0_2],AV.agg [bv x1_0,AV.ls x1_1]] [] =
 Af D (Key.fn 264) [AV.agg [bv x0_1,AV.ls x0_2],AV.agg [bv x1_0,AV.ls x1_1]] [] fun r o=>
 At r fun cs=>
 Ag cs fun b l=>
 AI l fun xs l1=>
 Ad l1<|
 Ac o<|
 Af D (Key.lp 251 0) [AV.ptr 0 0,AV.ptr 1 0,AV.ptr 2 0,AV.ls x0_0,iv ↑(Be x0_0),iv 0] [ABlk.mk [bv x1_0,AV.ls x1_1] true false,ABlk.mk [AV.ls [],bv false,AV.ls []] true false,ABlk.mk [AV.sl 3 0 0 3,bv b,AV.ls xs] true false,ABlk.mk [] true true] fun r1 o1=>
 AF r1 fun cs1=>
 Aj cs1 fun c l2=>
 br (Bw 1 c)
 (Aj l2 fun c1 l3=>
 Dr 1 0 c1<|
 Aj l3 fun c2 l4=>
 Dr 2 0 c2<|
 Ad l4<|
 AG o1 fun c3 l5=>
 BW c3<|
 AG l5 fun c4 l6=>
 AP true false c4 fun cs2=>
 AI cs2 fun _ l7=>
 Ag l7 fun _ l8=>
 AI l8 fun _ l9=>
 Ad l9<|
 AG l6 fun c5 l10=>
 AP true false c5 fun cs3=>
 Aj cs3 fun c6 l11=>
 CC 4 3 c6 fun n=>
 Ag l11 fun b2 l12=>
 AI l12 fun xs3 l13=>
 Ad l13<|
 AG l10 fun c7 l14=>
 BW c7<|
 AG l14 fun c8 l15=>
 AP true true c8 fun cs4=>
 Ac l15<|
 br ((0+n*3).ble cs4.length) (Af D (Key.fn 89) [AV.agg [AV.ls (BF n 3 (List.take (n*3) cs4)),bv b2,AV.ls xs3]] [] fun r2 o2=>
 At r2 fun cs5=>
 AI cs5 fun xs4 l16=>
 Ag l16 fun b3 l17=>
 AI l17 fun xs5 l18=>
 Ad l18<|
 Ac o2<|
 some ((AV.agg [AV.ls xs4,bv b3,AV.ls xs5],[]))) none)
 (none):=by kernel_rfl
theorem YE(A:Ar)(D:Orc)(i0:Bool)(i1:List (List AV))(r0:List (List AV))(r1:Bool)(r2:List (List AV))(n5:Nat)(k1:Bool)(k2:List (List AV))(c5:List AV)(t14:List (List AV))(t15:Int)(t16:Int):D2 A D As RR .n 251 0 (Bc Vj 0).fst (Bc Vj 0).snd [AV.ptr 0 0,AV.ptr 1 0,AV.ptr 2 0,AV.ls t14,iv t15,iv t16] [{ cells:=[bv i0,AV.ls i1],st:=true,ex:=false },{ cells:=[AV.ls r0,bv r1,AV.ls r2],st:=true,ex:=false },{ cells:=[AV.sl 3 0 n5 3,bv k1,AV.ls k2],st:=true,ex:=false },{ cells:=c5,st:=true,ex:=true }] =
 br (A.lt t16 t15)
 (unI t16 fun i=>
 BG t14 i fun cs=>
 Ay IntKind.i64 cs fun n l=>
 Ag l fun b l1=>
 AI l1 fun xs l2=>
 Ad l2<|
 Af D (Key.fn 264) [AV.agg [bv b,AV.ls xs],AV.agg [bv i0,AV.ls i1]] [] fun r o=>
 At r fun cs1=>
 Ag cs1 fun b1 l3=>
 AI l3 fun xs1 l4=>
 Ad l4<|
 Ac o<|
 br (Bu (n5+1) 40) (br ((0+n5*3).ble c5.length) (Af D (Key.lp 251 0) [AV.ptr 0 0,AV.ptr 1 0,AV.ptr 2 0,AV.ls t14,iv t15,iv (A.add IntKind.i64 t16 1)] [ABlk.mk [bv i0,AV.ls i1] true false,ABlk.mk [AV.ls r0,bv r1,AV.ls r2] true false,ABlk.mk [AV.sl 3 0 (n5+1) 3,bv k1,AV.ls k2] true false,ABlk.mk (List.drop 0 (List.take (0+n5*3) c5)++[iv n,bv b1,AV.ls xs1]) true true] fun r3 o1=>
 AR 4 [0,1,2,6] (AH.mk [(1,ABlk.mk [AV.ls r0,bv r1,AV.ls r2] true false),(0,ABlk.mk [bv i0,AV.ls i1] true false),(2,ABlk.mk [AV.sl 6 0 (n5+1) 3,bv k1,AV.ls k2] true false),(6,ABlk.mk (List.drop 0 (List.take (0+n5*3) c5)++[iv n,bv b1,AV.ls xs1]) true true),(5,ABlk.mk [iv n,bv b1,AV.ls xs1] true true),(4,ABlk.mk [iv n,bv b,AV.ls xs] true false)] 7 none) [3,2,0,1] r3 o1) none) none)
 (some ((AV.tup [iv 0,AV.ptr 1 0,AV.ptr 2 0],[BO.del,BO.set (ABlk.mk [AV.ls r0,bv r1,AV.ls r2] true false),BO.set (ABlk.mk [AV.sl 4 0 n5 3,bv k1,AV.ls k2] true false),BO.del,BO.set (ABlk.mk c5 true true)]))):=by kernel_rfl
theorem AlR(A:Ar)(D:Orc)(x0_0:List (List AV))(x0_1:Bool)(x0_2:List (List AV))(x1_0:List (List AV))(x1_1:Bool)(x1_2:List (List AV)):B3 A D As Aeb .n 173 AeY [AV.agg [AV.ls x0_0,bv x0_1,AV.ls x0_2],AV.agg [AV.ls x1_0,bv x1_1,AV.ls x1_2]] [] =
 Af D (Key.fn 224) [AV.agg [AV.ls x1_0,bv x1_1,AV.ls x1_2]] [] fun r o=>
 At r fun cs=>
 AI cs fun xs l=>
 Ag l fun b l1=>
 AI l1 fun xs1 l2=>
 Ad l2<|
 Ac o<|
 Af D (Key.fn 223) [AV.agg [AV.ls x0_0,bv x0_1,AV.ls x0_2],AV.agg [AV.ls xs,bv b,AV.ls xs1]] [] fun r1 o1=>
 At r1 fun cs1=>
 AI cs1 fun xs2 l3=>
 Ag l3 fun b1 l4=>
 AI l4 fun xs3 l5=>
 Ad l5<|
 Ac o1<|
 some ((AV.agg [AV.ls xs2,bv b1,AV.ls xs3],[])):=by kernel_rfl
theorem AlQ(A:Ar)(D:Orc)(x0_0:List (List AV))(x0_1:Bool)(x0_2:List (List AV)):B3 A D As Aea .n 172 AeX [AV.agg [AV.ls x0_0,bv x0_1,AV.ls x0_2]] [] =
 Af D (Key.fn 89) [AV.agg [AV.ls x0_0,bv x0_1,AV.ls x0_2]] [] fun r o=>
 At r fun cs=>
 AI cs fun xs l=>
 Ag l fun b l1=>
 AI l1 fun xs1 l2=>
 Ad l2<|
 Ac o<|
 some ((AV.agg [AV.ls xs,bv b,AV.ls xs1,bv true],[])):=by kernel_rfl
theorem AlS(A:Ar)(D:Orc)(x0_0:List (List AV))(x0_1:Bool)(x0_2:List (List AV)):B3 A D As Aec .n 174 AeZ [AV.agg [AV.ls x0_0,bv x0_1,AV.ls x0_2]] [] =
 Af D (Key.fn 89) [AV.agg [AV.ls x0_0,bv x0_1,AV.ls x0_2]] [] fun r o=>
 At r fun cs=>
 AI cs fun xs l=>
 Ag l fun b l1=>
 AI l1 fun xs1 l2=>
 Ad l2<|
 Ac o<|
 some ((AV.agg [AV.ls xs,bv b,AV.ls xs1,bv false],[])):=by kernel_rfl
def Ajw:Am:=[]
noncomputable def Ae9:MFn:=Bj Tryz.prog Ah Ajw false false 222
def Aek:Hnt:=⟨[(89,(.agg [.ls,.bool,.ls],[]))],[],[(4,[.ls,.bool,.ls]),(7,[.bool])]⟩
def Ai5:Am:=[]
noncomputable def AeW:MFn:=Bj Tryz.prog Ah Ai5 false false 171
def Ad9:Hnt:=⟨[(222,(.agg [.ls,.bool,.ls,.bool],[]))],[],[(3,[.ls,.bool,.ls,.bool])]⟩
def Am4:Am:=[]
noncomputable def AkC:MFn:=Bj Tryz.prog Ah Am4 false false 64
def Aij:Hnt:=⟨[],[],[]⟩
def Ajz:Am:=[]
noncomputable def Afc:MFn:=Bj Tryz.prog Ah Ajz false false 225
def Aen:Hnt:=⟨[],[],[(4,[.int .i64]),(9,[.ls]),(13,[.ls]),(15,[.ls])]⟩
def Ai9:Am:=[]
noncomputable def Ae0:MFn:=Bj Tryz.prog Ah Ai9 false false 175
def Aed:Hnt:=⟨[(64,(.agg [.int .i64,.ls,.bool,.ls,.bool,.ls],[])),(171,(.agg [.int .i64,.ls,.bool,.ls,.bool,.ls],[])),(176,(.ls,[])),(225,(.ls,[]))],[],[(4,[.int .i64]),(11,[.ls,.bool,.ls,.bool]),(18,[.int .i64]),(19,[.int .i64,.ls,.bool,.ls,.bool,.ls])]⟩
def Aja:Am:=[⟨19,[false,false,false,true,false,false,true,true,true],[(3,6)],[],[(1,([false,false,false,true],([],[])))]⟩]
noncomputable def U8:MFn:=Bj Tryz.prog Ah Aja false false 176
def RJ:Hnt:=⟨[(175,(.agg [.int .i64,.ls,.bool,.ls,.bool,.ls],[]))],[(0,[(1,([.sl 1 6],[.del,.row true]))])],[(10,[.int .i64,.ls,.bool,.ls,.bool,.ls]),(11,[.int .i64,.ls,.bool,.ls,.bool,.ls]),(13,[.int .i64,.ls,.bool,.ls,.bool,.ls])]⟩
def AiA:Am:=[]
noncomputable def AeC:MFn:=Bj Tryz.prog Ah AiA false false 113
def AdQ:Hnt:=⟨[(175,(.agg [.int .i64,.ls,.bool,.ls,.bool,.ls],[]))],[],[(3,[.int .i64,.ls,.bool,.ls,.bool,.ls])]⟩
def AiB:Am:=[]
noncomputable def AeD:MFn:=Bj Tryz.prog Ah AiB false false 114
def AdR:Hnt:=⟨[(176,(.ls,[]))],[],[]⟩
def AiC:Am:=[]
noncomputable def AeE:MFn:=Bj Tryz.prog Ah AiC false false 115
def AdS:Hnt:=⟨[(176,(.ls,[]))],[],[]⟩
def Aiz:Am:=[]
noncomputable def AeB:MFn:=Bj Tryz.prog Ah Aiz false false 112
def Ls:Hnt:=⟨[(64,(.agg [.int .i64,.ls,.bool,.ls,.bool,.ls],[])),(84,(.agg [.bool,.ls],[])),(112,(.agg [.int .i64,.ls,.bool,.ls,.bool,.ls],[])),(113,(.agg [.int .i64,.ls,.bool,.ls,.bool,.ls],[])),(170,(.agg [.ls,.bool,.ls],[])),(171,(.agg [.int .i64,.ls,.bool,.ls,.bool,.ls],[])),(172,(.agg [.ls,.bool,.ls,.bool],[])),(173,(.agg [.ls,.bool,.ls],[])),(174,(.agg [.ls,.bool,.ls,.bool],[]))],[],[(13,[.ls,.bool,.ls]),(14,[.ls,.bool,.ls]),(20,[.ls,.bool,.ls]),(21,[.ls,.bool,.ls]),(26,[.ls,.bool,.ls]),(27,[.ls,.bool,.ls]),(29,[.ls,.bool,.ls]),(35,[.ls,.bool,.ls]),(36,[.ls,.bool,.ls]),(42,[.ls,.bool,.ls]),(43,[.ls,.bool,.ls]),(47,[.ls,.bool,.ls]),(48,[.ls,.bool,.ls])]⟩
noncomputable def NX:List (Nat × MFn):=[(222,Ae9),(171,AeW),(64,AkC),(225,Afc),(175,Ae0),(176,U8),(113,AeC),(114,AeD),(115,AeE),(112,AeB)]
theorem Amc(A:Ar)(D:Orc)(x0_0:List (List AV))(x0_1:Bool)(x0_2:List (List AV))(x0_3:Bool):B3 A D As Aek .n 222 Ae9 [AV.agg [AV.ls x0_0,bv x0_1,AV.ls x0_2,bv x0_3]] [] =
 Af D (Key.fn 89) [AV.agg [AV.ls x0_0,bv x0_1,AV.ls x0_2]] [] fun r o=>
 At r fun cs=>
 AI cs fun xs l=>
 Ag l fun b l1=>
 AI l1 fun xs1 l2=>
 Ad l2<|
 Ac o<|
 some ((AV.agg [AV.ls xs,bv b,AV.ls xs1,bv x0_3],[])):=by kernel_rfl
theorem AlP(A:Ar)(D:Orc)(x0_0:List (List AV))(x0_1:Bool)(x0_2:List (List AV))(x0_3:Bool):B3 A D As Ad9 .n 171 AeW [AV.agg [AV.ls x0_0,bv x0_1,AV.ls x0_2,bv x0_3]] [] =
 Af D (Key.fn 222) [AV.agg [AV.ls x0_0,bv x0_1,AV.ls x0_2,bv x0_3]] [] fun r o=>
 At r fun cs=>
 AI cs fun xs l=>
 Ag l fun b l1=>
 AI l1 fun xs1 l2=>
 Ag l2 fun b1 l3=>
 Ad l3<|
 Ac o<|
 some ((AV.agg [iv 2,AV.ls xs,bv b,AV.ls xs1,bv b1,AV.ls []],[])):=by kernel_rfl
theorem e64(A:Ar)(D:Orc)(x0:Bool):B3 A D As Aij .n 64 AkC [bv x0] [] =
 br x0
 (some ((AV.agg [iv 0,AV.ls [],bv false,AV.ls [],bv false,AV.ls []],[])))
 (some ((AV.agg [iv 1,AV.ls [],bv false,AV.ls [],bv false,AV.ls []],[]))):=by kernel_rfl
theorem Amf(A:Ar)(D:Orc)(x0_0:Int)(x0_1:List (List AV))(x0_2:Bool)(x0_3:List (List AV))(x0_4:Bool)(x0_5:List (List AV)):B3 A D As Aen .n 225 Afc [AV.agg [iv x0_0,AV.ls x0_1,bv x0_2,AV.ls x0_3,bv x0_4,AV.ls x0_5]] [] =
 br (A.eq x0_0 4)
 (some ((AV.ls x0_5,[])))
 (br (A.eq x0_0 5)
 (some ((AV.ls x0_5,[])))
 (br (A.eq x0_0 3)
 (unI (A.min (↑(Be x0_5)) 1) fun i=>
 br (JG 0 i (Be x0_5)) (br (Gi 6 x0_5) (some ((AV.ls (II (Zq1 x0_5 i) 0),[]))) none) none)
 (some ((AV.ls [],[]))))):=by kernel_rfl
theorem AlT(A:Ar)(D:Orc)(x0_0:Int)(x0_1:List (List AV))(x0_2:Bool)(x0_3:List (List AV))(x0_4:Bool)(x0_5:List (List AV)):B3 A D As Aed .n 175 Ae0 [AV.agg [iv x0_0,AV.ls x0_1,bv x0_2,AV.ls x0_3,bv x0_4,AV.ls x0_5]] [] =
 br (A.eq x0_0 0)
 (Af D (Key.fn 64) [bv true] [] fun r o=>
 At r fun cs=>
 Ay IntKind.i64 cs fun n l=>
 AI l fun xs l1=>
 Ag l1 fun b l2=>
 AI l2 fun xs1 l3=>
 Ag l3 fun b1 l4=>
 AI l4 fun xs2 l5=>
 Ad l5<|
 Ac o<|
 some ((AV.agg [iv n,AV.ls xs,bv b,AV.ls xs1,bv b1,AV.ls xs2],[])))
 (br (A.eq x0_0 2)
 (Af D (Key.fn 171) [AV.agg [AV.ls x0_1,bv x0_2,AV.ls x0_3,bv x0_4]] [] fun r o=>
 At r fun cs=>
 Ay IntKind.i64 cs fun n l=>
 AI l fun xs l1=>
 Ag l1 fun b l2=>
 AI l2 fun xs1 l3=>
 Ag l3 fun b1 l4=>
 AI l4 fun xs2 l5=>
 Ad l5<|
 Ac o<|
 some ((AV.agg [iv n,AV.ls xs,bv b,AV.ls xs1,bv b1,AV.ls xs2],[])))
 (br (A.eq x0_0 3)
 (Af D (Key.fn 225) [AV.agg [iv x0_0,AV.ls x0_1,bv x0_2,AV.ls x0_3,bv x0_4,AV.ls x0_5]] [] fun r o=>
 BX r fun xs=>
 Ac o<|
 Af D (Key.fn 176) [AV.ls xs] [] fun r1 o1=>
 BX r1 fun xs1=>
 Ac o1<|
 some ((AV.agg [iv x0_0,AV.ls [],bv false,AV.ls [],bv false,AV.ls xs1],[])))
 (br (A.eq x0_0 4)
 (Af D (Key.fn 225) [AV.agg [iv x0_0,AV.ls x0_1,bv x0_2,AV.ls x0_3,bv x0_4,AV.ls x0_5]] [] fun r o=>
 BX r fun xs=>
 Ac o<|
 Af D (Key.fn 176) [AV.ls xs] [] fun r1 o1=>
 BX r1 fun xs1=>
 Ac o1<|
 some ((AV.agg [iv x0_0,AV.ls [],bv false,AV.ls [],bv false,AV.ls xs1],[])))
 (br (A.eq x0_0 5)
 (Af D (Key.fn 225) [AV.agg [iv x0_0,AV.ls x0_1,bv x0_2,AV.ls x0_3,bv x0_4,AV.ls x0_5]] [] fun r o=>
 BX r fun xs=>
 Ac o<|
 Af D (Key.fn 176) [AV.ls xs] [] fun r1 o1=>
 BX r1 fun xs1=>
 Ac o1<|
 some ((AV.agg [iv x0_0,AV.ls [],bv false,AV.ls [],bv false,AV.ls xs1],[])))
 (Af D (Key.fn 64) [bv false] [] fun r o=>
 At r fun cs=>
 Ay IntKind.i64 cs fun n l=>
 AI l fun xs l1=>
 Ag l1 fun b l2=>
 AI l2 fun xs1 l3=>
 Ag l3 fun b1 l4=>
 AI l4 fun xs2 l5=>
 Ad l5<|
 Ac o<|
 some ((AV.agg [iv n,AV.ls xs,bv b,AV.ls xs1,bv b1,AV.ls xs2],[]))))))):=by kernel_rfl
theorem AlU(A:Ar)(D:Orc)(x0:List (List AV)):B3 A D As RJ .n 176 U8 [AV.ls x0] [] =
 Af D (Key.lp 176 0) [AV.sl 0 0 0 6,AV.ls x0,iv ↑(Be x0),iv 0] [ABlk.mk [] true true] fun r o=>
 AF r fun cs=>
 Aj cs fun c l=>
 br (Bw 1 c)
 (Aj l fun c1 l1=>
 CC 1 6 c1 fun n=>
 Ad l1<|
 AG o fun c2 l2=>
 BW c2<|
 AG l2 fun c3 l3=>
 AP true true c3 fun cs1=>
 Ac l3<|
 br ((0+n*6).ble cs1.length) (some ((AV.ls (BF n 6 (List.take (n*6) cs1)),[]))) none)
 (none):=by kernel_rfl
theorem Yk(A:Ar)(D:Orc)(n3:Nat)(c3:List AV)(t6:List (List AV))(t7:Int)(t8:Int):D2 A D As RJ .n 176 0 (Bc U8 0).fst (Bc U8 0).snd [AV.sl 0 0 n3 6,AV.ls t6,iv t7,iv t8] [{ cells:=c3,st:=true,ex:=true }] =
 br (A.lt t8 t7)
 (unI t8 fun i=>
 BG t6 i fun cs=>
 Ay IntKind.i64 cs fun n l=>
 AI l fun xs l1=>
 Ag l1 fun b l2=>
 AI l2 fun xs1 l3=>
 Ag l3 fun b1 l4=>
 AI l4 fun xs2 l5=>
 Ad l5<|
 Af D (Key.fn 175) [AV.agg [iv n,AV.ls xs,bv b,AV.ls xs1,bv b1,AV.ls xs2]] [] fun r o=>
 At r fun cs1=>
 Ay IntKind.i64 cs1 fun n1 l6=>
 AI l6 fun xs3 l7=>
 Ag l7 fun b2 l8=>
 AI l8 fun xs4 l9=>
 Ag l9 fun b3 l10=>
 AI l10 fun xs5 l11=>
 Ad l11<|
 Ac o<|
 br (Bu (n3+1) 96) (br ((0+n3*6).ble c3.length) (Af D (Key.lp 176 0) [AV.sl 0 0 (n3+1) 6,AV.ls t6,iv t7,iv (A.add IntKind.i64 t8 1)] [ABlk.mk (List.drop 0 (List.take (0+n3*6) c3)++[iv n1,AV.ls xs3,bv b2,AV.ls xs4,bv b3,AV.ls xs5]) true true] fun r1 o1=>
 AR 1 [3] (AH.mk [(3,ABlk.mk (List.drop 0 (List.take (0+n3*6) c3)++[iv n1,AV.ls xs3,bv b2,AV.ls xs4,bv b3,AV.ls xs5]) true true),(2,ABlk.mk [iv n1,AV.ls xs3,bv b2,AV.ls xs4,bv b3,AV.ls xs5] true true),(1,ABlk.mk [iv n,AV.ls xs,bv b,AV.ls xs1,bv b1,AV.ls xs2] true false)] 4 none) [0] r1 o1) none) none)
 (some ((AV.tup [iv 0,AV.sl 1 0 n3 6],[BO.del,BO.set (ABlk.mk c3 true true)]))):=by kernel_rfl
theorem Alq(A:Ar)(D:Orc)(x0_0:Int)(x0_1:List (List AV))(x0_2:Bool)(x0_3:List (List AV))(x0_4:Bool)(x0_5:List (List AV)):B3 A D As AdQ .n 113 AeC [AV.agg [iv x0_0,AV.ls x0_1,bv x0_2,AV.ls x0_3,bv x0_4,AV.ls x0_5]] [] =
 Af D (Key.fn 175) [AV.agg [iv x0_0,AV.ls x0_1,bv x0_2,AV.ls x0_3,bv x0_4,AV.ls x0_5]] [] fun r o=>
 At r fun cs=>
 Ay IntKind.i64 cs fun n l=>
 AI l fun xs l1=>
 Ag l1 fun b l2=>
 AI l2 fun xs1 l3=>
 Ag l3 fun b1 l4=>
 AI l4 fun xs2 l5=>
 Ad l5<|
 Ac o<|
 some ((AV.agg [iv 3,AV.ls [],bv false,AV.ls [],bv false,AV.ls [[iv n,AV.ls xs,bv b,AV.ls xs1,bv b1,AV.ls xs2]]],[])):=by kernel_rfl
theorem Alr(A:Ar)(D:Orc)(x0:List (List AV)):B3 A D As AdR .n 114 AeD [AV.ls x0] [] =
 Af D (Key.fn 176) [AV.ls x0] [] fun r o=>
 BX r fun xs=>
 Ac o<|
 some ((AV.agg [iv 4,AV.ls [],bv false,AV.ls [],bv false,AV.ls xs],[])):=by kernel_rfl
theorem Als(A:Ar)(D:Orc)(x0:List (List AV)):B3 A D As AdS .n 115 AeE [AV.ls x0] [] =
 Af D (Key.fn 176) [AV.ls x0] [] fun r o=>
 BX r fun xs=>
 Ac o<|
 some ((AV.agg [iv 5,AV.ls [],bv false,AV.ls [],bv false,AV.ls xs],[])):=by kernel_rfl
theorem Tu(A:Ar)(D:Orc)(x0:Int)(x1_0:List (List AV))(x1_1:Bool)(x1_2:List (List AV))(x2_0:List (List AV))(x2_1:Bool)(x2_2:List (List AV)):B3 A D As Ls .n 112 AeB [iv x0,AV.agg [AV.ls x1_0,bv x1_1,AV.ls x1_2],AV.agg [AV.ls x2_0,bv x2_1,AV.ls x2_2]] [] =
 Af D (Key.fn 84) [iv 1] [] fun r o=>
 At r fun cs=>
 Ag cs fun b l=>
 AI l fun xs l1=>
 Ad l1<|
 Ac o<|
 Af D (Key.fn 170) [AV.agg [bv b,AV.ls xs]] [] fun r1 o1=>
 At r1 fun cs1=>
 AI cs1 fun xs1 l2=>
 Ag l2 fun b1 l3=>
 AI l3 fun xs2 l4=>
 Ad l4<|
 Ac o1<|
 br (A.eq x0 0)
 (Af D (Key.fn 173) [AV.agg [AV.ls x1_0,bv x1_1,AV.ls x1_2],AV.agg [AV.ls x2_0,bv x2_1,AV.ls x2_2]] [] fun r2 o2=>
 At r2 fun cs2=>
 AI cs2 fun xs3 l5=>
 Ag l5 fun b2 l6=>
 AI l6 fun xs4 l7=>
 Ad l7<|
 Ac o2<|
 Af D (Key.fn 172) [AV.agg [AV.ls xs3,bv b2,AV.ls xs4]] [] fun r3 o3=>
 At r3 fun cs3=>
 AI cs3 fun xs5 l8=>
 Ag l8 fun b3 l9=>
 AI l9 fun xs6 l10=>
 Ag l10 fun b4 l11=>
 Ad l11<|
 Ac o3<|
 Af D (Key.fn 171) [AV.agg [AV.ls xs5,bv b3,AV.ls xs6,bv b4]] [] fun r4 o4=>
 At r4 fun cs4=>
 Ay IntKind.i64 cs4 fun n l12=>
 AI l12 fun xs7 l13=>
 Ag l13 fun b5 l14=>
 AI l14 fun xs8 l15=>
 Ag l15 fun b6 l16=>
 AI l16 fun xs9 l17=>
 Ad l17<|
 Ac o4<|
 some ((AV.agg [iv n,AV.ls xs7,bv b5,AV.ls xs8,bv b6,AV.ls xs9],[])))
 (br (A.eq x0 1)
 (Af D (Key.fn 112) [iv 0,AV.agg [AV.ls x1_0,bv x1_1,AV.ls x1_2],AV.agg [AV.ls x2_0,bv x2_1,AV.ls x2_2]] [] fun r2 o2=>
 At r2 fun cs2=>
 Ay IntKind.i64 cs2 fun n l5=>
 AI l5 fun xs3 l6=>
 Ag l6 fun b2 l7=>
 AI l7 fun xs4 l8=>
 Ag l8 fun b3 l9=>
 AI l9 fun xs5 l10=>
 Ad l10<|
 Ac o2<|
 Af D (Key.fn 113) [AV.agg [iv n,AV.ls xs3,bv b2,AV.ls xs4,bv b3,AV.ls xs5]] [] fun r3 o3=>
 At r3 fun cs3=>
 Ay IntKind.i64 cs3 fun n1 l11=>
 AI l11 fun xs6 l12=>
 Ag l12 fun b4 l13=>
 AI l13 fun xs7 l14=>
 Ag l14 fun b5 l15=>
 AI l15 fun xs8 l16=>
 Ad l16<|
 Ac o3<|
 some ((AV.agg [iv n1,AV.ls xs6,bv b4,AV.ls xs7,bv b5,AV.ls xs8],[])))
 (br (A.eq x0 2)
 (Af D (Key.fn 173) [AV.agg [AV.ls x2_0,bv x2_1,AV.ls x2_2],AV.agg [AV.ls x1_0,bv x1_1,AV.ls x1_2]] [] fun r2 o2=>
 At r2 fun cs2=>
 AI cs2 fun xs3 l5=>
 Ag l5 fun b2 l6=>
 AI l6 fun xs4 l7=>
 Ad l7<|
 Ac o2<|
 Af D (Key.fn 173) [AV.agg [AV.ls xs3,bv b2,AV.ls xs4],AV.agg [AV.ls xs1,bv b1,AV.ls xs2]] [] fun r3 o3=>
 At r3 fun cs3=>
 AI cs3 fun xs5 l8=>
 Ag l8 fun b3 l9=>
 AI l9 fun xs6 l10=>
 Ad l10<|
 Ac o3<|
 Af D (Key.fn 174) [AV.agg [AV.ls xs5,bv b3,AV.ls xs6]] [] fun r4 o4=>
 At r4 fun cs4=>
 AI cs4 fun xs7 l11=>
 Ag l11 fun b4 l12=>
 AI l12 fun xs8 l13=>
 Ag l13 fun b5 l14=>
 Ad l14<|
 Ac o4<|
 Af D (Key.fn 171) [AV.agg [AV.ls xs7,bv b4,AV.ls xs8,bv b5]] [] fun r5 o5=>
 At r5 fun cs5=>
 Ay IntKind.i64 cs5 fun n l15=>
 AI l15 fun xs9 l16=>
 Ag l16 fun b6 l17=>
 AI l17 fun xs10 l18=>
 Ag l18 fun b7 l19=>
 AI l19 fun xs11 l20=>
 Ad l20<|
 Ac o5<|
 some ((AV.agg [iv n,AV.ls xs9,bv b6,AV.ls xs10,bv b7,AV.ls xs11],[])))
 (br (A.eq x0 3)
 (Af D (Key.fn 173) [AV.agg [AV.ls x2_0,bv x2_1,AV.ls x2_2],AV.agg [AV.ls x1_0,bv x1_1,AV.ls x1_2]] [] fun r2 o2=>
 At r2 fun cs2=>
 AI cs2 fun xs3 l5=>
 Ag l5 fun b2 l6=>
 AI l6 fun xs4 l7=>
 Ad l7<|
 Ac o2<|
 Af D (Key.fn 174) [AV.agg [AV.ls xs3,bv b2,AV.ls xs4]] [] fun r3 o3=>
 At r3 fun cs3=>
 AI cs3 fun xs5 l8=>
 Ag l8 fun b3 l9=>
 AI l9 fun xs6 l10=>
 Ag l10 fun b4 l11=>
 Ad l11<|
 Ac o3<|
 Af D (Key.fn 171) [AV.agg [AV.ls xs5,bv b3,AV.ls xs6,bv b4]] [] fun r4 o4=>
 At r4 fun cs4=>
 Ay IntKind.i64 cs4 fun n l12=>
 AI l12 fun xs7 l13=>
 Ag l13 fun b5 l14=>
 AI l14 fun xs8 l15=>
 Ag l15 fun b6 l16=>
 AI l16 fun xs9 l17=>
 Ad l17<|
 Ac o4<|
 some ((AV.agg [iv n,AV.ls xs7,bv b5,AV.ls xs8,bv b6,AV.ls xs9],[])))
 (br (A.eq x0 4)
 (Af D (Key.fn 112) [iv 2,AV.agg [AV.ls x2_0,bv x2_1,AV.ls x2_2],AV.agg [AV.ls x1_0,bv x1_1,AV.ls x1_2]] [] fun r2 o2=>
 At r2 fun cs2=>
 Ay IntKind.i64 cs2 fun n l5=>
 AI l5 fun xs3 l6=>
 Ag l6 fun b2 l7=>
 AI l7 fun xs4 l8=>
 Ag l8 fun b3 l9=>
 AI l9 fun xs5 l10=>
 Ad l10<|
 Ac o2<|
 some ((AV.agg [iv n,AV.ls xs3,bv b2,AV.ls xs4,bv b3,AV.ls xs5],[])))
 (br (A.eq x0 5)
 (Af D (Key.fn 112) [iv 3,AV.agg [AV.ls x2_0,bv x2_1,AV.ls x2_2],AV.agg [AV.ls x1_0,bv x1_1,AV.ls x1_2]] [] fun r2 o2=>
 At r2 fun cs2=>
 Ay IntKind.i64 cs2 fun n l5=>
 AI l5 fun xs3 l6=>
 Ag l6 fun b2 l7=>
 AI l7 fun xs4 l8=>
 Ag l8 fun b3 l9=>
 AI l9 fun xs5 l10=>
 Ad l10<|
 Ac o2<|
 some ((AV.agg [iv n,AV.ls xs3,bv b2,AV.ls xs4,bv b3,AV.ls xs5],[])))
 (Af D (Key.fn 64) [bv false] [] fun r2 o2=>
 At r2 fun cs2=>
 Ay IntKind.i64 cs2 fun n l5=>
 AI l5 fun xs3 l6=>
 Ag l6 fun b2 l7=>
 AI l7 fun xs4 l8=>
 Ag l8 fun b3 l9=>
 AI l9 fun xs5 l10=>
 Ad l10<|
 Ac o2<|
 some ((AV.agg [iv n,AV.ls xs3,bv b2,AV.ls xs4,bv b3,AV.ls xs5],[])))))))):=by kernel_rfl
def AmN:Am:=[⟨61,[false,true,false,false,true,false,true,false,false,false,false,false,false,false,false,true,true,true],[(1000006,3),(3000006,0)],[4],[(0,([false,false,false,false,true,true],([4],[1000006,6]))),(1,([false,false,false,false,true,false,true],([],[])))]⟩]
noncomputable def Ach:MFn:=Bj Tryz.prog Ah AmN false false 44
def Y2:Hnt:=⟨[(23,(.bool,[])),(84,(.agg [.bool,.ls],[])),(85,(.tup [.agg [.bool,.ls],.int .i64],[])),(86,(.agg [.bool,.ls],[])),(87,(.agg [.bool,.ls],[])),(88,(.int .i64,[])),(89,(.agg [.ls,.bool,.ls],[]))],[(0,[(0,([.ptr 0 0,.bool],[.box [.ls,.bool,.ls],.del,.del])),(1,([.ptr 0 0,.ptr 1 0],[.box [.ls,.bool,.ls],.box [.sl 3 3,.bool,.ls],.del,.row true]))])],[(19,[.bool,.str,.str]),(20,[.bool,.str,.str]),(23,[.str]),(27,[.str]),(32,[.bool]),(33,[.bool,.ls]),(36,[.str]),(39,[.bool,.ls]),(40,[.bool,.ls]),(45,[.str]),(51,[.ls]),(53,[.bool,.ls]),(59,[.ls,.bool,.ls])]⟩
def Am5:Am:=[⟨82,[false,true,true,false,true,false,false,false,false,false,true,false,false,false,false,false,false,false,false,false,false,false,false,false,false,false,false,false,false,false,false,false,false,false,false,false,false,false,false,false,false,false,true,true,true],[(10,6)],[2,4],[(0,([false,false,false,false,true,true],([4],[2,10]))),(1,([false,false,true,false,true,false,false,false,false,false,true],([],[])))]⟩]
noncomputable def Acj:MFn:=Bj Tryz.prog Ah Am5 false false 65
def Wu:Hnt:=⟨[(44,(.tup [.agg [.ls,.bool,.ls],.bool],[])),(64,(.agg [.int .i64,.ls,.bool,.ls,.bool,.ls],[])),(65,(.tup [.agg [.int .i64,.ls,.bool,.ls,.bool,.ls],.bool],[])),(112,(.agg [.int .i64,.ls,.bool,.ls,.bool,.ls],[])),(113,(.agg [.int .i64,.ls,.bool,.ls,.bool,.ls],[])),(114,(.agg [.int .i64,.ls,.bool,.ls,.bool,.ls],[])),(115,(.agg [.int .i64,.ls,.bool,.ls,.bool,.ls],[]))],[(0,[(0,([.ptr 1 0,.bool],[.del,.box [.int .i64,.ls,.bool,.ls,.bool,.ls],.del])),(1,([.ptr 0 0,.ptr 1 0,.sl 3 6],[.box [.int .i64,.ls,.ls,.int .i64,.str,.str,.ls],.box [.int .i64,.ls,.bool,.ls,.bool,.ls],.del,.row true]))])],[(16,[.int .i64]),(20,[.ls]),(27,[.ls]),(33,[.int .i64]),(34,[.ls,.bool,.ls]),(35,[.ls,.bool,.ls]),(42,[.ls]),(46,[.int .i64,.ls,.ls,.int .i64,.str,.str,.ls]),(47,[.int .i64,.ls,.ls,.int .i64,.str,.str,.ls]),(49,[.int .i64,.ls,.ls,.int .i64,.str,.str,.ls]),(58,[.int .i64,.ls,.bool,.ls,.bool,.ls]),(63,[.int .i64]),(70,[.int .i64,.ls,.bool,.ls,.bool,.ls]),(71,[.int .i64,.ls,.bool,.ls,.bool,.ls])]⟩
def AmK:Am:=[]
noncomputable def Aku:MFn:=Bj Tryz.prog Ah AmK false false 27
def Aib:Hnt:=⟨[(24,(.bool,[])),(64,(.agg [.int .i64,.ls,.bool,.ls,.bool,.ls],[])),(65,(.tup [.agg [.int .i64,.ls,.bool,.ls,.bool,.ls],.bool],[]))],[],[(8,[.int .i64,.ls,.ls,.int .i64,.str,.str,.ls]),(13,[.int .i64,.ls,.ls,.int .i64,.str,.str,.ls]),(21,[.int .i64,.ls,.bool,.ls,.bool,.ls])]⟩
noncomputable def Pz:List (Nat × MFn):=[(44,Ach),(65,Acj),(27,Aku)]
theorem e44(A:Ar)(D:Orc)(x0:List (List AV))(x1:List (List AV)):B3 A D As Y2 .n 44 Ach [AV.ls x0,AV.ls x1] [] =
 Af D (Key.fn 23) [AV.ls x0] [] fun r o=>
 AW r fun b=>
 Ac o<|
 br b
 (Af D (Key.lp 44 0) [AV.ls x1,AV.ptr 0 0,AV.ptr 1 0,AV.ls x0,iv ↑(Be x0),iv 0] [ABlk.mk [AV.ls [],bv false,AV.ls []] true false,ABlk.mk [AV.sl 2 0 0 3,bv false,AV.ls []] true false,ABlk.mk [] true true] fun r1 o1=>
 AF r1 fun cs=>
 Aj cs fun c l=>
 br (Bw 0 c)
 (Aj l fun c1 l1=>
 Dr 0 0 c1<|
 Ag l1 fun b1 l2=>
 Ad l2<|
 AG o1 fun c2 l3=>
 AP true false c2 fun cs1=>
 AI cs1 fun xs l4=>
 Ag l4 fun b2 l5=>
 AI l5 fun xs1 l6=>
 Ad l6<|
 AG l3 fun c3 l7=>
 BW c3<|
 AG l7 fun c4 l8=>
 BW c4<|
 Ac l8<|
 some ((AV.tup [AV.agg [AV.ls xs,bv b2,AV.ls xs1],bv b1],[])))
 (br (Bw 1 c)
 (Aj l fun c1 l1=>
 Dr 0 0 c1<|
 Aj l1 fun c2 l2=>
 Dr 1 0 c2<|
 Ad l2<|
 AG o1 fun c3 l3=>
 AP true false c3 fun cs1=>
 AI cs1 fun _ l4=>
 Ag l4 fun _ l5=>
 AI l5 fun _ l6=>
 Ad l6<|
 AG l3 fun c4 l7=>
 AP true false c4 fun cs2=>
 Aj cs2 fun c5 l8=>
 CC 3 3 c5 fun n=>
 Ag l8 fun b2 l9=>
 AI l9 fun xs2 l10=>
 Ad l10<|
 AG l7 fun c6 l11=>
 BW c6<|
 AG l11 fun c7 l12=>
 AP true true c7 fun cs3=>
 Ac l12<|
 br ((0+n*3).ble cs3.length) (Af D (Key.fn 89) [AV.agg [AV.ls (BF n 3 (List.take (n*3) cs3)),bv b2,AV.ls xs2]] [] fun r2 o2=>
 At r2 fun cs4=>
 AI cs4 fun xs3 l13=>
 Ag l13 fun b3 l14=>
 AI l14 fun xs4 l15=>
 Ad l15<|
 Ac o2<|
 some ((AV.tup [AV.agg [AV.ls xs3,bv b3,AV.ls xs4],bv true],[]))) none)
 (none)))
 (some ((AV.tup [AV.agg [AV.ls [],bv false,AV.ls []],bv false],[]))):=by kernel_rfl
theorem AdB(A:Ar)(D:Orc)(t1:List (List AV))(r0:List (List AV))(r1:Bool)(r2:List (List AV))(n6:Nat)(k1:Bool)(k2:List (List AV))(c6:List AV)(t15:List (List AV))(t16:Int)(t17:Int):D2 A D As Y2 .n 44 0 (Bc Ach 0).fst (Bc Ach 0).snd [AV.ls t1,AV.ptr 0 0,AV.ptr 1 0,AV.ls t15,iv t16,iv t17] [{ cells:=[AV.ls r0,bv r1,AV.ls r2],st:=true,ex:=false },{ cells:=[AV.sl 2 0 n6 3,bv k1,AV.ls k2],st:=true,ex:=false },{ cells:=c6,st:=true,ex:=true }] =
 br (A.lt t17 t16)
 (unI t17 fun i=>
 BG t15 i fun cs=>
 Ag cs fun b l=>
 Br l fun s l1=>
 Br l1 fun s1 l2=>
 Ad l2<|
 Af D (Key.fn 84) [iv 1] [] fun r o=>
 At r fun cs1=>
 Ag cs1 fun b1 l3=>
 AI l3 fun xs l4=>
 Ad l4<|
 Ac o<|
 br (A.seq s (AE []))
 (br b
 (Af D (Key.fn 86) [AV.agg [bv b1,AV.ls xs]] [] fun r3 o1=>
 At r3 fun cs2=>
 Ag cs2 fun b2 l5=>
 AI l5 fun xs1 l6=>
 Ad l6<|
 Ac o1<|
 br (A.seq s1 (AE []))
 (Af D (Key.fn 87) [AV.agg [bv k1,AV.ls k2],AV.agg [bv b2,AV.ls xs1]] [] fun r4 o2=>
 At r4 fun cs3=>
 Ag cs3 fun b3 l7=>
 AI l7 fun xs2 l8=>
 Ad l8<|
 Ac o2<|
 Af D (Key.lp 44 0) [AV.ls t1,AV.ptr 0 0,AV.ptr 1 0,AV.ls t15,iv t16,iv (A.add IntKind.i64 t17 1)] [ABlk.mk [AV.ls r0,bv r1,AV.ls r2] true false,ABlk.mk [AV.sl 2 0 n6 3,bv b3,AV.ls xs2] true false,ABlk.mk c6 true true] fun r5 o3=>
 AR 3 [0,1,2] (AH.mk [(0,ABlk.mk [AV.ls r0,bv r1,AV.ls r2] true false),(1,ABlk.mk [AV.sl 2 0 n6 3,bv b3,AV.ls xs2] true false),(4,ABlk.mk [bv b2,AV.ls xs1] true false),(3,ABlk.mk [bv b,sv s,sv s1] true false),(2,ABlk.mk c6 true true)] 5 none) [1,0] r5 o3)
 (Af D (Key.fn 88) [AV.ls t1,sv s1] [] fun r4 o2=>
 Bp IntKind.i64 r4 fun n=>
 Ac o2<|
 br (A.lt n 0)
 (some ((AV.tup [bv true,AV.ptr 0 0,bv false],[BO.set (ABlk.mk [AV.ls [],bv false,AV.ls []] true false),BO.del,BO.del])))
 (br (Bu (n6+1) 40) (br ((0+n6*3).ble c6.length) (Af D (Key.lp 44 0) [AV.ls t1,AV.ptr 0 0,AV.ptr 1 0,AV.ls t15,iv t16,iv (A.add IntKind.i64 t17 1)] [ABlk.mk [AV.ls r0,bv r1,AV.ls r2] true false,ABlk.mk [AV.sl 2 0 (n6+1) 3,bv k1,AV.ls k2] true false,ABlk.mk (List.drop 0 (List.take (0+n6*3) c6)++[iv n,bv b2,AV.ls xs1]) true true] fun r5 o3=>
 AR 3 [0,1,6] (AH.mk [(0,ABlk.mk [AV.ls r0,bv r1,AV.ls r2] true false),(1,ABlk.mk [AV.sl 6 0 (n6+1) 3,bv k1,AV.ls k2] true false),(6,ABlk.mk (List.drop 0 (List.take (0+n6*3) c6)++[iv n,bv b2,AV.ls xs1]) true true),(5,ABlk.mk [iv n,bv b2,AV.ls xs1] true true),(4,ABlk.mk [bv b2,AV.ls xs1] true false),(3,ABlk.mk [bv b,sv s,sv s1] true false)] 7 none) [2,1,0] r5 o3) none) none)))
 (br (A.seq s1 (AE []))
 (Af D (Key.fn 87) [AV.agg [bv k1,AV.ls k2],AV.agg [bv b1,AV.ls xs]] [] fun r3 o1=>
 At r3 fun cs2=>
 Ag cs2 fun b2 l5=>
 AI l5 fun xs1 l6=>
 Ad l6<|
 Ac o1<|
 Af D (Key.lp 44 0) [AV.ls t1,AV.ptr 0 0,AV.ptr 1 0,AV.ls t15,iv t16,iv (A.add IntKind.i64 t17 1)] [ABlk.mk [AV.ls r0,bv r1,AV.ls r2] true false,ABlk.mk [AV.sl 2 0 n6 3,bv b2,AV.ls xs1] true false,ABlk.mk c6 true true] fun r4 o2=>
 AR 3 [0,1,2] (AH.mk [(0,ABlk.mk [AV.ls r0,bv r1,AV.ls r2] true false),(1,ABlk.mk [AV.sl 2 0 n6 3,bv b2,AV.ls xs1] true false),(4,ABlk.mk [bv b1,AV.ls xs] true false),(3,ABlk.mk [bv b,sv s,sv s1] true false),(2,ABlk.mk c6 true true)] 5 none) [1,0] r4 o2)
 (Af D (Key.fn 88) [AV.ls t1,sv s1] [] fun r3 o1=>
 Bp IntKind.i64 r3 fun n=>
 Ac o1<|
 br (A.lt n 0)
 (some ((AV.tup [bv true,AV.ptr 0 0,bv false],[BO.set (ABlk.mk [AV.ls [],bv false,AV.ls []] true false),BO.del,BO.del])))
 (br (Bu (n6+1) 40) (br ((0+n6*3).ble c6.length) (Af D (Key.lp 44 0) [AV.ls t1,AV.ptr 0 0,AV.ptr 1 0,AV.ls t15,iv t16,iv (A.add IntKind.i64 t17 1)] [ABlk.mk [AV.ls r0,bv r1,AV.ls r2] true false,ABlk.mk [AV.sl 2 0 (n6+1) 3,bv k1,AV.ls k2] true false,ABlk.mk (List.drop 0 (List.take (0+n6*3) c6)++[iv n,bv b1,AV.ls xs]) true true] fun r4 o2=>
 AR 3 [0,1,6] (AH.mk [(0,ABlk.mk [AV.ls r0,bv r1,AV.ls r2] true false),(1,ABlk.mk [AV.sl 6 0 (n6+1) 3,bv k1,AV.ls k2] true false),(6,ABlk.mk (List.drop 0 (List.take (0+n6*3) c6)++[iv n,bv b1,AV.ls xs]) true true),(5,ABlk.mk [iv n,bv b1,AV.ls xs] true true),(4,ABlk.mk [bv b1,AV.ls xs] true false),(3,ABlk.mk [bv b,sv s,sv s1] true false)] 7 none) [2,1,0] r4 o2) none) none))))
 (Af D (Key.fn 85) [sv s] [] fun r3 o1=>
 AF r3 fun cs2=>
 Aj cs2 fun c l5=>
 At c fun cs3=>
 Ag cs3 fun b2 l6=>
 AI l6 fun xs1 l7=>
 Ad l7<|
 Ay IntKind.i64 l5 fun _ l8=>
 Ad l8<|
 Ac o1<|
 br b
 (Af D (Key.fn 86) [AV.agg [bv b2,AV.ls xs1]] [] fun r4 o2=>
 At r4 fun cs4=>
 Ag cs4 fun b3 l9=>
 AI l9 fun xs2 l10=>
 Ad l10<|
 Ac o2<|
 br (A.seq s1 (AE []))
 (Af D (Key.fn 87) [AV.agg [bv k1,AV.ls k2],AV.agg [bv b3,AV.ls xs2]] [] fun r5 o3=>
 At r5 fun cs5=>
 Ag cs5 fun b4 l11=>
 AI l11 fun xs3 l12=>
 Ad l12<|
 Ac o3<|
 Af D (Key.lp 44 0) [AV.ls t1,AV.ptr 0 0,AV.ptr 1 0,AV.ls t15,iv t16,iv (A.add IntKind.i64 t17 1)] [ABlk.mk [AV.ls r0,bv r1,AV.ls r2] true false,ABlk.mk [AV.sl 2 0 n6 3,bv b4,AV.ls xs3] true false,ABlk.mk c6 true true] fun r6 o4=>
 AR 3 [0,1,2] (AH.mk [(0,ABlk.mk [AV.ls r0,bv r1,AV.ls r2] true false),(1,ABlk.mk [AV.sl 2 0 n6 3,bv b4,AV.ls xs3] true false),(4,ABlk.mk [bv b3,AV.ls xs2] true false),(3,ABlk.mk [bv b,sv s,sv s1] true false),(2,ABlk.mk c6 true true)] 5 none) [1,0] r6 o4)
 (Af D (Key.fn 88) [AV.ls t1,sv s1] [] fun r5 o3=>
 Bp IntKind.i64 r5 fun n1=>
 Ac o3<|
 br (A.lt n1 0)
 (some ((AV.tup [bv true,AV.ptr 0 0,bv false],[BO.set (ABlk.mk [AV.ls [],bv false,AV.ls []] true false),BO.del,BO.del])))
 (br (Bu (n6+1) 40) (br ((0+n6*3).ble c6.length) (Af D (Key.lp 44 0) [AV.ls t1,AV.ptr 0 0,AV.ptr 1 0,AV.ls t15,iv t16,iv (A.add IntKind.i64 t17 1)] [ABlk.mk [AV.ls r0,bv r1,AV.ls r2] true false,ABlk.mk [AV.sl 2 0 (n6+1) 3,bv k1,AV.ls k2] true false,ABlk.mk (List.drop 0 (List.take (0+n6*3) c6)++[iv n1,bv b3,AV.ls xs2]) true true] fun r6 o4=>
 AR 3 [0,1,6] (AH.mk [(0,ABlk.mk [AV.ls r0,bv r1,AV.ls r2] true false),(1,ABlk.mk [AV.sl 6 0 (n6+1) 3,bv k1,AV.ls k2] true false),(6,ABlk.mk (List.drop 0 (List.take (0+n6*3) c6)++[iv n1,bv b3,AV.ls xs2]) true true),(5,ABlk.mk [iv n1,bv b3,AV.ls xs2] true true),(4,ABlk.mk [bv b3,AV.ls xs2] true false),(3,ABlk.mk [bv b,sv s,sv s1] true false)] 7 none) [2,1,0] r6 o4) none) none)))
 (br (A.seq s1 (AE []))
 (Af D (Key.fn 87) [AV.agg [bv k1,AV.ls k2],AV.agg [bv b2,AV.ls xs1]] [] fun r4 o2=>
 At r4 fun cs4=>
 Ag cs4 fun b3 l9=>
 AI l9 fun xs2 l10=>
 Ad l10<|
 Ac o2<|
 Af D (Key.lp 44 0) [AV.ls t1,AV.ptr 0 0,AV.ptr 1 0,AV.ls t15,iv t16,iv (A.add IntKind.i64 t17 1)] [ABlk.mk [AV.ls r0,bv r1,AV.ls r2] true false,ABlk.mk [AV.sl 2 0 n6 3,bv b3,AV.ls xs2] true false,ABlk.mk c6 true true] fun r5 o3=>
 AR 3 [0,1,2] (AH.mk [(0,ABlk.mk [AV.ls r0,bv r1,AV.ls r2] true false),(1,ABlk.mk [AV.sl 2 0 n6 3,bv b3,AV.ls xs2] true false),(4,ABlk.mk [bv b2,AV.ls xs1] true false),(3,ABlk.mk [bv b,sv s,sv s1] true false),(2,ABlk.mk c6 true true)] 5 none) [1,0] r5 o3)
 (Af D (Key.fn 88) [AV.ls t1,sv s1] [] fun r4 o2=>
 Bp IntKind.i64 r4 fun n1=>
 Ac o2<|
 br (A.lt n1 0)
 (some ((AV.tup [bv true,AV.ptr 0 0,bv false],[BO.set (ABlk.mk [AV.ls [],bv false,AV.ls []] true false),BO.del,BO.del])))
 (br (Bu (n6+1) 40) (br ((0+n6*3).ble c6.length) (Af D (Key.lp 44 0) [AV.ls t1,AV.ptr 0 0,AV.ptr 1 0,AV.ls t15,iv t16,iv (A.add IntKind.i64 t17 1)] [ABlk.mk [AV.ls r0,bv r1,AV.ls r2] true false,ABlk.mk [AV.sl 2 0 (n6+1) 3,bv k1,AV.ls k2] true false,ABlk.mk (List.drop 0 (List.take (0+n6*3) c6)++[iv n1,bv b2,AV.ls xs1]) true true] fun r5 o3=>
 AR 3 [0,1,6] (AH.mk [(0,ABlk.mk [AV.ls r0,bv r1,AV.ls r2] true false),(1,ABlk.mk [AV.sl 6 0 (n6+1) 3,bv k1,AV.ls k2] true false),(6,ABlk.mk (List.drop 0 (List.take (0+n6*3) c6)++[iv n1,bv b2,AV.ls xs1]) true true),(5,ABlk.mk [iv n1,bv b2,AV.ls xs1] true true),(4,ABlk.mk [bv b2,AV.ls xs1] true false),(3,ABlk.mk [bv b,sv s,sv s1] true false)] 7 none) [2,1,0] r5 o3) none) none)))))
 (some ((AV.tup [iv 0,AV.ptr 0 0,AV.ptr 1 0],[BO.set (ABlk.mk [AV.ls r0,bv r1,AV.ls r2] true false),BO.set (ABlk.mk [AV.sl 3 0 n6 3,bv k1,AV.ls k2] true false),BO.del,BO.set (ABlk.mk c6 true true)]))):=by kernel_rfl
theorem e65(A:Ar)(D:Orc)(x0_0:Int)(x0_1:List (List AV))(x0_2:List (List AV))(x0_3:Int)(x0_4:ByteArray)(x0_5:ByteArray)(x0_6:List (List AV))(x1:List (List AV)):B3 A D As Wu (.b (.b (.b (.t .n) (.f .n)) .n) .n) 65 Acj [AV.agg [iv x0_0,AV.ls x0_1,AV.ls x0_2,iv x0_3,sv x0_4,sv x0_5,AV.ls x0_6],AV.ls x1] [] =
 br (A.eq x0_0 2)
 (Af D (Key.fn 44) [AV.ls x0_1,AV.ls x1] [] fun r o=>
 AF r fun cs=>
 Aj cs fun c l=>
 At c fun cs1=>
 AI cs1 fun xs l1=>
 Ag l1 fun b l2=>
 AI l2 fun xs1 l3=>
 Ad l3<|
 Ag l fun b1 l4=>
 Ad l4<|
 Ac o<|
 Af D (Key.fn 44) [AV.ls x0_2,AV.ls x1] [] fun r1 o1=>
 AF r1 fun cs2=>
 Aj cs2 fun c1 l5=>
 At c1 fun cs3=>
 AI cs3 fun xs2 l6=>
 Ag l6 fun b2 l7=>
 AI l7 fun xs3 l8=>
 Ad l8<|
 Ag l5 fun b3 l9=>
 Ad l9<|
 Ac o1<|
 Af D (Key.fn 112) [iv x0_3,AV.agg [AV.ls xs,bv b,AV.ls xs1],AV.agg [AV.ls xs2,bv b2,AV.ls xs3]] [] fun r2 o2=>
 At r2 fun cs4=>
 Ay IntKind.i64 cs4 fun n l10=>
 AI l10 fun xs4 l11=>
 Ag l11 fun b4 l12=>
 AI l12 fun xs5 l13=>
 Ag l13 fun b5 l14=>
 AI l14 fun xs6 l15=>
 Ad l15<|
 Ac o2<|
 br b1
 (br b1 (br b3
 (some ((AV.tup [AV.agg [iv n,AV.ls xs4,bv b4,AV.ls xs5,bv b5,AV.ls xs6],bv true],[])))
 (some ((AV.tup [AV.agg [iv n,AV.ls xs4,bv b4,AV.ls xs5,bv b5,AV.ls xs6],bv false],[])))) none)
 (br b1 none (some ((AV.tup [AV.agg [iv n,AV.ls xs4,bv b4,AV.ls xs5,bv b5,AV.ls xs6],bv false],[])))))
 (Af D (Key.lp 65 0) [AV.ls x1,AV.ptr 0 0,AV.ptr 1 0,AV.sl 2 0 0 6,AV.ls x0_6,iv ↑(Be x0_6),iv 0] [ABlk.mk [iv x0_0,AV.ls x0_1,AV.ls x0_2,iv x0_3,sv x0_4,sv x0_5,AV.ls x0_6] true false,ABlk.mk [iv 0,AV.ls [],bv false,AV.ls [],bv false,AV.ls []] true false,ABlk.mk [] true true] fun r o=>
 AF r fun cs=>
 Aj cs fun c l=>
 br (Bw 0 c)
 (Aj l fun c1 l1=>
 Dr 1 0 c1<|
 Ag l1 fun b l2=>
 Ad l2<|
 AG o fun c2 l3=>
 BW c2<|
 AG l3 fun c3 l4=>
 AP true false c3 fun cs1=>
 Ay IntKind.i64 cs1 fun n l5=>
 AI l5 fun xs l6=>
 Ag l6 fun b1 l7=>
 AI l7 fun xs1 l8=>
 Ag l8 fun b2 l9=>
 AI l9 fun xs2 l10=>
 Ad l10<|
 AG l4 fun c4 l11=>
 BW c4<|
 Ac l11<|
 some ((AV.tup [AV.agg [iv n,AV.ls xs,bv b1,AV.ls xs1,bv b2,AV.ls xs2],bv b],[])))
 (br (Bw 1 c)
 (Aj l fun c1 l1=>
 Dr 0 0 c1<|
 Aj l1 fun c2 l2=>
 Dr 1 0 c2<|
 Aj l2 fun c3 l3=>
 CC 3 6 c3 fun n=>
 Ad l3<|
 AG o fun c4 l4=>
 AP true false c4 fun cs1=>
 Ay IntKind.i64 cs1 fun n1 l5=>
 AI l5 fun _ l6=>
 AI l6 fun _ l7=>
 Ay IntKind.i64 l7 fun _ l8=>
 Br l8 fun _ l9=>
 Br l9 fun _ l10=>
 AI l10 fun _ l11=>
 Ad l11<|
 AG l4 fun c5 l12=>
 AP true false c5 fun cs2=>
 Ay IntKind.i64 cs2 fun _ l13=>
 AI l13 fun _ l14=>
 Ag l14 fun _ l15=>
 AI l15 fun _ l16=>
 Ag l16 fun _ l17=>
 AI l17 fun _ l18=>
 Ad l18<|
 AG l12 fun c6 l19=>
 BW c6<|
 AG l19 fun c7 l20=>
 AP true true c7 fun cs3=>
 Ac l20<|
 br (A.eq n1 0)
 (Af D (Key.fn 64) [bv true] [] fun r1 o1=>
 At r1 fun cs4=>
 Ay IntKind.i64 cs4 fun n4 l21=>
 AI l21 fun xs6 l22=>
 Ag l22 fun b2 l23=>
 AI l23 fun xs7 l24=>
 Ag l24 fun b3 l25=>
 AI l25 fun xs8 l26=>
 Ad l26<|
 Ac o1<|
 some ((AV.tup [AV.agg [iv n4,AV.ls xs6,bv b2,AV.ls xs7,bv b3,AV.ls xs8],bv true],[])))
 (br (A.eq n1 3)
 (br (Nat.blt 0 n) (IA cs3 0 6 fun cs4=>
 Ay IntKind.i64 cs4 fun n4 l21=>
 AI l21 fun xs6 l22=>
 Ag l22 fun b2 l23=>
 AI l23 fun xs7 l24=>
 Ag l24 fun b3 l25=>
 AI l25 fun xs8 l26=>
 Ad l26<|
 Af D (Key.fn 113) [AV.agg [iv n4,AV.ls xs6,bv b2,AV.ls xs7,bv b3,AV.ls xs8]] [] fun r1 o1=>
 At r1 fun cs5=>
 Ay IntKind.i64 cs5 fun n5 l27=>
 AI l27 fun xs9 l28=>
 Ag l28 fun b4 l29=>
 AI l29 fun xs10 l30=>
 Ag l30 fun b5 l31=>
 AI l31 fun xs11 l32=>
 Ad l32<|
 Ac o1<|
 some ((AV.tup [AV.agg [iv n5,AV.ls xs9,bv b4,AV.ls xs10,bv b5,AV.ls xs11],bv true],[]))) none)
 (br (A.eq n1 4)
 (br ((0+n*6).ble cs3.length) (Af D (Key.fn 114) [AV.ls (BF n 6 (List.take (n*6) cs3))] [] fun r1 o1=>
 At r1 fun cs4=>
 Ay IntKind.i64 cs4 fun n4 l21=>
 AI l21 fun xs6 l22=>
 Ag l22 fun b2 l23=>
 AI l23 fun xs7 l24=>
 Ag l24 fun b3 l25=>
 AI l25 fun xs8 l26=>
 Ad l26<|
 Ac o1<|
 some ((AV.tup [AV.agg [iv n4,AV.ls xs6,bv b2,AV.ls xs7,bv b3,AV.ls xs8],bv true],[]))) none)
 (br (A.eq n1 5)
 (br ((0+n*6).ble cs3.length) (Af D (Key.fn 115) [AV.ls (BF n 6 (List.take (n*6) cs3))] [] fun r1 o1=>
 At r1 fun cs4=>
 Ay IntKind.i64 cs4 fun n4 l21=>
 AI l21 fun xs6 l22=>
 Ag l22 fun b2 l23=>
 AI l23 fun xs7 l24=>
 Ag l24 fun b3 l25=>
 AI l25 fun xs8 l26=>
 Ad l26<|
 Ac o1<|
 some ((AV.tup [AV.agg [iv n4,AV.ls xs6,bv b2,AV.ls xs7,bv b3,AV.ls xs8],bv true],[]))) none)
 (Af D (Key.fn 64) [bv false] [] fun r1 o1=>
 At r1 fun cs4=>
 Ay IntKind.i64 cs4 fun n4 l21=>
 AI l21 fun xs6 l22=>
 Ag l22 fun b2 l23=>
 AI l23 fun xs7 l24=>
 Ag l24 fun b3 l25=>
 AI l25 fun xs8 l26=>
 Ad l26<|
 Ac o1<|
 some ((AV.tup [AV.agg [iv n4,AV.ls xs6,bv b2,AV.ls xs7,bv b3,AV.ls xs8],bv true],[])))))))
 (none))):=by kernel_rfl
theorem AdD(A:Ar)(D:Orc)(t1:List (List AV))(b2_0:Int)(b2_1:List (List AV))(b2_2:List (List AV))(b2_3:Int)(b2_4:ByteArray)(b2_5:ByteArray)(b2_6:List (List AV))(b4_0:Int)(b4_1:List (List AV))(b4_2:Bool)(b4_3:List (List AV))(b4_4:Bool)(b4_5:List (List AV))(n10:Nat)(c10:List AV)(t42:List (List AV))(t43:Int)(t44:Int):D2 A D As Wu .n 65 0 (Bc Acj 0).fst (Bc Acj 0).snd [AV.ls t1,AV.ptr 0 0,AV.ptr 1 0,AV.sl 2 0 n10 6,AV.ls t42,iv t43,iv t44] [{ cells:=[iv b2_0,AV.ls b2_1,AV.ls b2_2,iv b2_3,sv b2_4,sv b2_5,AV.ls b2_6],st:=true,ex:=false },{ cells:=[iv b4_0,AV.ls b4_1,bv b4_2,AV.ls b4_3,bv b4_4,AV.ls b4_5],st:=true,ex:=false },{ cells:=c10,st:=true,ex:=true }] =
 br (A.lt t44 t43)
 (unI t44 fun i=>
 BG t42 i fun cs=>
 Ay IntKind.i64 cs fun n l=>
 AI l fun xs l1=>
 AI l1 fun xs1 l2=>
 Ay IntKind.i64 l2 fun n1 l3=>
 Br l3 fun s l4=>
 Br l4 fun s1 l5=>
 AI l5 fun xs2 l6=>
 Ad l6<|
 Af D (Key.fn 65) [AV.agg [iv n,AV.ls xs,AV.ls xs1,iv n1,sv s,sv s1,AV.ls xs2],AV.ls t1] [] fun r o=>
 AF r fun cs1=>
 Aj cs1 fun c l7=>
 At c fun cs2=>
 Ay IntKind.i64 cs2 fun n2 l8=>
 AI l8 fun xs3 l9=>
 Ag l9 fun b l10=>
 AI l10 fun xs4 l11=>
 Ag l11 fun b1 l12=>
 AI l12 fun xs5 l13=>
 Ad l13<|
 Ag l7 fun b2 l14=>
 Ad l14<|
 Ac o<|
 br (A.not b2)
 (some ((AV.tup [bv true,AV.ptr 1 0,bv false],[BO.del,BO.set (ABlk.mk [iv 0,AV.ls [],bv false,AV.ls [],bv false,AV.ls []] true false),BO.del])))
 (br (Bu (n10+1) 96) (br ((0+n10*6).ble c10.length) (Af D (Key.lp 65 0) [AV.ls t1,AV.ptr 0 0,AV.ptr 1 0,AV.sl 2 0 (n10+1) 6,AV.ls t42,iv t43,iv (A.add IntKind.i64 t44 1)] [ABlk.mk [iv b2_0,AV.ls b2_1,AV.ls b2_2,iv b2_3,sv b2_4,sv b2_5,AV.ls b2_6] true false,ABlk.mk [iv b4_0,AV.ls b4_1,bv b4_2,AV.ls b4_3,bv b4_4,AV.ls b4_5] true false,ABlk.mk (List.drop 0 (List.take (0+n10*6) c10)++[iv n2,AV.ls xs3,bv b,AV.ls xs4,bv b1,AV.ls xs5]) true true] fun r1 o1=>
 AR 3 [0,1,6] (AH.mk [(1,ABlk.mk [iv b4_0,AV.ls b4_1,bv b4_2,AV.ls b4_3,bv b4_4,AV.ls b4_5] true false),(0,ABlk.mk [iv b2_0,AV.ls b2_1,AV.ls b2_2,iv b2_3,sv b2_4,sv b2_5,AV.ls b2_6] true false),(6,ABlk.mk (List.drop 0 (List.take (0+n10*6) c10)++[iv n2,AV.ls xs3,bv b,AV.ls xs4,bv b1,AV.ls xs5]) true true),(5,ABlk.mk [iv n2,AV.ls xs3,bv b,AV.ls xs4,bv b1,AV.ls xs5] true true),(4,ABlk.mk [iv n2,AV.ls xs3,bv b,AV.ls xs4,bv b1,AV.ls xs5] true false),(3,ABlk.mk [iv n,AV.ls xs,AV.ls xs1,iv n1,sv s,sv s1,AV.ls xs2] true false)] 7 none) [2,0,1] r1 o1) none) none))
 (some ((AV.tup [iv 0,AV.ptr 0 0,AV.ptr 1 0,AV.sl 3 0 n10 6],[BO.set (ABlk.mk [iv b2_0,AV.ls b2_1,AV.ls b2_2,iv b2_3,sv b2_4,sv b2_5,AV.ls b2_6] true false),BO.set (ABlk.mk [iv b4_0,AV.ls b4_1,bv b4_2,AV.ls b4_3,bv b4_4,AV.ls b4_5] true false),BO.del,BO.set (ABlk.mk c10 true true)]))):=by kernel_rfl
theorem e27(A:Ar)(D:Orc)(x0_0:Int)(x0_1:List (List AV))(x0_2:List (List AV))(x0_3:Int)(x0_4:ByteArray)(x0_5:ByteArray)(x0_6:List (List AV))(x1:List (List AV)):B3 A D As Aib .n 27 Aku [AV.agg [iv x0_0,AV.ls x0_1,AV.ls x0_2,iv x0_3,sv x0_4,sv x0_5,AV.ls x0_6],AV.ls x1] [] =
 Af D (Key.fn 24) [AV.agg [iv x0_0,AV.ls x0_1,AV.ls x0_2,iv x0_3,sv x0_4,sv x0_5,AV.ls x0_6]] [] fun r o=>
 AW r fun b=>
 Ac o<|
 br b
 (Af D (Key.fn 65) [AV.agg [iv x0_0,AV.ls x0_1,AV.ls x0_2,iv x0_3,sv x0_4,sv x0_5,AV.ls x0_6],AV.ls x1] [] fun r1 o1=>
 AF r1 fun cs=>
 Aj cs fun c l=>
 At c fun cs1=>
 Ay IntKind.i64 cs1 fun n l1=>
 AI l1 fun xs l2=>
 Ag l2 fun b1 l3=>
 AI l3 fun xs1 l4=>
 Ag l4 fun b2 l5=>
 AI l5 fun xs2 l6=>
 Ad l6<|
 Ag l fun b3 l7=>
 Ad l7<|
 Ac o1<|
 br (A.not b3)
 (Af D (Key.fn 64) [bv false] [] fun r2 o2=>
 At r2 fun cs2=>
 Ay IntKind.i64 cs2 fun n1 l8=>
 AI l8 fun xs3 l9=>
 Ag l9 fun b4 l10=>
 AI l10 fun xs4 l11=>
 Ag l11 fun b5 l12=>
 AI l12 fun xs5 l13=>
 Ad l13<|
 Ac o2<|
 some ((AV.tup [AV.agg [iv n1,AV.ls xs3,bv b4,AV.ls xs4,bv b5,AV.ls xs5],bv false],[])))
 (some ((AV.tup [AV.agg [iv n,AV.ls xs,bv b1,AV.ls xs1,bv b2,AV.ls xs2],bv true],[]))))
 (Af D (Key.fn 64) [bv false] [] fun r1 o1=>
 At r1 fun cs=>
 Ay IntKind.i64 cs fun n l=>
 AI l fun xs l1=>
 Ag l1 fun b1 l2=>
 AI l2 fun xs1 l3=>
 Ag l3 fun b2 l4=>
 AI l4 fun xs2 l5=>
 Ad l5<|
 Ac o1<|
 some ((AV.tup [AV.agg [iv n,AV.ls xs,bv b1,AV.ls xs1,bv b2,AV.ls xs2],bv false],[]))):=by kernel_rfl
def Ajc:Am:=[⟨36,[false,true,true,false,true,true,true],[],[2,4,5],[(1,([false,false,false,false,true,true],([],[2])))]⟩]
noncomputable def U9:MFn:=Bj Tryz.prog Ah Ajc false false 178
def RK:Hnt:=⟨[(124,(.agg [.bool,.ls],[]))],[(0,[(1,([.ptr 1 0,.ptr 2 0],[.del,.box [.bool,.ls],.box [.bool,.ls]]))])],[(10,[.ls]),(16,[.ls]),(18,[.int .i64,.bool,.ls]),(20,[.int .i64]),(27,[.bool,.ls]),(29,[.ls]),(31,[.int .i64,.bool,.ls]),(33,[.bool,.ls]),(35,[.bool,.ls])]⟩
def AiE:Am:=[⟨27,[false,true,true,false,true,true,true],[],[2,4,5],[(1,([false,false,false,false,true,true],([],[2])))]⟩]
noncomputable def U4:MFn:=Bj Tryz.prog Ah AiE false false 117
def RE:Hnt:=⟨[(122,(.agg [.bool,.ls],[])),(124,(.agg [.bool,.ls],[])),(178,(.agg [.bool,.ls],[])),(179,(.agg [.bool,.ls],[]))],[(0,[(1,([.ptr 1 0,.ptr 2 0],[.del,.box [.bool,.ls],.box [.bool,.ls]]))])],[(8,[.bool,.ls]),(15,[.bool,.ls]),(16,[.ls,.bool,.ls]),(21,[.bool,.ls]),(22,[.bool,.ls]),(25,[.bool,.ls])]⟩
def Am6:Am:=[]
noncomputable def AkD:MFn:=Bj Tryz.prog Ah Am6 false false 66
def Aik:Hnt:=⟨[(116,(.int .i64,[])),(117,(.agg [.bool,.ls],[]))],[],[(7,[.ls,.bool,.ls]),(12,[.bool])]⟩
def AmJ:Am:=[⟨26,[true,false,true,false,false,false,false,true],[],[],[(0,([false,false,false,false,false,false,true],([],[]))),(1,([],([],[])))]⟩]
noncomputable def Acg:MFn:=Bj Tryz.prog Ah AmJ false false 26
def Y1:Hnt:=⟨[],[(0,[(0,([.bool],[])),(1,([],[]))])],[(20,[.bool,.ls]),(22,[.ls])]⟩
def AmL:Am:=[⟨65,[false,true,true,false,false,true],[],[2],[(0,([false,false,false,false,true],([],[2]))),(2,([],([],[2])))]⟩,⟨65,[false,true,true,false,false,false,true],[],[2],[(0,([false,false,false,false,true],([],[2]))),(4,([],([],[2])))]⟩]
noncomputable def WJ:MFn:=Bj Tryz.prog Ah AmL false false 28
def RU:Hnt:=⟨[(28,(.bool,[])),(66,(.bool,[]))],[(0,[(0,([.bool],[.del])),(2,([],[.del]))]),(1,[(0,([.bool],[.del])),(4,([],[.del]))])],[(8,[.int .i64]),(14,[.ls,.bool,.ls,.bool]),(20,[.ls]),(25,[.ls]),(26,[.int .i64,.ls,.bool,.ls,.bool,.ls]),(27,[.int .i64,.ls,.bool,.ls,.bool,.ls]),(36,[.ls]),(42,[.ls]),(44,[.int .i64,.ls,.bool,.ls,.bool,.ls]),(45,[.int .i64,.ls,.bool,.ls,.bool,.ls]),(53,[.ls]),(59,[.ls]),(61,[.int .i64,.ls,.bool,.ls,.bool,.ls]),(62,[.int .i64,.ls,.bool,.ls,.bool,.ls])]⟩
noncomputable def PA:List (Nat × MFn):=[(178,U9),(117,U4),(66,AkD),(26,Acg),(28,WJ)]
theorem AlW(A:Ar)(D:Orc)(x0_0:List (List AV))(x0_1:Bool)(x0_2:List (List AV))(x1:Int):B3 A D As RK .n 178 U9 [AV.agg [AV.ls x0_0,bv x0_1,AV.ls x0_2],iv x1] [] =
 Af D (Key.lp 178 0) [iv x1,AV.ptr 0 0,AV.ptr 1 0,AV.ptr 2 0,iv 0] [ABlk.mk [AV.ls x0_0,bv x0_1,AV.ls x0_2] true false,ABlk.mk [bv false,AV.ls []] true false,ABlk.mk [bv false,AV.ls []] true false] fun r o=>
 AF r fun cs=>
 Aj cs fun c l=>
 br (Bw 1 c)
 (Aj l fun c1 l1=>
 Dr 1 0 c1<|
 Aj l1 fun c2 l2=>
 Dr 2 0 c2<|
 Ad l2<|
 AG o fun c3 l3=>
 BW c3<|
 AG l3 fun c4 l4=>
 AP true false c4 fun cs1=>
 Ag cs1 fun _ l5=>
 AI l5 fun _ l6=>
 Ad l6<|
 AG l4 fun c5 l7=>
 AP true false c5 fun cs2=>
 Ag cs2 fun b1 l8=>
 AI l8 fun xs1 l9=>
 Ad l9<|
 Ac l7<|
 some ((AV.agg [bv b1,AV.ls xs1],[])))
 (none):=by kernel_rfl
theorem Yn(A:Ar)(D:Orc)(t1:Int)(b2_0:List (List AV))(b2_1:Bool)(b2_2:List (List AV))(b4_0:Bool)(b4_1:List (List AV))(b5_0:Bool)(b5_1:List (List AV))(t6:Int):D2 A D As RK .n 178 0 (Bc U9 0).fst (Bc U9 0).snd [iv t1,AV.ptr 0 0,AV.ptr 1 0,AV.ptr 2 0,iv t6] [{ cells:=[AV.ls b2_0,bv b2_1,AV.ls b2_2],st:=true,ex:=false },{ cells:=[bv b4_0,AV.ls b4_1],st:=true,ex:=false },{ cells:=[bv b5_0,AV.ls b5_1],st:=true,ex:=false }] =
 br (A.lt t6 ↑(Be b2_0))
 (unI t6 fun i=>
 BG b2_0 i fun cs=>
 Ay IntKind.i64 cs fun n l=>
 Ag l fun _ l1=>
 AI l1 fun _ l2=>
 Ad l2<|
 br (A.eq n t1)
 (br (A.le 0 t1)
 (unI t6 fun i1=>
 BG b2_0 i1 fun cs1=>
 Ay IntKind.i64 cs1 fun _ l3=>
 Ag l3 fun b1 l4=>
 AI l4 fun xs1 l5=>
 Ad l5<|
 Af D (Key.fn 124) [AV.agg [bv b5_0,AV.ls b5_1],AV.agg [bv b1,AV.ls xs1]] [] fun r o=>
 At r fun cs2=>
 Ag cs2 fun b2 l6=>
 AI l6 fun xs2 l7=>
 Ad l7<|
 Ac o<|
 Af D (Key.lp 178 0) [iv t1,AV.ptr 0 0,AV.ptr 1 0,AV.ptr 2 0,iv (A.add IntKind.i64 t6 1)] [ABlk.mk [AV.ls b2_0,bv b2_1,AV.ls b2_2] true false,ABlk.mk [bv b4_0,AV.ls b4_1] true false,ABlk.mk [bv b2,AV.ls xs2] true false] fun r1 o1=>
 AR 3 [0,1,2] (AH.mk [(2,ABlk.mk [bv b2,AV.ls xs2] true false),(1,ABlk.mk [bv b4_0,AV.ls b4_1] true false),(0,ABlk.mk [AV.ls b2_0,bv b2_1,AV.ls b2_2] true false)] 3 none) [0,1,2] r1 o1)
 (Af D (Key.lp 178 0) [iv t1,AV.ptr 0 0,AV.ptr 1 0,AV.ptr 2 0,iv (A.add IntKind.i64 t6 1)] [ABlk.mk [AV.ls b2_0,bv b2_1,AV.ls b2_2] true false,ABlk.mk [bv b4_0,AV.ls b4_1] true false,ABlk.mk [bv b5_0,AV.ls b5_1] true false] fun r o=>
 AR 3 [0,1,2] (AH.mk [(2,ABlk.mk [bv b5_0,AV.ls b5_1] true false),(1,ABlk.mk [bv b4_0,AV.ls b4_1] true false),(0,ABlk.mk [AV.ls b2_0,bv b2_1,AV.ls b2_2] true false)] 3 none) [0,1,2] r o))
 (Af D (Key.lp 178 0) [iv t1,AV.ptr 0 0,AV.ptr 1 0,AV.ptr 2 0,iv (A.add IntKind.i64 t6 1)] [ABlk.mk [AV.ls b2_0,bv b2_1,AV.ls b2_2] true false,ABlk.mk [bv b4_0,AV.ls b4_1] true false,ABlk.mk [bv b5_0,AV.ls b5_1] true false] fun r o=>
 AR 3 [0,1,2] (AH.mk [(2,ABlk.mk [bv b5_0,AV.ls b5_1] true false),(1,ABlk.mk [bv b4_0,AV.ls b4_1] true false),(0,ABlk.mk [AV.ls b2_0,bv b2_1,AV.ls b2_2] true false)] 3 none) [0,1,2] r o))
 (some ((AV.tup [iv 0,AV.ptr 1 0,AV.ptr 2 0],[BO.del,BO.set (ABlk.mk [bv b4_0,AV.ls b4_1] true false),BO.set (ABlk.mk [bv b5_0,AV.ls b5_1] true false)]))):=by kernel_rfl
theorem Alu(A:Ar)(D:Orc)(x0_0:List (List AV))(x0_1:Bool)(x0_2:List (List AV))(x1:List (List AV)):B3 A D As RE .n 117 U4 [AV.agg [AV.ls x0_0,bv x0_1,AV.ls x0_2],AV.ls x1] [] =
 Af D (Key.lp 117 0) [AV.ls x1,AV.ptr 0 0,AV.ptr 1 0,AV.ptr 2 0,iv 0] [ABlk.mk [AV.ls x0_0,bv x0_1,AV.ls x0_2] true false,ABlk.mk [bv false,AV.ls []] true false,ABlk.mk [bv x0_1,AV.ls x0_2] true false] fun r o=>
 AF r fun cs=>
 Aj cs fun c l=>
 br (Bw 1 c)
 (Aj l fun c1 l1=>
 Dr 1 0 c1<|
 Aj l1 fun c2 l2=>
 Dr 2 0 c2<|
 Ad l2<|
 AG o fun c3 l3=>
 BW c3<|
 AG l3 fun c4 l4=>
 AP true false c4 fun cs1=>
 Ag cs1 fun _ l5=>
 AI l5 fun _ l6=>
 Ad l6<|
 AG l4 fun c5 l7=>
 AP true false c5 fun cs2=>
 Ag cs2 fun b1 l8=>
 AI l8 fun xs1 l9=>
 Ad l9<|
 Ac l7<|
 Af D (Key.fn 179) [AV.agg [bv b1,AV.ls xs1]] [] fun r1 o1=>
 At r1 fun cs3=>
 Ag cs3 fun b2 l10=>
 AI l10 fun xs2 l11=>
 Ad l11<|
 Ac o1<|
 some ((AV.agg [bv b2,AV.ls xs2],[])))
 (none):=by kernel_rfl
theorem Yg(A:Ar)(D:Orc)(t1:List (List AV))(b2_0:List (List AV))(b2_1:Bool)(b2_2:List (List AV))(b4_0:Bool)(b4_1:List (List AV))(b5_0:Bool)(b5_1:List (List AV))(t6:Int):D2 A D As RE .n 117 0 (Bc U4 0).fst (Bc U4 0).snd [AV.ls t1,AV.ptr 0 0,AV.ptr 1 0,AV.ptr 2 0,iv t6] [{ cells:=[AV.ls b2_0,bv b2_1,AV.ls b2_2],st:=true,ex:=false },{ cells:=[bv b4_0,AV.ls b4_1],st:=true,ex:=false },{ cells:=[bv b5_0,AV.ls b5_1],st:=true,ex:=false }] =
 br (A.lt t6 ↑(Be t1))
 (Af D (Key.fn 178) [AV.agg [AV.ls b2_0,bv b2_1,AV.ls b2_2],iv t6] [] fun r o=>
 At r fun cs=>
 Ag cs fun b l=>
 AI l fun xs l1=>
 Ad l1<|
 Ac o<|
 unI t6 fun i=>
 BG t1 i fun cs1=>
 Ag cs1 fun b1 l2=>
 AI l2 fun xs1 l3=>
 Ad l3<|
 Af D (Key.fn 122) [AV.agg [bv b,AV.ls xs],AV.agg [bv b1,AV.ls xs1]] [] fun r1 o1=>
 At r1 fun cs2=>
 Ag cs2 fun b2 l4=>
 AI l4 fun xs2 l5=>
 Ad l5<|
 Ac o1<|
 Af D (Key.fn 124) [AV.agg [bv b5_0,AV.ls b5_1],AV.agg [bv b2,AV.ls xs2]] [] fun r2 o2=>
 At r2 fun cs3=>
 Ag cs3 fun b3 l6=>
 AI l6 fun xs3 l7=>
 Ad l7<|
 Ac o2<|
 Af D (Key.lp 117 0) [AV.ls t1,AV.ptr 0 0,AV.ptr 1 0,AV.ptr 2 0,iv (A.add IntKind.i64 t6 1)] [ABlk.mk [AV.ls b2_0,bv b2_1,AV.ls b2_2] true false,ABlk.mk [bv b4_0,AV.ls b4_1] true false,ABlk.mk [bv b3,AV.ls xs3] true false] fun r3 o3=>
 AR 3 [0,1,2] (AH.mk [(2,ABlk.mk [bv b3,AV.ls xs3] true false),(1,ABlk.mk [bv b4_0,AV.ls b4_1] true false),(0,ABlk.mk [AV.ls b2_0,bv b2_1,AV.ls b2_2] true false)] 3 none) [0,1,2] r3 o3)
 (some ((AV.tup [iv 0,AV.ptr 1 0,AV.ptr 2 0],[BO.del,BO.set (ABlk.mk [bv b4_0,AV.ls b4_1] true false),BO.set (ABlk.mk [bv b5_0,AV.ls b5_1] true false)]))):=by kernel_rfl
theorem e66(A:Ar)(D:Orc)(x0_0:List (List AV))(x0_1:Bool)(x0_2:List (List AV))(x0_3:Bool)(x1:List (List AV)):B3 A D As Aik .n 66 AkD [AV.agg [AV.ls x0_0,bv x0_1,AV.ls x0_2,bv x0_3],AV.ls x1] [] =
 Af D (Key.fn 117) [AV.agg [AV.ls x0_0,bv x0_1,AV.ls x0_2],AV.ls x1] [] fun r o=>
 At r fun cs=>
 Ag cs fun b l=>
 AI l fun xs l1=>
 Ad l1<|
 Ac o<|
 Af D (Key.fn 116) [AV.agg [bv b,AV.ls xs]] [] fun r1 o1=>
 Bp IntKind.i64 r1 fun n=>
 Ac o1<|
 br x0_3
 (br (A.eq n 0)
 (some ((bv true,[])))
 (some ((bv false,[]))))
 (br (A.le 0 n)
 (some ((bv true,[])))
 (some ((bv false,[])))):=by kernel_rfl
theorem e26(A:Ar)(D:Orc)(x0:List (List AV))(x1:Int)(x2:Int):B3 A D As Y1 .n 26 Acg [AV.ls x0,iv x1,iv x2] [] =
 br (A.lt x1 ↑(Be x0))
 (some ((bv false,[])))
 (Af D (Key.lp 26 0) [AV.ls x0,iv x2,iv 0] [] fun r o=>
 AF r fun cs=>
 Aj cs fun c l=>
 br (Bw 0 c)
 (Ag l fun b l1=>
 Ad l1<|
 Ac o<|
 some ((bv b,[])))
 (br (Bw 1 c)
 (Ad l<|
 Ac o<|
 some ((bv true,[])))
 (none))):=by kernel_rfl
theorem Ady(A:Ar)(D:Orc)(t0:List (List AV))(t2:Int)(t7:Int):D2 A D As Y1 .n 26 0 (Bc Acg 0).fst (Bc Acg 0).snd [AV.ls t0,iv t2,iv t7] [] =
 br (A.lt t7 ↑(Be t0))
 (unI t7 fun i=>
 BG t0 i fun cs=>
 Ag cs fun _ l=>
 AI l fun xs l1=>
 Ad l1<|
 br (A.lt t2 ↑(Be xs))
 (some ((AV.tup [bv true,bv false],[])))
 (Af D (Key.lp 26 0) [AV.ls t0,iv t2,iv (A.add IntKind.i64 t7 1)] [] fun r o=>
 AR 0 [] (AH.mk [] 0 none) [] r o))
 (some ((AV.tup [iv 0],[]))):=by kernel_rfl
theorem e28(A:Ar)(D:Orc)(x0_0:Int)(x0_1:List (List AV))(x0_2:Bool)(x0_3:List (List AV))(x0_4:Bool)(x0_5:List (List AV))(x1:List (List AV)):B3 A D As RU .n 28 WJ [AV.agg [iv x0_0,AV.ls x0_1,bv x0_2,AV.ls x0_3,bv x0_4,AV.ls x0_5],AV.ls x1] [] =
 br (A.eq x0_0 0)
 (some ((bv true,[])))
 (br (A.eq x0_0 2)
 (Af D (Key.fn 66) [AV.agg [AV.ls x0_1,bv x0_2,AV.ls x0_3,bv x0_4],AV.ls x1] [] fun r o=>
 AW r fun b=>
 Ac o<|
 br b
 (some ((bv true,[])))
 (some ((bv false,[]))))
 (br (A.eq x0_0 3)
 (br (A.lt 0 ↑(Be x0_5))
 (BG x0_5 0 fun cs=>
 Ay IntKind.i64 cs fun n l=>
 AI l fun xs l1=>
 Ag l1 fun b l2=>
 AI l2 fun xs1 l3=>
 Ag l3 fun b1 l4=>
 AI l4 fun xs2 l5=>
 Ad l5<|
 Af D (Key.fn 28) [AV.agg [iv n,AV.ls xs,bv b,AV.ls xs1,bv b1,AV.ls xs2],AV.ls x1] [] fun r o=>
 AW r fun b2=>
 Ac o<|
 br b2
 (some ((bv false,[])))
 (some ((bv true,[]))))
 (some ((bv false,[]))))
 (br (A.eq x0_0 4)
 (Af D (Key.lp 28 0) [AV.ls x1,AV.ptr 0 0,iv 0] [ABlk.mk [iv x0_0,AV.ls x0_1,bv x0_2,AV.ls x0_3,bv x0_4,AV.ls x0_5] true false] fun r o=>
 AF r fun cs=>
 Aj cs fun c l=>
 br (Bw 0 c)
 (Ag l fun b l1=>
 Ad l1<|
 AG o fun c1 l2=>
 BW c1<|
 Ac l2<|
 some ((bv b,[])))
 (br (Bw 2 c)
 (Ad l<|
 AG o fun c1 l1=>
 BW c1<|
 Ac l1<|
 some ((bv true,[])))
 (none)))
 (br (A.eq x0_0 5)
 (Af D (Key.lp 28 1) [AV.ls x1,AV.ptr 0 0,iv 0] [ABlk.mk [iv x0_0,AV.ls x0_1,bv x0_2,AV.ls x0_3,bv x0_4,AV.ls x0_5] true false] fun r o=>
 AF r fun cs=>
 Aj cs fun c l=>
 br (Bw 0 c)
 (Ag l fun b l1=>
 Ad l1<|
 AG o fun c1 l2=>
 BW c1<|
 Ac l2<|
 some ((bv b,[])))
 (br (Bw 4 c)
 (Ad l<|
 AG o fun c1 l1=>
 BW c1<|
 Ac l1<|
 some ((bv false,[])))
 (none)))
 (some ((bv false,[]))))))):=by kernel_rfl
theorem Adz(A:Ar)(D:Orc)(t1:List (List AV))(b2_0:Int)(b2_1:List (List AV))(b2_2:Bool)(b2_3:List (List AV))(b2_4:Bool)(b2_5:List (List AV))(t5:Int):D2 A D As RU .n 28 0 (Bc WJ 0).fst (Bc WJ 0).snd [AV.ls t1,AV.ptr 0 0,iv t5] [{ cells:=[iv b2_0,AV.ls b2_1,bv b2_2,AV.ls b2_3,bv b2_4,AV.ls b2_5],st:=true,ex:=false }] =
 br (A.lt t5 ↑(Be b2_5))
 (unI t5 fun i=>
 BG b2_5 i fun cs=>
 Ay IntKind.i64 cs fun n l=>
 AI l fun xs l1=>
 Ag l1 fun b l2=>
 AI l2 fun xs1 l3=>
 Ag l3 fun b1 l4=>
 AI l4 fun xs2 l5=>
 Ad l5<|
 Af D (Key.fn 28) [AV.agg [iv n,AV.ls xs,bv b,AV.ls xs1,bv b1,AV.ls xs2],AV.ls t1] [] fun r o=>
 AW r fun b2=>
 Ac o<|
 br b2
 (Af D (Key.lp 28 0) [AV.ls t1,AV.ptr 0 0,iv (A.add IntKind.i64 t5 1)] [ABlk.mk [iv b2_0,AV.ls b2_1,bv b2_2,AV.ls b2_3,bv b2_4,AV.ls b2_5] true false] fun r1 o1=>
 AR 1 [0] (AH.mk [(0,ABlk.mk [iv b2_0,AV.ls b2_1,bv b2_2,AV.ls b2_3,bv b2_4,AV.ls b2_5] true false)] 1 none) [0] r1 o1)
 (some ((AV.tup [bv true,bv false],[BO.del]))))
 (some ((AV.tup [iv 1],[BO.del]))):=by kernel_rfl
theorem AdA(A:Ar)(D:Orc)(t1:List (List AV))(b2_0:Int)(b2_1:List (List AV))(b2_2:Bool)(b2_3:List (List AV))(b2_4:Bool)(b2_5:List (List AV))(t6:Int):D2 A D As RU .n 28 1 (Bc WJ 1).fst (Bc WJ 1).snd [AV.ls t1,AV.ptr 0 0,iv t6] [{ cells:=[iv b2_0,AV.ls b2_1,bv b2_2,AV.ls b2_3,bv b2_4,AV.ls b2_5],st:=true,ex:=false }] =
 br (A.lt t6 ↑(Be b2_5))
 (unI t6 fun i=>
 BG b2_5 i fun cs=>
 Ay IntKind.i64 cs fun n l=>
 AI l fun xs l1=>
 Ag l1 fun b l2=>
 AI l2 fun xs1 l3=>
 Ag l3 fun b1 l4=>
 AI l4 fun xs2 l5=>
 Ad l5<|
 Af D (Key.fn 28) [AV.agg [iv n,AV.ls xs,bv b,AV.ls xs1,bv b1,AV.ls xs2],AV.ls t1] [] fun r o=>
 AW r fun b2=>
 Ac o<|
 br b2
 (some ((AV.tup [bv true,bv true],[BO.del])))
 (Af D (Key.lp 28 1) [AV.ls t1,AV.ptr 0 0,iv (A.add IntKind.i64 t6 1)] [ABlk.mk [iv b2_0,AV.ls b2_1,bv b2_2,AV.ls b2_3,bv b2_4,AV.ls b2_5] true false] fun r1 o1=>
 AR 1 [0] (AH.mk [(0,ABlk.mk [iv b2_0,AV.ls b2_1,bv b2_2,AV.ls b2_3,bv b2_4,AV.ls b2_5] true false)] 1 none) [0] r1 o1))
 (some ((AV.tup [iv 3],[BO.del]))):=by kernel_rfl
def Am8:Am:=[⟨73,[true,true,true,false,false,false,true,true,true],[],[6,7],[(1,([false,false,false,false,false,false,true,true],([],[])))]⟩]
noncomputable def Ack:MFn:=Bj Tryz.prog Ah Am8 false false 68
def Y4:Hnt:=⟨[(119,(.agg [.bool,.ls],[])),(120,(.tup [.agg [.bool,.ls],.int .i64],[])),(121,(.int .i64,[])),(122,(.agg [.bool,.ls],[])),(123,(.agg [.bool,.ls],[])),(124,(.agg [.bool,.ls],[]))],[(0,[(1,([.ptr 0 0,.ptr 1 0],[.box [.bool,.ls],.box [.bool,.ls]]))])],[(21,[.bool,.str,.str]),(23,[.str]),(28,[.bool,.str,.str]),(30,[.str]),(36,[.bool,.str,.str]),(38,[.str]),(43,[.bool,.str,.str]),(45,[.str]),(56,[.bool,.ls]),(59,[.bool,.ls]),(60,[.bool,.ls]),(64,[.bool,.str,.str]),(66,[.bool]),(67,[.bool,.ls]),(69,[.bool,.ls]),(70,[.bool,.ls]),(72,[.bool,.ls])]⟩
def AmM:Am:=[]
noncomputable def Akv:MFn:=Bj Tryz.prog Ah AmM false false 29
def Wt:Hnt:=⟨[(29,(.bool,[])),(67,(.int .i64,[])),(68,(.agg [.bool,.ls],[]))],[],[(9,[.int .i64]),(15,[.ls]),(20,[.ls]),(26,[.int .i64]),(52,[.ls]),(53,[.int .i64,.ls,.ls,.int .i64,.str,.str,.ls]),(54,[.int .i64,.ls,.ls,.int .i64,.str,.str,.ls]),(62,[.ls]),(63,[.int .i64,.ls,.ls,.int .i64,.str,.str,.ls]),(64,[.int .i64,.ls,.ls,.int .i64,.str,.str,.ls]),(70,[.ls]),(71,[.int .i64,.ls,.ls,.int .i64,.str,.str,.ls]),(72,[.int .i64,.ls,.ls,.int .i64,.str,.str,.ls]),(80,[.ls]),(81,[.int .i64,.ls,.ls,.int .i64,.str,.str,.ls]),(82,[.int .i64,.ls,.ls,.int .i64,.str,.str,.ls]),(88,[.ls]),(89,[.int .i64,.ls,.ls,.int .i64,.str,.str,.ls]),(90,[.int .i64,.ls,.ls,.int .i64,.str,.str,.ls])]⟩
noncomputable def SM:List (Nat × MFn):=[(68,Ack),(29,Akv)]
theorem e68(A:Ar)(D:Orc)(x0:List (List AV))(x1:List (List AV))(x2:List (List AV)):B3 A D As Y4 .n 68 Ack [AV.ls x0,AV.ls x1,AV.ls x2] [] =
 Af D (Key.lp 68 0) [AV.ls x0,AV.ls x1,AV.ls x2,AV.ptr 0 0,AV.ptr 1 0,iv 0] [ABlk.mk [bv false,AV.ls []] true false,ABlk.mk [bv false,AV.ls []] true false] fun r o=>
 AF r fun cs=>
 Aj cs fun c l=>
 br (Bw 1 c)
 (Aj l fun c1 l1=>
 Dr 0 0 c1<|
 Aj l1 fun c2 l2=>
 Dr 1 0 c2<|
 Ad l2<|
 AG o fun c3 l3=>
 AP true false c3 fun cs1=>
 Ag cs1 fun _ l4=>
 AI l4 fun _ l5=>
 Ad l5<|
 AG l3 fun c4 l6=>
 AP true false c4 fun cs2=>
 Ag cs2 fun b1 l7=>
 AI l7 fun xs1 l8=>
 Ad l8<|
 Ac l6<|
 some ((AV.agg [bv b1,AV.ls xs1],[])))
 (none):=by kernel_rfl
theorem AdE(A:Ar)(D:Orc)(t0:List (List AV))(t1:List (List AV))(t2:List (List AV))(b6_0:Bool)(b6_1:List (List AV))(b7_0:Bool)(b7_1:List (List AV))(t8:Int):D2 A D As Y4 .n 68 0 (Bc Ack 0).fst (Bc Ack 0).snd [AV.ls t0,AV.ls t1,AV.ls t2,AV.ptr 0 0,AV.ptr 1 0,iv t8] [{ cells:=[bv b6_0,AV.ls b6_1],st:=true,ex:=false },{ cells:=[bv b7_0,AV.ls b7_1],st:=true,ex:=false }] =
 br (A.lt t8 ↑(Be t0))
 (Af D (Key.fn 119) [iv 1] [] fun r o=>
 At r fun cs=>
 Ag cs fun b l=>
 AI l fun xs l1=>
 Ad l1<|
 Ac o<|
 unI t8 fun i=>
 BG t0 i fun cs1=>
 Ag cs1 fun _ l2=>
 Br l2 fun s l3=>
 Br l3 fun _ l4=>
 Ad l4<|
 br (A.seq s (AE []))
 (unI t8 fun i1=>
 BG t0 i1 fun cs2=>
 Ag cs2 fun _ l5=>
 Br l5 fun _ l6=>
 Br l6 fun s3 l7=>
 Ad l7<|
 br (A.seq s3 (AE []))
 (unI t8 fun i2=>
 BG t0 i2 fun cs3=>
 Ag cs3 fun b3 l8=>
 Br l8 fun _ l9=>
 Br l9 fun _ l10=>
 Ad l10<|
 br b3
 (Af D (Key.fn 123) [AV.agg [bv b,AV.ls xs]] [] fun r1 o1=>
 At r1 fun cs4=>
 Ag cs4 fun b4 l11=>
 AI l11 fun xs1 l12=>
 Ad l12<|
 Ac o1<|
 Af D (Key.fn 124) [AV.agg [bv b7_0,AV.ls b7_1],AV.agg [bv b4,AV.ls xs1]] [] fun r2 o2=>
 At r2 fun cs5=>
 Ag cs5 fun b5 l13=>
 AI l13 fun xs2 l14=>
 Ad l14<|
 Ac o2<|
 Af D (Key.lp 68 0) [AV.ls t0,AV.ls t1,AV.ls t2,AV.ptr 0 0,AV.ptr 1 0,iv (A.add IntKind.i64 t8 1)] [ABlk.mk [bv b6_0,AV.ls b6_1] true false,ABlk.mk [bv b5,AV.ls xs2] true false] fun r3 o3=>
 AR 2 [0,1] (AH.mk [(1,ABlk.mk [bv b5,AV.ls xs2] true false),(0,ABlk.mk [bv b6_0,AV.ls b6_1] true false),(2,ABlk.mk [bv b4,AV.ls xs1] true false)] 3 none) [0,1] r3 o3)
 (Af D (Key.fn 124) [AV.agg [bv b7_0,AV.ls b7_1],AV.agg [bv b,AV.ls xs]] [] fun r1 o1=>
 At r1 fun cs4=>
 Ag cs4 fun b4 l11=>
 AI l11 fun xs1 l12=>
 Ad l12<|
 Ac o1<|
 Af D (Key.lp 68 0) [AV.ls t0,AV.ls t1,AV.ls t2,AV.ptr 0 0,AV.ptr 1 0,iv (A.add IntKind.i64 t8 1)] [ABlk.mk [bv b6_0,AV.ls b6_1] true false,ABlk.mk [bv b4,AV.ls xs1] true false] fun r2 o2=>
 AR 2 [0,1] (AH.mk [(1,ABlk.mk [bv b4,AV.ls xs1] true false),(0,ABlk.mk [bv b6_0,AV.ls b6_1] true false),(2,ABlk.mk [bv b,AV.ls xs] true false)] 3 none) [0,1] r2 o2))
 (unI t8 fun i2=>
 BG t0 i2 fun cs3=>
 Ag cs3 fun _ l8=>
 Br l8 fun _ l9=>
 Br l9 fun s5 l10=>
 Ad l10<|
 Af D (Key.fn 121) [AV.ls t1,sv s5] [] fun r1 o1=>
 Bp IntKind.i64 r1 fun n=>
 Ac o1<|
 br (A.lt n 0)
 (unI t8 fun i3=>
 BG t0 i3 fun cs4=>
 Ag cs4 fun b4 l11=>
 Br l11 fun _ l12=>
 Br l12 fun _ l13=>
 Ad l13<|
 br b4
 (Af D (Key.fn 123) [AV.agg [bv false,AV.ls []]] [] fun r2 o2=>
 At r2 fun cs5=>
 Ag cs5 fun b5 l14=>
 AI l14 fun xs1 l15=>
 Ad l15<|
 Ac o2<|
 Af D (Key.fn 124) [AV.agg [bv b7_0,AV.ls b7_1],AV.agg [bv b5,AV.ls xs1]] [] fun r3 o3=>
 At r3 fun cs6=>
 Ag cs6 fun b6 l16=>
 AI l16 fun xs2 l17=>
 Ad l17<|
 Ac o3<|
 Af D (Key.lp 68 0) [AV.ls t0,AV.ls t1,AV.ls t2,AV.ptr 0 0,AV.ptr 1 0,iv (A.add IntKind.i64 t8 1)] [ABlk.mk [bv b6_0,AV.ls b6_1] true false,ABlk.mk [bv b6,AV.ls xs2] true false] fun r4 o4=>
 AR 2 [0,1] (AH.mk [(1,ABlk.mk [bv b6,AV.ls xs2] true false),(0,ABlk.mk [bv b6_0,AV.ls b6_1] true false),(2,ABlk.mk [bv b5,AV.ls xs1] true false)] 3 none) [0,1] r4 o4)
 (Af D (Key.fn 124) [AV.agg [bv b7_0,AV.ls b7_1],AV.agg [bv false,AV.ls []]] [] fun r2 o2=>
 At r2 fun cs5=>
 Ag cs5 fun b5 l14=>
 AI l14 fun xs1 l15=>
 Ad l15<|
 Ac o2<|
 Af D (Key.lp 68 0) [AV.ls t0,AV.ls t1,AV.ls t2,AV.ptr 0 0,AV.ptr 1 0,iv (A.add IntKind.i64 t8 1)] [ABlk.mk [bv b6_0,AV.ls b6_1] true false,ABlk.mk [bv b5,AV.ls xs1] true false] fun r3 o3=>
 AR 2 [0,1] (AH.mk [(1,ABlk.mk [bv b5,AV.ls xs1] true false),(0,ABlk.mk [bv b6_0,AV.ls b6_1] true false),(2,ABlk.mk [bv false,AV.v (Value.slice none 0 0)] true false)] 3 none) [0,1] r3 o3))
 (br (A.le (↑(Be t2)) n)
 (unI t8 fun i3=>
 BG t0 i3 fun cs4=>
 Ag cs4 fun b4 l11=>
 Br l11 fun _ l12=>
 Br l12 fun _ l13=>
 Ad l13<|
 br b4
 (Af D (Key.fn 123) [AV.agg [bv false,AV.ls []]] [] fun r2 o2=>
 At r2 fun cs5=>
 Ag cs5 fun b5 l14=>
 AI l14 fun xs1 l15=>
 Ad l15<|
 Ac o2<|
 Af D (Key.fn 124) [AV.agg [bv b7_0,AV.ls b7_1],AV.agg [bv b5,AV.ls xs1]] [] fun r3 o3=>
 At r3 fun cs6=>
 Ag cs6 fun b6 l16=>
 AI l16 fun xs2 l17=>
 Ad l17<|
 Ac o3<|
 Af D (Key.lp 68 0) [AV.ls t0,AV.ls t1,AV.ls t2,AV.ptr 0 0,AV.ptr 1 0,iv (A.add IntKind.i64 t8 1)] [ABlk.mk [bv b6_0,AV.ls b6_1] true false,ABlk.mk [bv b6,AV.ls xs2] true false] fun r4 o4=>
 AR 2 [0,1] (AH.mk [(1,ABlk.mk [bv b6,AV.ls xs2] true false),(0,ABlk.mk [bv b6_0,AV.ls b6_1] true false),(2,ABlk.mk [bv b5,AV.ls xs1] true false)] 3 none) [0,1] r4 o4)
 (Af D (Key.fn 124) [AV.agg [bv b7_0,AV.ls b7_1],AV.agg [bv false,AV.ls []]] [] fun r2 o2=>
 At r2 fun cs5=>
 Ag cs5 fun b5 l14=>
 AI l14 fun xs1 l15=>
 Ad l15<|
 Ac o2<|
 Af D (Key.lp 68 0) [AV.ls t0,AV.ls t1,AV.ls t2,AV.ptr 0 0,AV.ptr 1 0,iv (A.add IntKind.i64 t8 1)] [ABlk.mk [bv b6_0,AV.ls b6_1] true false,ABlk.mk [bv b5,AV.ls xs1] true false] fun r3 o3=>
 AR 2 [0,1] (AH.mk [(1,ABlk.mk [bv b5,AV.ls xs1] true false),(0,ABlk.mk [bv b6_0,AV.ls b6_1] true false),(2,ABlk.mk [bv false,AV.v (Value.slice none 0 0)] true false)] 3 none) [0,1] r3 o3))
 (unI n fun i3=>
 BG t2 i3 fun cs4=>
 Ag cs4 fun b4 l11=>
 AI l11 fun xs1 l12=>
 Ad l12<|
 Af D (Key.fn 122) [AV.agg [bv b,AV.ls xs],AV.agg [bv b4,AV.ls xs1]] [] fun r2 o2=>
 At r2 fun cs5=>
 Ag cs5 fun b5 l13=>
 AI l13 fun xs2 l14=>
 Ad l14<|
 Ac o2<|
 unI t8 fun i4=>
 BG t0 i4 fun cs6=>
 Ag cs6 fun b6 l15=>
 Br l15 fun _ l16=>
 Br l16 fun _ l17=>
 Ad l17<|
 br b6
 (Af D (Key.fn 123) [AV.agg [bv b5,AV.ls xs2]] [] fun r3 o3=>
 At r3 fun cs7=>
 Ag cs7 fun b7 l18=>
 AI l18 fun xs3 l19=>
 Ad l19<|
 Ac o3<|
 Af D (Key.fn 124) [AV.agg [bv b7_0,AV.ls b7_1],AV.agg [bv b7,AV.ls xs3]] [] fun r4 o4=>
 At r4 fun cs8=>
 Ag cs8 fun b8 l20=>
 AI l20 fun xs4 l21=>
 Ad l21<|
 Ac o4<|
 Af D (Key.lp 68 0) [AV.ls t0,AV.ls t1,AV.ls t2,AV.ptr 0 0,AV.ptr 1 0,iv (A.add IntKind.i64 t8 1)] [ABlk.mk [bv b6_0,AV.ls b6_1] true false,ABlk.mk [bv b8,AV.ls xs4] true false] fun r5 o5=>
 AR 2 [0,1] (AH.mk [(1,ABlk.mk [bv b8,AV.ls xs4] true false),(0,ABlk.mk [bv b6_0,AV.ls b6_1] true false),(2,ABlk.mk [bv b7,AV.ls xs3] true false)] 3 none) [0,1] r5 o5)
 (Af D (Key.fn 124) [AV.agg [bv b7_0,AV.ls b7_1],AV.agg [bv b5,AV.ls xs2]] [] fun r3 o3=>
 At r3 fun cs7=>
 Ag cs7 fun b7 l18=>
 AI l18 fun xs3 l19=>
 Ad l19<|
 Ac o3<|
 Af D (Key.lp 68 0) [AV.ls t0,AV.ls t1,AV.ls t2,AV.ptr 0 0,AV.ptr 1 0,iv (A.add IntKind.i64 t8 1)] [ABlk.mk [bv b6_0,AV.ls b6_1] true false,ABlk.mk [bv b7,AV.ls xs3] true false] fun r4 o4=>
 AR 2 [0,1] (AH.mk [(1,ABlk.mk [bv b7,AV.ls xs3] true false),(0,ABlk.mk [bv b6_0,AV.ls b6_1] true false),(2,ABlk.mk [bv b5,AV.ls xs2] true false)] 3 none) [0,1] r4 o4)))))
 (unI t8 fun i1=>
 BG t0 i1 fun cs2=>
 Ag cs2 fun _ l5=>
 Br l5 fun s2 l6=>
 Br l6 fun _ l7=>
 Ad l7<|
 Af D (Key.fn 120) [sv s2] [] fun r1 o1=>
 AF r1 fun cs3=>
 Aj cs3 fun c l8=>
 At c fun cs4=>
 Ag cs4 fun b3 l9=>
 AI l9 fun xs1 l10=>
 Ad l10<|
 Ay IntKind.i64 l8 fun _ l11=>
 Ad l11<|
 Ac o1<|
 unI t8 fun i2=>
 BG t0 i2 fun cs5=>
 Ag cs5 fun _ l12=>
 Br l12 fun _ l13=>
 Br l13 fun s5 l14=>
 Ad l14<|
 br (A.seq s5 (AE []))
 (unI t8 fun i3=>
 BG t0 i3 fun cs6=>
 Ag cs6 fun b5 l15=>
 Br l15 fun _ l16=>
 Br l16 fun _ l17=>
 Ad l17<|
 br b5
 (Af D (Key.fn 123) [AV.agg [bv b3,AV.ls xs1]] [] fun r2 o2=>
 At r2 fun cs7=>
 Ag cs7 fun b6 l18=>
 AI l18 fun xs2 l19=>
 Ad l19<|
 Ac o2<|
 Af D (Key.fn 124) [AV.agg [bv b7_0,AV.ls b7_1],AV.agg [bv b6,AV.ls xs2]] [] fun r3 o3=>
 At r3 fun cs8=>
 Ag cs8 fun b7 l20=>
 AI l20 fun xs3 l21=>
 Ad l21<|
 Ac o3<|
 Af D (Key.lp 68 0) [AV.ls t0,AV.ls t1,AV.ls t2,AV.ptr 0 0,AV.ptr 1 0,iv (A.add IntKind.i64 t8 1)] [ABlk.mk [bv b6_0,AV.ls b6_1] true false,ABlk.mk [bv b7,AV.ls xs3] true false] fun r4 o4=>
 AR 2 [0,1] (AH.mk [(1,ABlk.mk [bv b7,AV.ls xs3] true false),(0,ABlk.mk [bv b6_0,AV.ls b6_1] true false),(2,ABlk.mk [bv b6,AV.ls xs2] true false)] 3 none) [0,1] r4 o4)
 (Af D (Key.fn 124) [AV.agg [bv b7_0,AV.ls b7_1],AV.agg [bv b3,AV.ls xs1]] [] fun r2 o2=>
 At r2 fun cs7=>
 Ag cs7 fun b6 l18=>
 AI l18 fun xs2 l19=>
 Ad l19<|
 Ac o2<|
 Af D (Key.lp 68 0) [AV.ls t0,AV.ls t1,AV.ls t2,AV.ptr 0 0,AV.ptr 1 0,iv (A.add IntKind.i64 t8 1)] [ABlk.mk [bv b6_0,AV.ls b6_1] true false,ABlk.mk [bv b6,AV.ls xs2] true false] fun r3 o3=>
 AR 2 [0,1] (AH.mk [(1,ABlk.mk [bv b6,AV.ls xs2] true false),(0,ABlk.mk [bv b6_0,AV.ls b6_1] true false),(2,ABlk.mk [bv b3,AV.ls xs1] true false)] 3 none) [0,1] r3 o3))
 (unI t8 fun i3=>
 BG t0 i3 fun cs6=>
 Ag cs6 fun _ l15=>
 Br l15 fun _ l16=>
 Br l16 fun s7 l17=>
 Ad l17<|
 Af D (Key.fn 121) [AV.ls t1,sv s7] [] fun r2 o2=>
 Bp IntKind.i64 r2 fun n1=>
 Ac o2<|
 br (A.lt n1 0)
 (unI t8 fun i4=>
 BG t0 i4 fun cs7=>
 Ag cs7 fun b6 l18=>
 Br l18 fun _ l19=>
 Br l19 fun _ l20=>
 Ad l20<|
 br b6
 (Af D (Key.fn 123) [AV.agg [bv false,AV.ls []]] [] fun r3 o3=>
 At r3 fun cs8=>
 Ag cs8 fun b7 l21=>
 AI l21 fun xs2 l22=>
 Ad l22<|
 Ac o3<|
 Af D (Key.fn 124) [AV.agg [bv b7_0,AV.ls b7_1],AV.agg [bv b7,AV.ls xs2]] [] fun r4 o4=>
 At r4 fun cs9=>
 Ag cs9 fun b8 l23=>
 AI l23 fun xs3 l24=>
 Ad l24<|
 Ac o4<|
 Af D (Key.lp 68 0) [AV.ls t0,AV.ls t1,AV.ls t2,AV.ptr 0 0,AV.ptr 1 0,iv (A.add IntKind.i64 t8 1)] [ABlk.mk [bv b6_0,AV.ls b6_1] true false,ABlk.mk [bv b8,AV.ls xs3] true false] fun r5 o5=>
 AR 2 [0,1] (AH.mk [(1,ABlk.mk [bv b8,AV.ls xs3] true false),(0,ABlk.mk [bv b6_0,AV.ls b6_1] true false),(2,ABlk.mk [bv b7,AV.ls xs2] true false)] 3 none) [0,1] r5 o5)
 (Af D (Key.fn 124) [AV.agg [bv b7_0,AV.ls b7_1],AV.agg [bv false,AV.ls []]] [] fun r3 o3=>
 At r3 fun cs8=>
 Ag cs8 fun b7 l21=>
 AI l21 fun xs2 l22=>
 Ad l22<|
 Ac o3<|
 Af D (Key.lp 68 0) [AV.ls t0,AV.ls t1,AV.ls t2,AV.ptr 0 0,AV.ptr 1 0,iv (A.add IntKind.i64 t8 1)] [ABlk.mk [bv b6_0,AV.ls b6_1] true false,ABlk.mk [bv b7,AV.ls xs2] true false] fun r4 o4=>
 AR 2 [0,1] (AH.mk [(1,ABlk.mk [bv b7,AV.ls xs2] true false),(0,ABlk.mk [bv b6_0,AV.ls b6_1] true false),(2,ABlk.mk [bv false,AV.v (Value.slice none 0 0)] true false)] 3 none) [0,1] r4 o4))
 (br (A.le (↑(Be t2)) n1)
 (unI t8 fun i4=>
 BG t0 i4 fun cs7=>
 Ag cs7 fun b6 l18=>
 Br l18 fun _ l19=>
 Br l19 fun _ l20=>
 Ad l20<|
 br b6
 (Af D (Key.fn 123) [AV.agg [bv false,AV.ls []]] [] fun r3 o3=>
 At r3 fun cs8=>
 Ag cs8 fun b7 l21=>
 AI l21 fun xs2 l22=>
 Ad l22<|
 Ac o3<|
 Af D (Key.fn 124) [AV.agg [bv b7_0,AV.ls b7_1],AV.agg [bv b7,AV.ls xs2]] [] fun r4 o4=>
 At r4 fun cs9=>
 Ag cs9 fun b8 l23=>
 AI l23 fun xs3 l24=>
 Ad l24<|
 Ac o4<|
 Af D (Key.lp 68 0) [AV.ls t0,AV.ls t1,AV.ls t2,AV.ptr 0 0,AV.ptr 1 0,iv (A.add IntKind.i64 t8 1)] [ABlk.mk [bv b6_0,AV.ls b6_1] true false,ABlk.mk [bv b8,AV.ls xs3] true false] fun r5 o5=>
 AR 2 [0,1] (AH.mk [(1,ABlk.mk [bv b8,AV.ls xs3] true false),(0,ABlk.mk [bv b6_0,AV.ls b6_1] true false),(2,ABlk.mk [bv b7,AV.ls xs2] true false)] 3 none) [0,1] r5 o5)
 (Af D (Key.fn 124) [AV.agg [bv b7_0,AV.ls b7_1],AV.agg [bv false,AV.ls []]] [] fun r3 o3=>
 At r3 fun cs8=>
 Ag cs8 fun b7 l21=>
 AI l21 fun xs2 l22=>
 Ad l22<|
 Ac o3<|
 Af D (Key.lp 68 0) [AV.ls t0,AV.ls t1,AV.ls t2,AV.ptr 0 0,AV.ptr 1 0,iv (A.add IntKind.i64 t8 1)] [ABlk.mk [bv b6_0,AV.ls b6_1] true false,ABlk.mk [bv b7,AV.ls xs2] true false] fun r4 o4=>
 AR 2 [0,1] (AH.mk [(1,ABlk.mk [bv b7,AV.ls xs2] true false),(0,ABlk.mk [bv b6_0,AV.ls b6_1] true false),(2,ABlk.mk [bv false,AV.v (Value.slice none 0 0)] true false)] 3 none) [0,1] r4 o4))
 (unI n1 fun i4=>
 BG t2 i4 fun cs7=>
 Ag cs7 fun b6 l18=>
 AI l18 fun xs2 l19=>
 Ad l19<|
 Af D (Key.fn 122) [AV.agg [bv b3,AV.ls xs1],AV.agg [bv b6,AV.ls xs2]] [] fun r3 o3=>
 At r3 fun cs8=>
 Ag cs8 fun b7 l20=>
 AI l20 fun xs3 l21=>
 Ad l21<|
 Ac o3<|
 unI t8 fun i5=>
 BG t0 i5 fun cs9=>
 Ag cs9 fun b8 l22=>
 Br l22 fun _ l23=>
 Br l23 fun _ l24=>
 Ad l24<|
 br b8
 (Af D (Key.fn 123) [AV.agg [bv b7,AV.ls xs3]] [] fun r4 o4=>
 At r4 fun cs10=>
 Ag cs10 fun b9 l25=>
 AI l25 fun xs4 l26=>
 Ad l26<|
 Ac o4<|
 Af D (Key.fn 124) [AV.agg [bv b7_0,AV.ls b7_1],AV.agg [bv b9,AV.ls xs4]] [] fun r5 o5=>
 At r5 fun cs11=>
 Ag cs11 fun b10 l27=>
 AI l27 fun xs5 l28=>
 Ad l28<|
 Ac o5<|
 Af D (Key.lp 68 0) [AV.ls t0,AV.ls t1,AV.ls t2,AV.ptr 0 0,AV.ptr 1 0,iv (A.add IntKind.i64 t8 1)] [ABlk.mk [bv b6_0,AV.ls b6_1] true false,ABlk.mk [bv b10,AV.ls xs5] true false] fun r6 o6=>
 AR 2 [0,1] (AH.mk [(1,ABlk.mk [bv b10,AV.ls xs5] true false),(0,ABlk.mk [bv b6_0,AV.ls b6_1] true false),(2,ABlk.mk [bv b9,AV.ls xs4] true false)] 3 none) [0,1] r6 o6)
 (Af D (Key.fn 124) [AV.agg [bv b7_0,AV.ls b7_1],AV.agg [bv b7,AV.ls xs3]] [] fun r4 o4=>
 At r4 fun cs10=>
 Ag cs10 fun b9 l25=>
 AI l25 fun xs4 l26=>
 Ad l26<|
 Ac o4<|
 Af D (Key.lp 68 0) [AV.ls t0,AV.ls t1,AV.ls t2,AV.ptr 0 0,AV.ptr 1 0,iv (A.add IntKind.i64 t8 1)] [ABlk.mk [bv b6_0,AV.ls b6_1] true false,ABlk.mk [bv b9,AV.ls xs4] true false] fun r5 o5=>
 AR 2 [0,1] (AH.mk [(1,ABlk.mk [bv b9,AV.ls xs4] true false),(0,ABlk.mk [bv b6_0,AV.ls b6_1] true false),(2,ABlk.mk [bv b7,AV.ls xs3] true false)] 3 none) [0,1] r5 o5))))))
 (some ((AV.tup [iv 0,AV.ptr 0 0,AV.ptr 1 0],[BO.set (ABlk.mk [bv b6_0,AV.ls b6_1] true false),BO.set (ABlk.mk [bv b7_0,AV.ls b7_1] true false)]))):=by kernel_rfl
theorem e29(A:Ar)(D:Orc)(x0_0:Int)(x0_1:List (List AV))(x0_2:List (List AV))(x0_3:Int)(x0_4:ByteArray)(x0_5:ByteArray)(x0_6:List (List AV))(x1:List (List AV))(x2:List (List AV)):B3 A D As Wt .n 29 Akv [AV.agg [iv x0_0,AV.ls x0_1,AV.ls x0_2,iv x0_3,sv x0_4,sv x0_5,AV.ls x0_6],AV.ls x1,AV.ls x2] [] =
 br (A.eq x0_0 0)
 (some ((bv true,[])))
 (br (A.eq x0_0 2)
 (Af D (Key.fn 68) [AV.ls x0_1,AV.ls x1,AV.ls x2] [] fun r o=>
 At r fun cs=>
 Ag cs fun b l=>
 AI l fun xs l1=>
 Ad l1<|
 Ac o<|
 Af D (Key.fn 68) [AV.ls x0_2,AV.ls x1,AV.ls x2] [] fun r1 o1=>
 At r1 fun cs1=>
 Ag cs1 fun b1 l2=>
 AI l2 fun xs1 l3=>
 Ad l3<|
 Ac o1<|
 Af D (Key.fn 67) [AV.agg [bv b,AV.ls xs],AV.agg [bv b1,AV.ls xs1]] [] fun r2 o2=>
 Bp IntKind.i64 r2 fun n=>
 Ac o2<|
 br (A.eq x0_3 0)
 (br (A.eq n 0)
 (some ((bv true,[])))
 (some ((bv false,[]))))
 (br (A.eq x0_3 1)
 (br (A.eq n 0)
 (some ((bv false,[])))
 (some ((bv true,[]))))
 (br (A.eq x0_3 2)
 (br (A.lt n 0)
 (some ((bv true,[])))
 (some ((bv false,[]))))
 (br (A.eq x0_3 3)
 (br (A.le n 0)
 (some ((bv true,[])))
 (some ((bv false,[]))))
 (br (A.eq x0_3 4)
 (br (A.lt 0 n)
 (some ((bv true,[])))
 (some ((bv false,[]))))
 (br (A.le 0 n)
 (some ((bv true,[])))
 (some ((bv false,[])))))))))
 (br (A.eq x0_0 3)
 (BG x0_6 0 fun cs=>
 Ay IntKind.i64 cs fun n l=>
 AI l fun xs l1=>
 AI l1 fun xs1 l2=>
 Ay IntKind.i64 l2 fun n1 l3=>
 Br l3 fun s l4=>
 Br l4 fun s1 l5=>
 AI l5 fun xs2 l6=>
 Ad l6<|
 Af D (Key.fn 29) [AV.agg [iv n,AV.ls xs,AV.ls xs1,iv n1,sv s,sv s1,AV.ls xs2],AV.ls x1,AV.ls x2] [] fun r o=>
 AW r fun b=>
 Ac o<|
 br b
 (some ((bv false,[])))
 (some ((bv true,[]))))
 (br (A.eq x0_0 4)
 (BG x0_6 0 fun cs=>
 Ay IntKind.i64 cs fun n l=>
 AI l fun xs l1=>
 AI l1 fun xs1 l2=>
 Ay IntKind.i64 l2 fun n1 l3=>
 Br l3 fun s l4=>
 Br l4 fun s1 l5=>
 AI l5 fun xs2 l6=>
 Ad l6<|
 Af D (Key.fn 29) [AV.agg [iv n,AV.ls xs,AV.ls xs1,iv n1,sv s,sv s1,AV.ls xs2],AV.ls x1,AV.ls x2] [] fun r o=>
 AW r fun b=>
 Ac o<|
 br b
 (BG x0_6 1 fun cs1=>
 Ay IntKind.i64 cs1 fun n2 l7=>
 AI l7 fun xs3 l8=>
 AI l8 fun xs4 l9=>
 Ay IntKind.i64 l9 fun n3 l10=>
 Br l10 fun s2 l11=>
 Br l11 fun s3 l12=>
 AI l12 fun xs5 l13=>
 Ad l13<|
 Af D (Key.fn 29) [AV.agg [iv n2,AV.ls xs3,AV.ls xs4,iv n3,sv s2,sv s3,AV.ls xs5],AV.ls x1,AV.ls x2] [] fun r1 o1=>
 AW r1 fun b1=>
 Ac o1<|
 br b1
 (some ((bv true,[])))
 (some ((bv false,[]))))
 (some ((bv false,[]))))
 (br (A.eq x0_0 5)
 (BG x0_6 0 fun cs=>
 Ay IntKind.i64 cs fun n l=>
 AI l fun xs l1=>
 AI l1 fun xs1 l2=>
 Ay IntKind.i64 l2 fun n1 l3=>
 Br l3 fun s l4=>
 Br l4 fun s1 l5=>
 AI l5 fun xs2 l6=>
 Ad l6<|
 Af D (Key.fn 29) [AV.agg [iv n,AV.ls xs,AV.ls xs1,iv n1,sv s,sv s1,AV.ls xs2],AV.ls x1,AV.ls x2] [] fun r o=>
 AW r fun b=>
 Ac o<|
 br b
 (some ((bv true,[])))
 (BG x0_6 1 fun cs1=>
 Ay IntKind.i64 cs1 fun n2 l7=>
 AI l7 fun xs3 l8=>
 AI l8 fun xs4 l9=>
 Ay IntKind.i64 l9 fun n3 l10=>
 Br l10 fun s2 l11=>
 Br l11 fun s3 l12=>
 AI l12 fun xs5 l13=>
 Ad l13<|
 Af D (Key.fn 29) [AV.agg [iv n2,AV.ls xs3,AV.ls xs4,iv n3,sv s2,sv s3,AV.ls xs5],AV.ls x1,AV.ls x2] [] fun r1 o1=>
 AW r1 fun b1=>
 Ac o1<|
 br b1
 (some ((bv true,[])))
 (some ((bv false,[])))))
 (some ((bv false,[]))))))):=by kernel_rfl
def hs6:Am:=[]
noncomputable def mf6:MFn:=Bj Tryz.prog Ah hs6 false false 6
def hn6:Hnt:=⟨[(14,(.bool,[])),(21,(.int .i64,[])),(26,(.bool,[])),(27,(.tup [.agg [.int .i64,.ls,.bool,.ls,.bool,.ls],.bool],[])),(28,(.bool,[])),(29,(.bool,[]))],[],[(11,[.int .i64,.ls,.ls,.int .i64,.str,.str,.ls]),(25,[.int .i64,.ls,.ls,.int .i64,.str,.str,.ls]),(33,[.int .i64]),(35,[.int .i64,.ls,.bool,.ls,.bool,.ls]),(38,[.int .i64,.ls,.ls,.int .i64,.str,.str,.ls])]⟩
noncomputable def VK:List (Nat × MFn):=[(6,mf6)]
theorem e6(A:Ar)(D:Orc)(x0_0:Int)(x0_1:List (List AV))(x0_2:List (List AV))(x0_3:Int)(x0_4:ByteArray)(x0_5:ByteArray)(x0_6:List (List AV))(x1:List (List AV))(x2:List (List AV)):B3 A D As hn6 .n 6 mf6 [AV.agg [iv x0_0,AV.ls x0_1,AV.ls x0_2,iv x0_3,sv x0_4,sv x0_5,AV.ls x0_6],AV.ls x1,AV.ls x2] [] =
 Af D (Key.fn 14) [] [] fun r o=>
 AW r fun b=>
 Ac o<|
 br b
 (Af D (Key.fn 21) [AV.agg [iv x0_0,AV.ls x0_1,AV.ls x0_2,iv x0_3,sv x0_4,sv x0_5,AV.ls x0_6],iv 60] [] fun r1 o1=>
 Bp IntKind.i64 r1 fun n=>
 Ac o1<|
 br (A.lt 60 n)
 (some ((bv true,[])))
 (br (A.lt 10 ↑(Be x1))
 (some ((bv true,[])))
 (Af D (Key.fn 26) [AV.ls x2,iv 10,iv 4] [] fun r2 o2=>
 AW r2 fun b1=>
 Ac o2<|
 br b1
 (Af D (Key.fn 27) [AV.agg [iv x0_0,AV.ls x0_1,AV.ls x0_2,iv x0_3,sv x0_4,sv x0_5,AV.ls x0_6],AV.ls x1] [] fun r3 o3=>
 AF r3 fun cs=>
 Aj cs fun c l=>
 At c fun cs1=>
 Ay IntKind.i64 cs1 fun n1 l1=>
 AI l1 fun xs l2=>
 Ag l2 fun b2 l3=>
 AI l3 fun xs1 l4=>
 Ag l4 fun b3 l5=>
 AI l5 fun xs2 l6=>
 Ad l6<|
 Ag l fun b4 l7=>
 Ad l7<|
 Ac o3<|
 br (A.not b4)
 (br (A.eq n1 1)
 (some ((bv true,[])))
 (some ((bv false,[]))))
 (Af D (Key.fn 28) [AV.agg [iv n1,AV.ls xs,bv b2,AV.ls xs1,bv b3,AV.ls xs2],AV.ls x2] [] fun r4 o4=>
 AW r4 fun b5=>
 Ac o4<|
 br b5
 (Af D (Key.fn 29) [AV.agg [iv x0_0,AV.ls x0_1,AV.ls x0_2,iv x0_3,sv x0_4,sv x0_5,AV.ls x0_6],AV.ls x1,AV.ls x2] [] fun r5 o5=>
 AW r5 fun b6=>
 Ac o5<|
 br b6
 (br (A.beq true true)
 (some ((bv true,[])))
 (some ((bv false,[]))))
 (br (A.beq true false)
 (some ((bv true,[])))
 (some ((bv false,[])))))
 (Af D (Key.fn 29) [AV.agg [iv x0_0,AV.ls x0_1,AV.ls x0_2,iv x0_3,sv x0_4,sv x0_5,AV.ls x0_6],AV.ls x1,AV.ls x2] [] fun r5 o5=>
 AW r5 fun b6=>
 Ac o5<|
 br b6
 (br (A.beq false true)
 (some ((bv true,[])))
 (some ((bv false,[]))))
 (br (A.beq false false)
 (some ((bv true,[])))
 (some ((bv false,[])))))))
 (some ((bv true,[]))))))
 (some ((bv false,[]))):=by kernel_rfl
end Go.Proofs.YtlmhajfbpplpoaaGreat
