/- Functions of the program -/
import Derived.Test.YtpncilciembjdaaGreatDoorBAO
set_option linter.all false
open List renaming drop->ι,take->κ
namespace Go.Proofs.YtpncilciembjdaaGreatDoor
noncomputable section
open ABlk renaming mk->Ξ
open AV renaming agg->Ω,fn->Apq,ls->Δ,ptr->ε,sl->ζ,tup->ν
open BO renaming set->ο
open IntKind renaming i64->Φ,u64->Θ
open Key renaming fn->θ,lp->γ
open Tryz renaming prog->ψ
section
open Go.RowKit
def AgD:MFn:=AS [] 145
def AfT:Hnt:=⟨[(202,(.ls,[]))],[],[]⟩
def AgB:MFn:=AS [] 142
def AfR:Hnt:=⟨[(145,(.agg [.bool,.ls],[]))],[],[(4,[.bool]),(6,[.ls])]⟩
def Agt:MFn:=AS [] 126
def AfJ:Hnt:=⟨[(145,(.agg [.bool,.ls],[])),(184,(.ls,[]))],[],[]⟩
def AgN:MFn:=AS [] 161
def Af3:Hnt:=⟨[(145,(.agg [.bool,.ls],[]))],[],[(4,[.bool]),(7,[.ls])]⟩
def Als:MFn:=AS [] 64
def Aj7:Hnt:=⟨[(142,(.agg [.bool,.ls],[]))],[],[(3,[.bool,.ls]),(7,[.bool]),(10,[.ls])]⟩
def AgK:MFn:=AS [] 155
def Af0:Hnt:=⟨[(64,(.int .i64,[])),(201,(.int .i64,[]))],[],[(7,[.bool,.ls]),(9,[.bool,.ls]),(23,[.ls]),(25,[.ls]),(28,[.ls]),(30,[.ls])]⟩
def Agz:MFn:=AS [] 139
def AfP:Hnt:=⟨[(145,(.agg [.bool,.ls],[])),(197,(.ls,[])),(198,(.tup [.ls,.bool],[]))],[],[(10,[.bool]),(12,[.bool]),(15,[.bool]),(17,[.ls]),(19,[.ls]),(24,[.ls]),(26,[.ls]),(32,[.bool]),(37,[.ls]),(39,[.ls]),(44,[.bool])]⟩
def AgM:MFn:=AS [] 158
def Af2:Hnt:=⟨[(145,(.agg [.bool,.ls],[])),(212,(.ls,[]))],[],[(6,[.bool]),(8,[.bool]),(11,[.ls]),(13,[.ls])]⟩
def Hx:List (Nat × MFn):=[(145,AgD),(142,AgB),(126,Agt),(161,AgN),(64,Als),(155,AgK),(139,Agz),(158,AgM)]
variable (A:Ar) (D:Orc)
theorem AmD(x0:Bool)(x1:Rw):BP A D As AfT (.b (.t (.t (.b (.t .n) (.t .n)))) (.f (.f (.f .n)))) 145 AgD [bv x0,Δ x1] [] =
 Af D (θ 202) [Δ x1] [] [.l,.E] λxs=>
 br x0
 (br x0 (br x0 (br (A.lt 0 ↑(AF xs))
 (br x0 (some ((Ω [bv true,Δ xs],[]))) none)
 (br x0 (some ((Ω [bv false,Δ xs],[]))) none)) none) none)
 (br x0 none (br x0 none (br x0 none (some ((Ω [bv false,Δ xs],[])))))):=by kernel_rfl
theorem AmB(x0_0:Bool)(x0_1:Rw):BP A D As AfR .n 142 AgB [Ω [bv x0_0,Δ x0_1]] [] =
 Af D (θ 145) [bv x0_0,Δ x0_1] [] [.a,.B,.L,.N,.E] λb xs=>
 some ((Ω [bv b,Δ xs],[])):=by kernel_rfl
theorem Ams(x0:Int):BP A D As AfJ .n 126 Agt [iv x0] [] =
 br (A.lt x0 0)
 (Af D (θ 184) [AV.v (Value.int Θ (A.add Θ (A.conv Θ (A.sub Φ 0 (A.add Φ x0 1))) 1))] [] [.l,.E] λxs=>
 Af D (θ 145) [bv true,Δ xs] [] [.a,.B,.L,.N,.E] λb xs1=>
 some ((Ω [bv b,Δ xs1],[])))
 (Af D (θ 184) [AV.v (Value.int Θ (A.conv Θ x0))] [] [.l,.E] λxs=>
 Af D (θ 145) [bv false,Δ xs] [] [.a,.B,.L,.N,.E] λb xs1=>
 some ((Ω [bv b,Δ xs1],[]))):=by kernel_rfl
theorem AmR(x0_0:Bool)(x0_1:Rw):BP A D As Af3 .n 161 AgN [Ω [bv x0_0,Δ x0_1]] [] =
 br (A.not x0_0)
 (Af D (θ 145) [bv true,Δ x0_1] [] [.a,.B,.L,.N,.E] λb xs=>
 some ((Ω [bv b,Δ xs],[])))
 (Af D (θ 145) [bv false,Δ x0_1] [] [.a,.B,.L,.N,.E] λb xs=>
 some ((Ω [bv b,Δ xs],[]))):=by kernel_rfl
theorem e64(x0_0:Bool)(x0_1:Rw):BP A D As Aj7 .n 64 Als [Ω [bv x0_0,Δ x0_1]] [] =
 Af D (θ 142) [Ω [bv x0_0,Δ x0_1]] [] [.a,.B,.L,.N,.E] λb xs=>
 br b
 (some ((iv (-1),[])))
 (br (A.lt 0 ↑(AF xs))
 (some ((iv 1,[])))
 (some ((iv 0,[])))):=by kernel_rfl
theorem AmN(x0_0:Bool)(x0_1:Rw)(x1_0:Bool)(x1_1:Rw):BP A D As Af0 .n 155 AgK [Ω [bv x0_0,Δ x0_1],Ω [bv x1_0,Δ x1_1]] [] =
 Af D (θ 64) [Ω [bv x0_0,Δ x0_1]] [] [.i,.E] λn=>
 Af D (θ 64) [Ω [bv x1_0,Δ x1_1]] [] [.i,.E] λn1=>
 br (A.lt n n1)
 (some ((iv (-1),[])))
 (br (A.lt n1 n)
 (some ((iv 1,[])))
 (br (A.lt n 0)
 (Af D (θ 201) [Δ x1_1,Δ x0_1] [] [.i,.E] λn2=>
 some ((iv n2,[])))
 (Af D (θ 201) [Δ x0_1,Δ x1_1] [] [.i,.E] λn2=>
 some ((iv n2,[]))))):=by kernel_rfl
theorem Amz(x0_0:Bool)(x0_1:Rw)(x1_0:Bool)(x1_1:Rw):BP A D As AfP .n 139 Agz [Ω [bv x0_0,Δ x0_1],Ω [bv x1_0,Δ x1_1]] [] =
 br (A.beq x0_0 x1_0)
 (Af D (θ 197) [Δ x0_1,Δ x1_1] [] [.l,.E] λxs=>
 Af D (θ 145) [bv x0_0,Δ xs] [] [.a,.B,.L,.N,.E] λb xs1=>
 some ((Ω [bv b,Δ xs1],[])))
 (Af D (θ 198) [Δ x0_1,Δ x1_1] [] [.t,.L,.B,.N,.E] λxs b=>
 br b
 (Af D (θ 145) [bv x0_0,Δ xs] [] [.a,.B,.L,.N,.E] λb1 xs1=>
 some ((Ω [bv b1,Δ xs1],[])))
 (Af D (θ 198) [Δ x1_1,Δ x0_1] [] [.t,.L,.B,.N,.E] λxs1 _=>
 Af D (θ 145) [bv x1_0,Δ xs1] [] [.a,.B,.L,.N,.E] λb2 xs2=>
 some ((Ω [bv b2,Δ xs2],[])))):=by kernel_rfl
theorem AmQ(x0_0:Bool)(x0_1:Rw)(x1_0:Bool)(x1_1:Rw):BP A D As Af2 .n 158 AgM [Ω [bv x0_0,Δ x0_1],Ω [bv x1_0,Δ x1_1]] [] =
 br (A.not (A.beq x0_0 x1_0))
 (Af D (θ 212) [Δ x0_1,Δ x1_1] [] [.l,.E] λxs=>
 Af D (θ 145) [bv true,Δ xs] [] [.a,.B,.L,.N,.E] λb xs1=>
 some ((Ω [bv b,Δ xs1],[])))
 (Af D (θ 212) [Δ x0_1,Δ x1_1] [] [.l,.E] λxs=>
 Af D (θ 145) [bv false,Δ xs] [] [.a,.B,.L,.N,.E] λb xs1=>
 some ((Ω [bv b,Δ xs1],[]))):=by kernel_rfl
end
section
open Go.RowKit
def AgL:MFn:=AS [] 157
def Af1:Hnt:=⟨[],[],[]⟩
def AlC:MFn:=AS [] 84
def Akh:Hnt:=⟨[(157,(.bool,[]))],[],[]⟩
def Agx:MFn:=AS [] 137
def AfN:Hnt:=⟨[(84,(.int .i64,[]))],[],[(6,[.int .i64]),(8,[.int .i64])]⟩
def AgA:MFn:=AS [] 141
def AfQ:Hnt:=⟨[(64,(.int .i64,[]))],[],[(4,[.bool,.ls])]⟩
def Agw:MFn:=P6 ψ Bb [] false true 136
def AfM:Hnt:=⟨[(137,(.int .i64,[])),(196,(.tup [],[.row true]))],[],[]⟩
def Akt:AB:=[⟨63,[true,true,true,false,false,false,true,true,true],[],[],[(1,([true,true,true,false,false,false,true,true],([],[1000000])))]⟩,⟨63,[true,true,true,false,false,false,true],[],[],[(3,([true],([],[1000000])))]⟩,⟨63,[true,true,true,false,false,false,true,true,true],[],[],[(5,([true,true,true,false,false,false,true,true],([],[1000000])))]⟩]
def Ky:MFn:=P6 ψ Bb Akt false true 196
def F8:Hnt:=⟨[(137,(.int .i64,[])),(234,(.tup [],[.row true])),(235,(.tup [],[.row true]))],[(0,[(1,([.sl 0 3,.int .i64,.fnc 137,.int .i64,.int .i64],[.row true]))]),(1,[(3,([.sl 0 3],[.row true]))]),(2,[(5,([.sl 0 3,.int .i64,.fnc 137,.int .i64,.int .i64],[.row true]))])],[]⟩
def AkI:AB:=[⟨53,[true,true,true,true,false,false,false,false,true],[],[],[(1,([true],([],[1000000])))]⟩,⟨53,[true,true,true,true,false,false,false,false,true,true],[],[],[(3,([true,true,true,true,false,false,false,false,true],([],[1000000])))]⟩]
def Oa:MFn:=P6 ψ Bb AkI false true 234
def Gw:Hnt:=⟨[(137,(.int .i64,[]))],[(0,[(1,([.sl 0 3],[.row true]))]),(1,[(3,([.sl 0 3,.int .i64,.int .i64,.fnc 137,.int .i64],[.row true]))])],[(25,[.int .i64,.bool,.ls]),(26,[.int .i64,.bool,.ls]),(30,[.int .i64,.bool,.ls]),(31,[.int .i64,.bool,.ls]),(45,[.int .i64,.bool,.ls]),(46,[.int .i64,.bool,.ls]),(49,[.int .i64,.bool,.ls]),(50,[.int .i64,.bool,.ls]),(51,[.int .i64,.bool,.ls]),(52,[.int .i64,.bool,.ls])]⟩
def AkJ:AB:=[⟨220,[true,true,false,false,true,false,false,false,false,false,true,true],[],[],[(1,([true,true,false,false,false,false,false,false,false,false,true],([],[1000000])))]⟩,⟨220,[true,false,false,false,false,false,false,false,false,false,true,false,false,true],[],[],[(3,([true],([],[1000000])))]⟩,⟨220,[true,false,true,false,true,false,false,false,false,false,false,false,false,false,true,true],[],[],[(5,([true,false,true,false,false,false,false,false,false,false,false,false,false,false,true],([],[1000000])))]⟩,⟨220,[true,false,false,false,false,false,false,false,false,false,false,false,false,false,true,false,false,true],[],[],[(7,([true],([],[1000000])))]⟩,⟨220,[true,true,true,true,true,false,false,false,false,false,false,false,false,false,false,false,false,false,true,true,true,true,true],[],[],[(9,([true,true,true,true,true,false,false,false,false,false,false,false,false,false,false,false,false,false,true,true,true],([],[1000000])))]⟩]
def Ga:MFn:=P6 ψ Bb AkJ false true 235
def Cq:Hnt:=⟨[(137,(.int .i64,[])),(235,(.tup [],[.row true])),(265,(.tup [],[.row true]))],[(0,[(1,([.sl 0 3,.int .i64,.int .i64],[.row true]))]),(1,[(3,([.sl 0 3],[.row true]))]),(2,[(5,([.sl 0 3,.int .i64,.int .i64],[.row true]))]),(3,[(7,([.sl 0 3],[.row true]))]),(4,[(9,([.sl 0 3,.int .i64,.int .i64,.int .i64,.fnc 137,.int .i64,.int .i64,.int .i64],[.row true]))])],[(43,[.int .i64,.bool,.ls]),(44,[.int .i64,.bool,.ls]),(47,[.int .i64,.bool,.ls]),(48,[.int .i64,.bool,.ls]),(69,[.int .i64,.bool,.ls]),(70,[.int .i64,.bool,.ls]),(73,[.int .i64,.bool,.ls]),(74,[.int .i64,.bool,.ls]),(75,[.int .i64,.bool,.ls]),(76,[.int .i64,.bool,.ls]),(95,[.int .i64,.bool,.ls]),(96,[.int .i64,.bool,.ls]),(99,[.int .i64,.bool,.ls]),(100,[.int .i64,.bool,.ls]),(121,[.int .i64,.bool,.ls]),(122,[.int .i64,.bool,.ls]),(125,[.int .i64,.bool,.ls]),(126,[.int .i64,.bool,.ls]),(127,[.int .i64,.bool,.ls]),(128,[.int .i64,.bool,.ls]),(163,[.int .i64,.bool,.ls]),(164,[.int .i64,.bool,.ls]),(167,[.int .i64,.bool,.ls]),(168,[.int .i64,.bool,.ls])]⟩
def AkL:AB:=[⟨58,[true,false,true,false,true,false,false,false,false,false,true,true],[],[],[(1,([true,false,true,false,true,false,false,false,false,false,true],([],[1000000])))]⟩]
def Ul:MFn:=P6 ψ Bb AkL false true 265
def N2:Hnt:=⟨[(137,(.int .i64,[])),(275,(.tup [],[.row true]))],[(0,[(1,([.sl 0 3,.int .i64,.fnc 137,.int .i64],[.row true]))])],[]⟩
def AkM:AB:=[⟨38,[true,true,true,true,false,false,false,false,false,false,true],[],[],[(1,([true],([],[1000000])))]⟩]
def Um:MFn:=P6 ψ Bb AkM false true 275
def QP:Hnt:=⟨[(137,(.int .i64,[]))],[(0,[(1,([.sl 0 3],[.row true]))])],[(28,[.int .i64,.bool,.ls]),(29,[.int .i64,.bool,.ls]),(34,[.int .i64,.bool,.ls]),(35,[.int .i64,.bool,.ls]),(36,[.int .i64,.bool,.ls]),(37,[.int .i64,.bool,.ls])]⟩
def Akm:AB:=[⟨42,[true,true,false,false,false,true,true],[],[],[(1,([true,false,false,false,false,true],([],[1000000])))]⟩]
def T4:MFn:=P6 ψ Bb Akm true true 140
def Ml:Hnt:=⟨[(141,(.bool,[])),(199,(.int .i64,[.row true]))],[(0,[(1,([.sl 0 3,.int .i64],[.row true]))])],[(24,[.int .i64,.bool,.ls]),(25,[.int .i64,.bool,.ls]),(27,[.int .i64,.bool,.ls]),(32,[.int .i64,.bool,.ls]),(33,[.int .i64,.bool,.ls])]⟩
def Akw:AB:=[⟨19,[true,true,false,false,false,false,false,true,true],[],[],[(0,([true,false,false,false,true],([],[1000000]))),(1,([true],([],[1000000])))]⟩]
def Ub:MFn:=P6 ψ Bb Akw false true 199
def Mm:Hnt:=⟨[(141,(.bool,[]))],[(0,[(0,([.sl 0 3,.int .i64],[.row true])),(1,([.sl 0 3],[.row true]))])],[(14,[.int .i64,.bool,.ls]),(15,[.int .i64,.bool,.ls])]⟩
def Eh:List (Nat × MFn):=[(157,AgL),(84,AlC),(137,Agx),(141,AgA),(136,Agw),(196,Ky),(234,Oa),(235,Ga),(265,Ul),(275,Um),(140,T4),(199,Ub)]
variable (A:Ar) (D:Orc)
theorem AmP(x0:Int):BP A D As Af1 .n 157 AgL [iv x0] [] =
 br (A.eq x0 x0)
 (some ((bv false,[])))
 (some ((bv true,[]))):=by kernel_rfl
theorem e84(x0 x1:Int):BP A D As Akh .n 84 AlC [iv x0,iv x1] [] =
 Af D (θ 157) [iv x0] [] [.b,.E] λb=>
 br b
 (Af D (θ 157) [iv x1] [] [.b,.E] λb1=>
 br b1
 (some ((iv 0,[])))
 (some ((iv (-1),[]))))
 (Af D (θ 157) [iv x1] [] [.b,.E] λb1=>
 br b1
 (some ((iv 1,[])))
 (br (A.lt x0 x1)
 (some ((iv (-1),[])))
 (br (A.lt x1 x0)
 (some ((iv 1,[])))
 (some ((iv 0,[])))))):=by kernel_rfl
theorem Amx(x0_0:Int)(x0_1:Bool)(x0_2:Rw)(x1_0:Int)(x1_1:Bool)(x1_2:Rw):BP A D As AfN .n 137 Agx [Ω [iv x0_0,bv x0_1,Δ x0_2],Ω [iv x1_0,bv x1_1,Δ x1_2]] [] =
 Af D (θ 84) [iv x0_0,iv x1_0] [] [.i,.E] λn=>
 some ((iv n,[])):=by kernel_rfl
theorem AmA(x0_0:Int)(x0_1:Bool)(x0_2:Rw):BP A D As AfQ .n 141 AgA [Ω [iv x0_0,bv x0_1,Δ x0_2]] [] =
 Af D (θ 64) [Ω [bv x0_1,Δ x0_2]] [] [.i,.E] λn=>
 br (A.eq n 0)
 (some ((bv true,[])))
 (some ((bv false,[]))):=by kernel_rfl
theorem Amw(n0:Nat)(c0:List AV):BP A D As AfM .n 136 Agw [ζ 0 0 n0 3,Apq (Fn.func 137) [] []] [{ cells:=c0,st:=true,ex:=true }] =
 Af D (θ 196) [ζ 0 0 n0 3,iv ↑n0,Apq (Fn.func 137) [] []] [Ξ c0 true true] [.t,.N,.R,.X,.E] λcs1=>
 some ((ν [],[ο (Ξ cs1 true true)])):=by kernel_rfl
theorem AmZ(n0:Nat)(c0:List AV)(x1:Int):BP A D As F8 .n 196 Ky [ζ 0 0 n0 3,iv x1,Apq (Fn.func 137) [] []] [{ cells:=c0,st:=true,ex:=true }] =
 Af D (γ 196 0) [ζ 0 0 n0 3,iv x1,Apq (Fn.func 137) [] [],iv 20,iv 0,iv 20] [Ξ c0 true true] [.t,.C,.x,.X,.Y] λc l o=>
 br (Bo 1 c)
 (dk [.C,.q 0 3,.I,.C,.f 137,.I,.I,.N,.R,.X,.E] [.l l,.o o] λn n1 n2 n3 cs1=>
 Af D (θ 234) [ζ 0 0 n 3,iv n3,iv n1,Apq (Fn.func 137) [] []] [Ξ cs1 true true] [.t,.N,.R,.X,.E] λcs3=>
 Af D (γ 196 1) [ζ 0 0 n 3,iv n1,Apq (Fn.func 137) [] [],iv n2] [Ξ cs3 true true] [.t,.C,.x,.X,.Y] λc5 l8 o2=>
 br (Bo 3 c5)
 (dk [.C,.q 0 3,.N,.R,.X,.E] [.l l8,.o o2] λ_ cs5=>
 some ((ν [],[ο (Ξ cs5 true true)])))
 (none))
 (none):=by kernel_rfl
theorem Xi(n0:Nat)(c0:List AV)(t1 t6 t7 t8:Int):CO A D As F8 .n 196 0 (AN Ky 0).fst (AN Ky 0).snd [ζ 0 0 n0 3,iv t1,Apq (Fn.func 137) [] [],iv t6,iv t7,iv t8] [{ cells:=c0,st:=true,ex:=true }] =
 br (A.le t8 t1)
 (Af D (θ 234) [ζ 0 0 n0 3,iv t7,iv t8,Apq (Fn.func 137) [] []] [Ξ c0 true true] [.t,.N,.R,.X,.E] λcs1=>
 AI D (γ 196 0) [ζ 0 0 n0 3,iv t1,Apq (Fn.func 137) [] [],iv t6,iv t8,iv (A.add Φ t8 t6)] [Ξ cs1 true true] λr1 o1=>
 AE 1 [0] (AH.mk [(0,Ξ cs1 true true)] 1 none) [0] r1 o1)
 (some ((ν [iv 0,ζ 0 0 n0 3,iv t1,Apq (Fn.func 137) [] [],iv t6,iv t7],[ο (Ξ c0 true true)]))):=by kernel_rfl
theorem So(n0:Nat)(c0:List AV)(t1 t6:Int):CO A D As F8 .n 196 1 (AN Ky 1).fst (AN Ky 1).snd [ζ 0 0 n0 3,iv t1,Apq (Fn.func 137) [] [],iv t6] [{ cells:=c0,st:=true,ex:=true }] =
 br (A.lt t6 t1)
 (Af D (γ 196 2) [ζ 0 0 n0 3,iv t1,Apq (Fn.func 137) [] [],iv t6,iv 0,iv (A.mul Φ 2 t6)] [Ξ c0 true true] [.t,.C,.x,.X,.Y] λc l o=>
 br (Bo 5 c)
 (dk [.C,.q 0 3,.I,.C,.f 137,.I,.I,.N,.R,.X,.E] [.l l,.o o] λn n1 n2 n3 cs1=>
 br (A.lt (A.add Φ n3 n2) n1)
 (Af D (θ 235) [ζ 0 0 n 3,iv n3,iv (A.add Φ n3 n2),iv n1,Apq (Fn.func 137) [] []] [Ξ cs1 true true] [.t,.N,.R,.X,.E] λcs3=>
 AI D (γ 196 1) [ζ 0 0 n 3,iv n1,Apq (Fn.func 137) [] [],iv (A.mul Φ n2 2)] [Ξ cs3 true true] λr2 o2=>
 AE 1 [0] (AH.mk [(0,Ξ cs3 true true)] 1 none) [0] r2 o2)
 (AI D (γ 196 1) [ζ 0 0 n 3,iv n1,Apq (Fn.func 137) [] [],iv (A.mul Φ n2 2)] [Ξ cs1 true true] λr1 o1=>
 AE 1 [0] (AH.mk [(0,Ξ cs1 true true)] 1 none) [0] r1 o1))
 (none))
 (some ((ν [iv 2,ζ 0 0 n0 3],[ο (Ξ c0 true true)]))):=by kernel_rfl
theorem Xj(n0:Nat)(c0:List AV)(t1 t6 t7 t8:Int):CO A D As F8 .n 196 2 (AN Ky 2).fst (AN Ky 2).snd [ζ 0 0 n0 3,iv t1,Apq (Fn.func 137) [] [],iv t6,iv t7,iv t8] [{ cells:=c0,st:=true,ex:=true }] =
 br (A.le t8 t1)
 (Af D (θ 235) [ζ 0 0 n0 3,iv t7,iv (A.add Φ t7 t6),iv t8,Apq (Fn.func 137) [] []] [Ξ c0 true true] [.t,.N,.R,.X,.E] λcs1=>
 AI D (γ 196 2) [ζ 0 0 n0 3,iv t1,Apq (Fn.func 137) [] [],iv t6,iv t8,iv (A.add Φ t8 (A.mul Φ 2 t6))] [Ξ cs1 true true] λr1 o1=>
 AE 1 [0] (AH.mk [(0,Ξ cs1 true true)] 1 none) [0] r1 o1)
 (some ((ν [iv 4,ζ 0 0 n0 3,iv t1,Apq (Fn.func 137) [] [],iv t6,iv t7],[ο (Ξ c0 true true)]))):=by kernel_rfl
theorem AjG(n0:Nat)(c0:List AV)(x1 x2:Int):BP A D As Gw .n 234 Oa [ζ 0 0 n0 3,iv x1,iv x2,Apq (Fn.func 137) [] []] [{ cells:=c0,st:=true,ex:=true }] =
 Af D (γ 234 0) [ζ 0 0 n0 3,iv x1,iv x2,Apq (Fn.func 137) [] [],iv (A.add Φ x1 1)] [Ξ c0 true true] [.t,.C,.x,.X,.Y] λc l o=>
 br (Bo 1 c)
 (dk [.C,.q 0 3,.N,.R,.X,.E] [.l l,.o o] λ_ cs1=>
 some ((ν [],[ο (Ξ cs1 true true)])))
 (none):=by kernel_rfl
theorem Ss(n0:Nat)(c0:List AV)(t1 t2 t8:Int):CO A D As Gw .n 234 0 (AN Oa 0).fst (AN Oa 0).snd [ζ 0 0 n0 3,iv t1,iv t2,Apq (Fn.func 137) [] [],iv t8] [{ cells:=c0,st:=true,ex:=true }] =
 br (A.lt t8 t2)
 (Af D (γ 234 1) [ζ 0 0 n0 3,iv t1,iv t2,Apq (Fn.func 137) [] [],iv t8,iv t8] [Ξ c0 true true] [.t,.C,.x,.X,.Y] λc l o=>
 br (Bo 3 c)
 (dk [.C,.q 0 3,.I,.I,.C,.f 137,.I,.N,.R,.X,.E] [.l l,.o o] λn n1 n2 n3 cs1=>
 AI D (γ 234 0) [ζ 0 0 n 3,iv n1,iv n2,Apq (Fn.func 137) [] [],iv (A.add Φ n3 1)] [Ξ cs1 true true] λr1 o1=>
 AE 1 [0] (AH.mk [(0,Ξ cs1 true true)] 1 none) [0] r1 o1)
 (none))
 (some ((ν [iv 0,ζ 0 0 n0 3],[ο (Ξ c0 true true)]))):=by kernel_rfl
theorem St(n0:Nat)(c0:List AV)(t1 t2 t8 t9:Int):CO A D As Gw .n 234 1 (AN Oa 1).fst (AN Oa 1).snd [ζ 0 0 n0 3,iv t1,iv t2,Apq (Fn.func 137) [] [],iv t8,iv t9] [{ cells:=c0,st:=true,ex:=true }] =
 br (A.lt t1 t9)
 (unI t9 λi=>
 br (i.blt n0) (EQ c0 (0+i*3) 3 λcs=>
 dk [.I,.B,.L,.N] [.l cs] λn b xs=>
 unI (A.sub Φ t9 1) λi1=>
 br (i1.blt n0) (EQ c0 (0+i1*3) 3 λcs1=>
 dk [.I,.B,.L,.N] [.l cs1] λn1 b1 xs1=>
 Af D (θ 137) [Ω [iv n,bv b,Δ xs],Ω [iv n1,bv b1,Δ xs1]] [] [.i,.E] λn2=>
 br (A.lt n2 0)
 (unI (A.sub Φ t9 1) λi2=>
 br (i2.blt n0) (EQ c0 (0+i2*3) 3 λcs2=>
 dk [.I,.B,.L,.N] [.l cs2] λn3 b2 xs2=>
 unI t9 λi3=>
 br (i3.blt n0) (EQ c0 (0+i3*3) 3 λcs3=>
 dk [.I,.B,.L,.N] [.l cs3] λn4 b3 xs3=>
 unI t9 λi4=>
 br (i4.blt n0) (br ((0+i4*3+3).ble c0.length) (unI (A.sub Φ t9 1) λi5=>
 br (i5.blt n0) (br ((0+i5*3+3).ble (AG c0 (0+i4*3) [iv n3,bv b2,Δ xs2]).length) (AI D (γ 234 1) [ζ 0 0 n0 3,iv t1,iv t2,Apq (Fn.func 137) [] [],iv t8,iv (A.sub Φ t9 1)] [Ξ (AG (AG c0 (0+i4*3) [iv n3,bv b2,Δ xs2]) (0+i5*3) [iv n4,bv b3,Δ xs3]) true true] λr1 o1=>
 AE 1 [0] (AH.mk [(0,Ξ (AG (AG c0 (0+i4*3) [iv n3,bv b2,Δ xs2]) (0+i5*3) [iv n4,bv b3,Δ xs3]) true true)] 1 none) [0] r1 o1) none) none) none) none) none) none)
 (some ((ν [iv 2,ζ 0 0 n0 3,iv t1,iv t2,Apq (Fn.func 137) [] [],iv t8],[ο (Ξ c0 true true)])))) none) none)
 (some ((ν [iv 2,ζ 0 0 n0 3,iv t1,iv t2,Apq (Fn.func 137) [] [],iv t8],[ο (Ξ c0 true true)]))):=by kernel_rfl
theorem Qp(n0:Nat)(c0:List AV)(x1 x2 x3:Int):BP A D As Cq .n 235 Ga [ζ 0 0 n0 3,iv x1,iv x2,iv x3,Apq (Fn.func 137) [] []] [{ cells:=c0,st:=true,ex:=true }] =
 br (A.eq (A.sub Φ x2 x1) 1)
 (Af D (γ 235 0) [ζ 0 0 n0 3,iv x1,Apq (Fn.func 137) [] [],iv x2,iv x3] [Ξ c0 true true] [.t,.C,.x,.X,.Y] λc l o=>
 br (Bo 1 c)
 (dk [.C,.q 0 3,.I,.I,.N,.R,.X,.E] [.l l,.o o] λn n1 n2 cs1=>
 Af D (γ 235 1) [ζ 0 0 n 3,iv n2,iv n1] [Ξ cs1 true true] [.t,.C,.x,.X,.Y] λc3 l5 o1=>
 br (Bo 3 c3)
 (dk [.C,.q 0 3,.N,.R,.X,.E] [.l l5,.o o1] λ_ cs3=>
 some ((ν [],[ο (Ξ cs3 true true)])))
 (none))
 (none))
 (br (A.eq (A.sub Φ x3 x2) 1)
 (Af D (γ 235 2) [ζ 0 0 n0 3,iv x2,Apq (Fn.func 137) [] [],iv x1,iv x2] [Ξ c0 true true] [.t,.C,.x,.X,.Y] λc l o=>
 br (Bo 5 c)
 (dk [.C,.q 0 3,.I,.I,.N,.R,.X,.E] [.l l,.o o] λn n1 n2 cs1=>
 Af D (γ 235 3) [ζ 0 0 n 3,iv n2,iv n1] [Ξ cs1 true true] [.t,.C,.x,.X,.Y] λc3 l5 o1=>
 br (Bo 7 c3)
 (dk [.C,.q 0 3,.N,.R,.X,.E] [.l l5,.o o1] λ_ cs3=>
 some ((ν [],[ο (Ξ cs3 true true)])))
 (none))
 (none))
 (br (A.lt 1 0)
 (none)
 (br (A.lt (A.conv Φ (A.shr Θ (A.conv Θ (A.add Φ x1 x3)) 1)) x2)
 (Af D (γ 235 4) [ζ 0 0 n0 3,iv x1,iv x2,iv x3,Apq (Fn.func 137) [] [],iv (A.conv Φ (A.shr Θ (A.conv Θ (A.add Φ x1 x3)) 1)),iv (A.add Φ (A.conv Φ (A.shr Θ (A.conv Θ (A.add Φ x1 x3)) 1)) x2),iv (A.sub Φ (A.add Φ (A.conv Φ (A.shr Θ (A.conv Θ (A.add Φ x1 x3)) 1)) x2) x3),iv (A.conv Φ (A.shr Θ (A.conv Θ (A.add Φ x1 x3)) 1)),iv (A.sub Φ (A.add Φ (A.conv Φ (A.shr Θ (A.conv Θ (A.add Φ x1 x3)) 1)) x2) 1)] [Ξ c0 true true] [.t,.C,.x,.X,.Y] λc l o=>
 br (Bo 9 c)
 (dk [.C,.q 0 3,.I,.I,.I,.C,.f 137,.I,.I,.I,.N,.R,.X,.E] [.l l,.o o] λn n1 n2 n3 n4 n5 n6 cs1=>
 br (A.lt n6 n2)
 (br (A.lt n2 (A.sub Φ n5 n6))
 (Af D (θ 265) [ζ 0 0 n 3,iv n6,iv n2,iv (A.sub Φ n5 n6),Apq (Fn.func 137) [] []] [Ξ cs1 true true] [.t,.N,.R,.X,.E] λcs3=>
 br (A.lt n1 n6)
 (br (A.lt n6 n4)
 (Af D (θ 235) [ζ 0 0 n 3,iv n1,iv n6,iv n4,Apq (Fn.func 137) [] []] [Ξ cs3 true true] [.t,.N,.R,.X,.E] λcs5=>
 br (A.lt n4 (A.sub Φ n5 n6))
 (br (A.lt (A.sub Φ n5 n6) n3)
 (Af D (θ 235) [ζ 0 0 n 3,iv n4,iv (A.sub Φ n5 n6),iv n3,Apq (Fn.func 137) [] []] [Ξ cs5 true true] [.t,.N,.R,.X,.E] λcs7=>
 some ((ν [],[ο (Ξ cs7 true true)])))
 (some ((ν [],[ο (Ξ cs5 true true)]))))
 (some ((ν [],[ο (Ξ cs5 true true)]))))
 (br (A.lt n4 (A.sub Φ n5 n6))
 (br (A.lt (A.sub Φ n5 n6) n3)
 (Af D (θ 235) [ζ 0 0 n 3,iv n4,iv (A.sub Φ n5 n6),iv n3,Apq (Fn.func 137) [] []] [Ξ cs3 true true] [.t,.N,.R,.X,.E] λcs5=>
 some ((ν [],[ο (Ξ cs5 true true)])))
 (some ((ν [],[ο (Ξ cs3 true true)]))))
 (some ((ν [],[ο (Ξ cs3 true true)])))))
 (br (A.lt n4 (A.sub Φ n5 n6))
 (br (A.lt (A.sub Φ n5 n6) n3)
 (Af D (θ 235) [ζ 0 0 n 3,iv n4,iv (A.sub Φ n5 n6),iv n3,Apq (Fn.func 137) [] []] [Ξ cs3 true true] [.t,.N,.R,.X,.E] λcs5=>
 some ((ν [],[ο (Ξ cs5 true true)])))
 (some ((ν [],[ο (Ξ cs3 true true)]))))
 (some ((ν [],[ο (Ξ cs3 true true)])))))
 (br (A.lt n1 n6)
 (br (A.lt n6 n4)
 (Af D (θ 235) [ζ 0 0 n 3,iv n1,iv n6,iv n4,Apq (Fn.func 137) [] []] [Ξ cs1 true true] [.t,.N,.R,.X,.E] λcs3=>
 br (A.lt n4 (A.sub Φ n5 n6))
 (br (A.lt (A.sub Φ n5 n6) n3)
 (Af D (θ 235) [ζ 0 0 n 3,iv n4,iv (A.sub Φ n5 n6),iv n3,Apq (Fn.func 137) [] []] [Ξ cs3 true true] [.t,.N,.R,.X,.E] λcs5=>
 some ((ν [],[ο (Ξ cs5 true true)])))
 (some ((ν [],[ο (Ξ cs3 true true)]))))
 (some ((ν [],[ο (Ξ cs3 true true)]))))
 (br (A.lt n4 (A.sub Φ n5 n6))
 (br (A.lt (A.sub Φ n5 n6) n3)
 (Af D (θ 235) [ζ 0 0 n 3,iv n4,iv (A.sub Φ n5 n6),iv n3,Apq (Fn.func 137) [] []] [Ξ cs1 true true] [.t,.N,.R,.X,.E] λcs3=>
 some ((ν [],[ο (Ξ cs3 true true)])))
 (some ((ν [],[ο (Ξ cs1 true true)]))))
 (some ((ν [],[ο (Ξ cs1 true true)])))))
 (br (A.lt n4 (A.sub Φ n5 n6))
 (br (A.lt (A.sub Φ n5 n6) n3)
 (Af D (θ 235) [ζ 0 0 n 3,iv n4,iv (A.sub Φ n5 n6),iv n3,Apq (Fn.func 137) [] []] [Ξ cs1 true true] [.t,.N,.R,.X,.E] λcs3=>
 some ((ν [],[ο (Ξ cs3 true true)])))
 (some ((ν [],[ο (Ξ cs1 true true)]))))
 (some ((ν [],[ο (Ξ cs1 true true)]))))))
 (br (A.lt n1 n6)
 (br (A.lt n6 n4)
 (Af D (θ 235) [ζ 0 0 n 3,iv n1,iv n6,iv n4,Apq (Fn.func 137) [] []] [Ξ cs1 true true] [.t,.N,.R,.X,.E] λcs3=>
 br (A.lt n4 (A.sub Φ n5 n6))
 (br (A.lt (A.sub Φ n5 n6) n3)
 (Af D (θ 235) [ζ 0 0 n 3,iv n4,iv (A.sub Φ n5 n6),iv n3,Apq (Fn.func 137) [] []] [Ξ cs3 true true] [.t,.N,.R,.X,.E] λcs5=>
 some ((ν [],[ο (Ξ cs5 true true)])))
 (some ((ν [],[ο (Ξ cs3 true true)]))))
 (some ((ν [],[ο (Ξ cs3 true true)]))))
 (br (A.lt n4 (A.sub Φ n5 n6))
 (br (A.lt (A.sub Φ n5 n6) n3)
 (Af D (θ 235) [ζ 0 0 n 3,iv n4,iv (A.sub Φ n5 n6),iv n3,Apq (Fn.func 137) [] []] [Ξ cs1 true true] [.t,.N,.R,.X,.E] λcs3=>
 some ((ν [],[ο (Ξ cs3 true true)])))
 (some ((ν [],[ο (Ξ cs1 true true)]))))
 (some ((ν [],[ο (Ξ cs1 true true)])))))
 (br (A.lt n4 (A.sub Φ n5 n6))
 (br (A.lt (A.sub Φ n5 n6) n3)
 (Af D (θ 235) [ζ 0 0 n 3,iv n4,iv (A.sub Φ n5 n6),iv n3,Apq (Fn.func 137) [] []] [Ξ cs1 true true] [.t,.N,.R,.X,.E] λcs3=>
 some ((ν [],[ο (Ξ cs3 true true)])))
 (some ((ν [],[ο (Ξ cs1 true true)]))))
 (some ((ν [],[ο (Ξ cs1 true true)]))))))
 (none))
 (Af D (γ 235 4) [ζ 0 0 n0 3,iv x1,iv x2,iv x3,Apq (Fn.func 137) [] [],iv (A.conv Φ (A.shr Θ (A.conv Θ (A.add Φ x1 x3)) 1)),iv (A.add Φ (A.conv Φ (A.shr Θ (A.conv Θ (A.add Φ x1 x3)) 1)) x2),iv x1,iv x2,iv (A.sub Φ (A.add Φ (A.conv Φ (A.shr Θ (A.conv Θ (A.add Φ x1 x3)) 1)) x2) 1)] [Ξ c0 true true] [.t,.C,.x,.X,.Y] λc l o=>
 br (Bo 9 c)
 (dk [.C,.q 0 3,.I,.I,.I,.C,.f 137,.I,.I,.I,.N,.R,.X,.E] [.l l,.o o] λn n1 n2 n3 n4 n5 n6 cs1=>
 br (A.lt n6 n2)
 (br (A.lt n2 (A.sub Φ n5 n6))
 (Af D (θ 265) [ζ 0 0 n 3,iv n6,iv n2,iv (A.sub Φ n5 n6),Apq (Fn.func 137) [] []] [Ξ cs1 true true] [.t,.N,.R,.X,.E] λcs3=>
 br (A.lt n1 n6)
 (br (A.lt n6 n4)
 (Af D (θ 235) [ζ 0 0 n 3,iv n1,iv n6,iv n4,Apq (Fn.func 137) [] []] [Ξ cs3 true true] [.t,.N,.R,.X,.E] λcs5=>
 br (A.lt n4 (A.sub Φ n5 n6))
 (br (A.lt (A.sub Φ n5 n6) n3)
 (Af D (θ 235) [ζ 0 0 n 3,iv n4,iv (A.sub Φ n5 n6),iv n3,Apq (Fn.func 137) [] []] [Ξ cs5 true true] [.t,.N,.R,.X,.E] λcs7=>
 some ((ν [],[ο (Ξ cs7 true true)])))
 (some ((ν [],[ο (Ξ cs5 true true)]))))
 (some ((ν [],[ο (Ξ cs5 true true)]))))
 (br (A.lt n4 (A.sub Φ n5 n6))
 (br (A.lt (A.sub Φ n5 n6) n3)
 (Af D (θ 235) [ζ 0 0 n 3,iv n4,iv (A.sub Φ n5 n6),iv n3,Apq (Fn.func 137) [] []] [Ξ cs3 true true] [.t,.N,.R,.X,.E] λcs5=>
 some ((ν [],[ο (Ξ cs5 true true)])))
 (some ((ν [],[ο (Ξ cs3 true true)]))))
 (some ((ν [],[ο (Ξ cs3 true true)])))))
 (br (A.lt n4 (A.sub Φ n5 n6))
 (br (A.lt (A.sub Φ n5 n6) n3)
 (Af D (θ 235) [ζ 0 0 n 3,iv n4,iv (A.sub Φ n5 n6),iv n3,Apq (Fn.func 137) [] []] [Ξ cs3 true true] [.t,.N,.R,.X,.E] λcs5=>
 some ((ν [],[ο (Ξ cs5 true true)])))
 (some ((ν [],[ο (Ξ cs3 true true)]))))
 (some ((ν [],[ο (Ξ cs3 true true)])))))
 (br (A.lt n1 n6)
 (br (A.lt n6 n4)
 (Af D (θ 235) [ζ 0 0 n 3,iv n1,iv n6,iv n4,Apq (Fn.func 137) [] []] [Ξ cs1 true true] [.t,.N,.R,.X,.E] λcs3=>
 br (A.lt n4 (A.sub Φ n5 n6))
 (br (A.lt (A.sub Φ n5 n6) n3)
 (Af D (θ 235) [ζ 0 0 n 3,iv n4,iv (A.sub Φ n5 n6),iv n3,Apq (Fn.func 137) [] []] [Ξ cs3 true true] [.t,.N,.R,.X,.E] λcs5=>
 some ((ν [],[ο (Ξ cs5 true true)])))
 (some ((ν [],[ο (Ξ cs3 true true)]))))
 (some ((ν [],[ο (Ξ cs3 true true)]))))
 (br (A.lt n4 (A.sub Φ n5 n6))
 (br (A.lt (A.sub Φ n5 n6) n3)
 (Af D (θ 235) [ζ 0 0 n 3,iv n4,iv (A.sub Φ n5 n6),iv n3,Apq (Fn.func 137) [] []] [Ξ cs1 true true] [.t,.N,.R,.X,.E] λcs3=>
 some ((ν [],[ο (Ξ cs3 true true)])))
 (some ((ν [],[ο (Ξ cs1 true true)]))))
 (some ((ν [],[ο (Ξ cs1 true true)])))))
 (br (A.lt n4 (A.sub Φ n5 n6))
 (br (A.lt (A.sub Φ n5 n6) n3)
 (Af D (θ 235) [ζ 0 0 n 3,iv n4,iv (A.sub Φ n5 n6),iv n3,Apq (Fn.func 137) [] []] [Ξ cs1 true true] [.t,.N,.R,.X,.E] λcs3=>
 some ((ν [],[ο (Ξ cs3 true true)])))
 (some ((ν [],[ο (Ξ cs1 true true)]))))
 (some ((ν [],[ο (Ξ cs1 true true)]))))))
 (br (A.lt n1 n6)
 (br (A.lt n6 n4)
 (Af D (θ 235) [ζ 0 0 n 3,iv n1,iv n6,iv n4,Apq (Fn.func 137) [] []] [Ξ cs1 true true] [.t,.N,.R,.X,.E] λcs3=>
 br (A.lt n4 (A.sub Φ n5 n6))
 (br (A.lt (A.sub Φ n5 n6) n3)
 (Af D (θ 235) [ζ 0 0 n 3,iv n4,iv (A.sub Φ n5 n6),iv n3,Apq (Fn.func 137) [] []] [Ξ cs3 true true] [.t,.N,.R,.X,.E] λcs5=>
 some ((ν [],[ο (Ξ cs5 true true)])))
 (some ((ν [],[ο (Ξ cs3 true true)]))))
 (some ((ν [],[ο (Ξ cs3 true true)]))))
 (br (A.lt n4 (A.sub Φ n5 n6))
 (br (A.lt (A.sub Φ n5 n6) n3)
 (Af D (θ 235) [ζ 0 0 n 3,iv n4,iv (A.sub Φ n5 n6),iv n3,Apq (Fn.func 137) [] []] [Ξ cs1 true true] [.t,.N,.R,.X,.E] λcs3=>
 some ((ν [],[ο (Ξ cs3 true true)])))
 (some ((ν [],[ο (Ξ cs1 true true)]))))
 (some ((ν [],[ο (Ξ cs1 true true)])))))
 (br (A.lt n4 (A.sub Φ n5 n6))
 (br (A.lt (A.sub Φ n5 n6) n3)
 (Af D (θ 235) [ζ 0 0 n 3,iv n4,iv (A.sub Φ n5 n6),iv n3,Apq (Fn.func 137) [] []] [Ξ cs1 true true] [.t,.N,.R,.X,.E] λcs3=>
 some ((ν [],[ο (Ξ cs3 true true)])))
 (some ((ν [],[ο (Ξ cs1 true true)]))))
 (some ((ν [],[ο (Ξ cs1 true true)]))))))
 (none))))):=by kernel_rfl
theorem Su(n0:Nat)(c0:List AV)(t1 t10 t11:Int):CO A D As Cq .n 235 0 (AN Ga 0).fst (AN Ga 0).snd [ζ 0 0 n0 3,iv t1,Apq (Fn.func 137) [] [],iv t10,iv t11] [{ cells:=c0,st:=true,ex:=true }] =
 br (A.lt t10 t11)
 (br (A.lt 1 0)
 (none)
 (unI (A.conv Φ (A.shr Θ (A.conv Θ (A.add Φ t10 t11)) 1)) λi=>
 br (i.blt n0) (EQ c0 (0+i*3) 3 λcs=>
 dk [.I,.B,.L,.N] [.l cs] λn b xs=>
 unI t1 λi1=>
 br (i1.blt n0) (EQ c0 (0+i1*3) 3 λcs1=>
 dk [.I,.B,.L,.N] [.l cs1] λn1 b1 xs1=>
 Af D (θ 137) [Ω [iv n,bv b,Δ xs],Ω [iv n1,bv b1,Δ xs1]] [] [.i,.E] λn2=>
 br (A.lt n2 0)
 (AI D (γ 235 0) [ζ 0 0 n0 3,iv t1,Apq (Fn.func 137) [] [],iv (A.add Φ (A.conv Φ (A.shr Θ (A.conv Θ (A.add Φ t10 t11)) 1)) 1),iv t11] [Ξ c0 true true] λr1 o1=>
 AE 1 [0] (AH.mk [(0,Ξ c0 true true)] 1 none) [] r1 o1)
 (AI D (γ 235 0) [ζ 0 0 n0 3,iv t1,Apq (Fn.func 137) [] [],iv t10,iv (A.conv Φ (A.shr Θ (A.conv Θ (A.add Φ t10 t11)) 1))] [Ξ c0 true true] λr1 o1=>
 AE 1 [0] (AH.mk [(0,Ξ c0 true true)] 1 none) [] r1 o1)) none) none))
 (some ((ν [iv 0,ζ 0 0 n0 3,iv t1,iv t10],[ο (Ξ c0 true true)]))):=by kernel_rfl
theorem Xv(n0:Nat)(c0:List AV)(t10 t13:Int):CO A D As Cq .n 235 1 (AN Ga 1).fst (AN Ga 1).snd [ζ 0 0 n0 3,iv t10,iv t13] [{ cells:=c0,st:=true,ex:=true }] =
 br (A.lt t13 (A.sub Φ t10 1))
 (unI (A.add Φ t13 1) λi=>
 br (i.blt n0) (EQ c0 (0+i*3) 3 λcs=>
 dk [.I,.B,.L,.N] [.l cs] λn b xs=>
 unI t13 λi1=>
 br (i1.blt n0) (EQ c0 (0+i1*3) 3 λcs1=>
 dk [.I,.B,.L,.N] [.l cs1] λn1 b1 xs1=>
 unI t13 λi2=>
 br (i2.blt n0) (br ((0+i2*3+3).ble c0.length) (unI (A.add Φ t13 1) λi3=>
 br (i3.blt n0) (br ((0+i3*3+3).ble (AG c0 (0+i2*3) [iv n,bv b,Δ xs]).length) (AI D (γ 235 1) [ζ 0 0 n0 3,iv t10,iv (A.add Φ t13 1)] [Ξ (AG (AG c0 (0+i2*3) [iv n,bv b,Δ xs]) (0+i3*3) [iv n1,bv b1,Δ xs1]) true true] λr o=>
 AE 1 [0] (AH.mk [(0,Ξ (AG (AG c0 (0+i2*3) [iv n,bv b,Δ xs]) (0+i3*3) [iv n1,bv b1,Δ xs1]) true true)] 1 none) [0] r o) none) none) none) none) none) none)
 (some ((ν [iv 2,ζ 0 0 n0 3],[ο (Ξ c0 true true)]))):=by kernel_rfl
theorem Sv(n0:Nat)(c0:List AV)(t2 t14 t15:Int):CO A D As Cq .n 235 2 (AN Ga 2).fst (AN Ga 2).snd [ζ 0 0 n0 3,iv t2,Apq (Fn.func 137) [] [],iv t14,iv t15] [{ cells:=c0,st:=true,ex:=true }] =
 br (A.lt t14 t15)
 (br (A.lt 1 0)
 (none)
 (unI t2 λi=>
 br (i.blt n0) (EQ c0 (0+i*3) 3 λcs=>
 dk [.I,.B,.L,.N] [.l cs] λn b xs=>
 unI (A.conv Φ (A.shr Θ (A.conv Θ (A.add Φ t14 t15)) 1)) λi1=>
 br (i1.blt n0) (EQ c0 (0+i1*3) 3 λcs1=>
 dk [.I,.B,.L,.N] [.l cs1] λn1 b1 xs1=>
 Af D (θ 137) [Ω [iv n,bv b,Δ xs],Ω [iv n1,bv b1,Δ xs1]] [] [.i,.E] λn2=>
 br (A.lt n2 0)
 (AI D (γ 235 2) [ζ 0 0 n0 3,iv t2,Apq (Fn.func 137) [] [],iv t14,iv (A.conv Φ (A.shr Θ (A.conv Θ (A.add Φ t14 t15)) 1))] [Ξ c0 true true] λr1 o1=>
 AE 1 [0] (AH.mk [(0,Ξ c0 true true)] 1 none) [] r1 o1)
 (AI D (γ 235 2) [ζ 0 0 n0 3,iv t2,Apq (Fn.func 137) [] [],iv (A.add Φ (A.conv Φ (A.shr Θ (A.conv Θ (A.add Φ t14 t15)) 1)) 1),iv t15] [Ξ c0 true true] λr1 o1=>
 AE 1 [0] (AH.mk [(0,Ξ c0 true true)] 1 none) [] r1 o1)) none) none))
 (some ((ν [iv 4,ζ 0 0 n0 3,iv t2,iv t14],[ο (Ξ c0 true true)]))):=by kernel_rfl
theorem Xw(n0:Nat)(c0:List AV)(t14 t17:Int):CO A D As Cq .n 235 3 (AN Ga 3).fst (AN Ga 3).snd [ζ 0 0 n0 3,iv t14,iv t17] [{ cells:=c0,st:=true,ex:=true }] =
 br (A.lt t14 t17)
 (unI (A.sub Φ t17 1) λi=>
 br (i.blt n0) (EQ c0 (0+i*3) 3 λcs=>
 dk [.I,.B,.L,.N] [.l cs] λn b xs=>
 unI t17 λi1=>
 br (i1.blt n0) (EQ c0 (0+i1*3) 3 λcs1=>
 dk [.I,.B,.L,.N] [.l cs1] λn1 b1 xs1=>
 unI t17 λi2=>
 br (i2.blt n0) (br ((0+i2*3+3).ble c0.length) (unI (A.sub Φ t17 1) λi3=>
 br (i3.blt n0) (br ((0+i3*3+3).ble (AG c0 (0+i2*3) [iv n,bv b,Δ xs]).length) (AI D (γ 235 3) [ζ 0 0 n0 3,iv t14,iv (A.sub Φ t17 1)] [Ξ (AG (AG c0 (0+i2*3) [iv n,bv b,Δ xs]) (0+i3*3) [iv n1,bv b1,Δ xs1]) true true] λr o=>
 AE 1 [0] (AH.mk [(0,Ξ (AG (AG c0 (0+i2*3) [iv n,bv b,Δ xs]) (0+i3*3) [iv n1,bv b1,Δ xs1]) true true)] 1 none) [0] r o) none) none) none) none) none) none)
 (some ((ν [iv 6,ζ 0 0 n0 3],[ο (Ξ c0 true true)]))):=by kernel_rfl
theorem Sw(n0:Nat)(c0:List AV)(t1 t2 t3 t18 t19 t20 t21 t22:Int):CO A D As Cq .n 235 4 (AN Ga 4).fst (AN Ga 4).snd [ζ 0 0 n0 3,iv t1,iv t2,iv t3,Apq (Fn.func 137) [] [],iv t18,iv t19,iv t20,iv t21,iv t22] [{ cells:=c0,st:=true,ex:=true }] =
 br (A.lt t20 t21)
 (br (A.lt 1 0)
 (none)
 (unI (A.sub Φ t22 (A.conv Φ (A.shr Θ (A.conv Θ (A.add Φ t20 t21)) 1))) λi=>
 br (i.blt n0) (EQ c0 (0+i*3) 3 λcs=>
 dk [.I,.B,.L,.N] [.l cs] λn b xs=>
 unI (A.conv Φ (A.shr Θ (A.conv Θ (A.add Φ t20 t21)) 1)) λi1=>
 br (i1.blt n0) (EQ c0 (0+i1*3) 3 λcs1=>
 dk [.I,.B,.L,.N] [.l cs1] λn1 b1 xs1=>
 Af D (θ 137) [Ω [iv n,bv b,Δ xs],Ω [iv n1,bv b1,Δ xs1]] [] [.i,.E] λn2=>
 br (A.lt n2 0)
 (AI D (γ 235 4) [ζ 0 0 n0 3,iv t1,iv t2,iv t3,Apq (Fn.func 137) [] [],iv t18,iv t19,iv t20,iv (A.conv Φ (A.shr Θ (A.conv Θ (A.add Φ t20 t21)) 1)),iv t22] [Ξ c0 true true] λr1 o1=>
 AE 1 [0] (AH.mk [(0,Ξ c0 true true)] 1 none) [] r1 o1)
 (AI D (γ 235 4) [ζ 0 0 n0 3,iv t1,iv t2,iv t3,Apq (Fn.func 137) [] [],iv t18,iv t19,iv (A.add Φ (A.conv Φ (A.shr Θ (A.conv Θ (A.add Φ t20 t21)) 1)) 1),iv t21,iv t22] [Ξ c0 true true] λr1 o1=>
 AE 1 [0] (AH.mk [(0,Ξ c0 true true)] 1 none) [] r1 o1)) none) none))
 (some ((ν [iv 8,ζ 0 0 n0 3,iv t1,iv t2,iv t3,Apq (Fn.func 137) [] [],iv t18,iv t19,iv t20],[ο (Ξ c0 true true)]))):=by kernel_rfl
theorem Ani(n0:Nat)(c0:List AV)(x1 x2 x3:Int):BP A D As N2 .n 265 Ul [ζ 0 0 n0 3,iv x1,iv x2,iv x3,Apq (Fn.func 137) [] []] [{ cells:=c0,st:=true,ex:=true }] =
 Af D (γ 265 0) [ζ 0 0 n0 3,iv x2,Apq (Fn.func 137) [] [],iv (A.sub Φ x2 x1),iv (A.sub Φ x3 x2)] [Ξ c0 true true] [.t,.C,.x,.X,.Y] λc l o=>
 br (Bo 1 c)
 (dk [.C,.q 0 3,.I,.C,.f 137,.I,.N,.R,.X,.E] [.l l,.o o] λn n1 n2 cs1=>
 Af D (θ 275) [ζ 0 0 n 3,iv (A.sub Φ n1 n2),iv n1,iv n2,Apq (Fn.func 137) [] []] [Ξ cs1 true true] [.t,.N,.R,.X,.E] λcs3=>
 some ((ν [],[ο (Ξ cs3 true true)])))
 (none):=by kernel_rfl
theorem Sx(n0:Nat)(c0:List AV)(t2 t10 t11:Int):CO A D As N2 .n 265 0 (AN Ul 0).fst (AN Ul 0).snd [ζ 0 0 n0 3,iv t2,Apq (Fn.func 137) [] [],iv t10,iv t11] [{ cells:=c0,st:=true,ex:=true }] =
 br (A.eq t10 t11)
 (some ((ν [iv 0,ζ 0 0 n0 3,iv t2,Apq (Fn.func 137) [] [],iv t10],[ο (Ξ c0 true true)])))
 (br (A.lt t11 t10)
 (Af D (θ 275) [ζ 0 0 n0 3,iv (A.sub Φ t2 t10),iv t2,iv t11,Apq (Fn.func 137) [] []] [Ξ c0 true true] [.t,.N,.R,.X,.E] λcs1=>
 AI D (γ 265 0) [ζ 0 0 n0 3,iv t2,Apq (Fn.func 137) [] [],iv (A.sub Φ t10 t11),iv t11] [Ξ cs1 true true] λr1 o1=>
 AE 1 [0] (AH.mk [(0,Ξ cs1 true true)] 1 none) [0] r1 o1)
 (Af D (θ 275) [ζ 0 0 n0 3,iv (A.sub Φ t2 t10),iv (A.sub Φ (A.add Φ t2 t11) t10),iv t10,Apq (Fn.func 137) [] []] [Ξ c0 true true] [.t,.N,.R,.X,.E] λcs1=>
 AI D (γ 265 0) [ζ 0 0 n0 3,iv t2,Apq (Fn.func 137) [] [],iv t10,iv (A.sub Φ t11 t10)] [Ξ cs1 true true] λr1 o1=>
 AE 1 [0] (AH.mk [(0,Ξ cs1 true true)] 1 none) [0] r1 o1)):=by kernel_rfl
theorem Anj(n0:Nat)(c0:List AV)(x1 x2 x3:Int):BP A D As QP .n 275 Um [ζ 0 0 n0 3,iv x1,iv x2,iv x3,Apq (Fn.func 137) [] []] [{ cells:=c0,st:=true,ex:=true }] =
 Af D (γ 275 0) [ζ 0 0 n0 3,iv x1,iv x2,iv x3,iv 0] [Ξ c0 true true] [.t,.C,.x,.X,.Y] λc l o=>
 br (Bo 1 c)
 (dk [.C,.q 0 3,.N,.R,.X,.E] [.l l,.o o] λ_ cs1=>
 some ((ν [],[ο (Ξ cs1 true true)])))
 (none):=by kernel_rfl
theorem Xz(n0:Nat)(c0:List AV)(t1 t2 t3 t10:Int):CO A D As QP .n 275 0 (AN Um 0).fst (AN Um 0).snd [ζ 0 0 n0 3,iv t1,iv t2,iv t3,iv t10] [{ cells:=c0,st:=true,ex:=true }] =
 br (A.lt t10 t3)
 (unI (A.add Φ t2 t10) λi=>
 br (i.blt n0) (EQ c0 (0+i*3) 3 λcs=>
 dk [.I,.B,.L,.N] [.l cs] λn b xs=>
 unI (A.add Φ t1 t10) λi1=>
 br (i1.blt n0) (EQ c0 (0+i1*3) 3 λcs1=>
 dk [.I,.B,.L,.N] [.l cs1] λn1 b1 xs1=>
 unI (A.add Φ t1 t10) λi2=>
 br (i2.blt n0) (br ((0+i2*3+3).ble c0.length) (unI (A.add Φ t2 t10) λi3=>
 br (i3.blt n0) (br ((0+i3*3+3).ble (AG c0 (0+i2*3) [iv n,bv b,Δ xs]).length) (AI D (γ 275 0) [ζ 0 0 n0 3,iv t1,iv t2,iv t3,iv (A.add Φ t10 1)] [Ξ (AG (AG c0 (0+i2*3) [iv n,bv b,Δ xs]) (0+i3*3) [iv n1,bv b1,Δ xs1]) true true] λr o=>
 AE 1 [0] (AH.mk [(0,Ξ (AG (AG c0 (0+i2*3) [iv n,bv b,Δ xs]) (0+i3*3) [iv n1,bv b1,Δ xs1]) true true)] 1 none) [0] r o) none) none) none) none) none) none)
 (some ((ν [iv 0,ζ 0 0 n0 3],[ο (Ξ c0 true true)]))):=by kernel_rfl
theorem Ajw(n0:Nat)(c0:List AV):BP A D As Ml .n 140 T4 [ζ 0 0 n0 3,Apq (Fn.func 141) [] []] [{ cells:=c0,st:=true,ex:=true }] =
 Af D (θ 199) [ζ 0 0 n0 3,Apq (Fn.func 141) [] []] [Ξ c0 true true] [.i,.R,.X,.E] λn cs=>
 br (A.eq n (-1))
 (some ((ζ 0 0 n0 3,[ο (Ξ cs true true)])))
 (Af D (γ 140 0) [ζ 0 0 n0 3,Apq (Fn.func 141) [] [],iv n,iv (A.add Φ n 1)] [Ξ cs true true] [.t,.C,.x,.X,.Y] λc1 l1 o1=>
 br (Bo 1 c1)
 (dk [.C,.q 0 3,.I,.N,.R,.X,.E] [.l l1,.o o1] λn1 n2 cs2=>
 unI n2 λi=>
 br (IK i n1 n1) (br ((0+i*3+(n1-i)*3).ble cs2.length) (unI n2 λi1=>
 br (IK 0 i1 n1) (some ((ζ 0 0 i1 3,[ο (Ξ (AG cs2 (0+i*3) (BM [iv 0,bv false,AV.v (Value.slice none 0 0)] ((n1-i)*3))) true true)]))) none) none) none)
 (none)):=by kernel_rfl
theorem Sn(n0:Nat)(c0:List AV)(t5 t6:Int):CO A D As Ml .n 140 0 (AN T4 0).fst (AN T4 0).snd [ζ 0 0 n0 3,Apq (Fn.func 141) [] [],iv t5,iv t6] [{ cells:=c0,st:=true,ex:=true }] =
 br (A.lt t6 ↑n0)
 (unI t6 λi=>
 br (i.blt n0) (EQ c0 (0+i*3) 3 λcs=>
 dk [.I,.B,.L,.N] [.l cs] λn b xs=>
 Af D (θ 141) [Ω [iv n,bv b,Δ xs]] [] [.b,.E] λb1=>
 br b1
 (AI D (γ 140 0) [ζ 0 0 n0 3,Apq (Fn.func 141) [] [],iv t5,iv (A.add Φ t6 1)] [Ξ c0 true true] λr1 o1=>
 AE 1 [0] (AH.mk [(1,bk [iv n,bv b,Δ xs]),(0,Ξ c0 true true)] 2 none) [] r1 o1)
 (unI t5 λi1=>
 br (i1.blt n0) (br ((0+i1*3+3).ble c0.length) (AI D (γ 140 0) [ζ 0 0 n0 3,Apq (Fn.func 141) [] [],iv (A.add Φ t5 1),iv (A.add Φ t6 1)] [Ξ (AG c0 (0+i1*3) [iv n,bv b,Δ xs]) true true] λr1 o1=>
 AE 1 [0] (AH.mk [(0,Ξ (AG c0 (0+i1*3) [iv n,bv b,Δ xs]) true true),(1,bk [iv n,bv b,Δ xs])] 2 none) [0] r1 o1) none) none)) none)
 (some ((ν [iv 0,ζ 0 0 n0 3,iv t5],[ο (Ξ c0 true true)]))):=by kernel_rfl
theorem Am2(n0:Nat)(c0:List AV):BP A D As Mm .n 199 Ub [ζ 0 0 n0 3,Apq (Fn.func 141) [] []] [{ cells:=c0,st:=true,ex:=true }] =
 Af D (γ 199 0) [ζ 0 0 n0 3,Apq (Fn.func 141) [] [],iv ↑n0,iv 0] [Ξ c0 true true] [.t,.C,.x,.X,.Y] λc l o=>
 br (Bo 0 c)
 (dk [.C,.q 0 3,.I,.N,.R,.X,.E] [.l l,.o o] λ_ n1 cs1=>
 some ((iv n1,[ο (Ξ cs1 true true)])))
 (br (Bo 1 c)
 (dk [.C,.q 0 3,.N,.R,.X,.E] [.l l,.o o] λ_ cs1=>
 some ((iv (-1),[ο (Ξ cs1 true true)])))
 (none)):=by kernel_rfl
theorem O2(n0:Nat)(c0:List AV)(t7 t8:Int):CO A D As Mm .n 199 0 (AN Ub 0).fst (AN Ub 0).snd [ζ 0 0 n0 3,Apq (Fn.func 141) [] [],iv t7,iv t8] [{ cells:=c0,st:=true,ex:=true }] =
 br (A.lt t8 t7)
 (unI t8 λi=>
 br (i.blt n0) (EQ c0 (0+i*3) 3 λcs=>
 dk [.I,.B,.L,.N] [.l cs] λn b xs=>
 Af D (θ 141) [Ω [iv n,bv b,Δ xs]] [] [.b,.E] λb1=>
 br b1
 (some ((ν [bv true,ζ 0 0 n0 3,iv t8],[ο (Ξ c0 true true)])))
 (AI D (γ 199 0) [ζ 0 0 n0 3,Apq (Fn.func 141) [] [],iv t7,iv (A.add Φ t8 1)] [Ξ c0 true true] λr1 o1=>
 AE 1 [0] (AH.mk [(0,Ξ c0 true true)] 1 none) [] r1 o1)) none)
 (some ((ν [iv 0,ζ 0 0 n0 3],[ο (Ξ c0 true true)]))):=by kernel_rfl
end
section
open Go.RowKit
def Agy:MFn:=AS [] 138
def AfO:Hnt:=⟨[(145,(.agg [.bool,.ls],[]))],[],[(4,[.bool]),(6,[.ls])]⟩
def Anw:AB:=[⟨74,[false,false,true,false,true,false,false,false,false,false,false,false,false,false,false,false,false,true,true,true],[(1000004,3)],[2,17],[(1,([false,false,true,false,true],([],[])))]⟩]
def Ace:MFn:=AS Anw 62
def X6:Hnt:=⟨[(135,(.sl 0 3,[.row true])),(136,(.tup [],[.row true])),(138,(.agg [.bool,.ls],[])),(139,(.agg [.bool,.ls],[])),(140,(.sl 0 3,[.row true]))],[(0,[(1,([.ptr 0 0,.ptr 1 0],[.box [.ls,.bool,.ls],.box [.sl 3 3,.bool,.ls],.del,.row true]))])],[(9,[.ls]),(14,[.bool,.ls]),(21,[.int .i64,.bool,.ls]),(22,[.int .i64,.bool,.ls]),(24,[.int .i64]),(27,[.ls]),(34,[.ls]),(36,[.int .i64,.bool,.ls]),(38,[.int .i64]),(40,[.int .i64]),(44,[.ls]),(47,[.ls]),(49,[.int .i64,.bool,.ls]),(51,[.bool,.ls]),(53,[.bool,.ls]),(55,[.int .i64,.bool,.ls]),(58,[.ls]),(60,[.int .i64]),(62,[.bool,.ls]),(70,[.ls]),(73,[.ls,.bool,.ls])]⟩
def Gc:List (Nat × MFn):=[(138,Agy),(62,Ace)]
variable (A:Ar) (D:Orc)
theorem Amy(x0_0:Bool)(x0_1:Rw):BP A D As AfO .n 138 Agy [Ω [bv x0_0,Δ x0_1]] [] =
 Af D (θ 145) [bv x0_0,Δ x0_1] [] [.a,.B,.L,.N,.E] λb xs=>
 some ((Ω [bv b,Δ xs],[])):=by kernel_rfl
theorem e62(x0_0:Rw)(x0_1:Bool)(x0_2:Rw):BP A D As X6 .n 62 Ace [Ω [Δ x0_0,bv x0_1,Δ x0_2]] [] =
 Af D (θ 135) [Δ x0_0] [] [.q 0 3,.R,.X,.E] λn cs=>
 Af D (θ 136) [ζ 0 0 n 3,Apq (Fn.func 137) [] []] [Ξ cs true true] [.t,.N,.R,.X,.E] λcs2=>
 Af D (θ 138) [Ω [bv x0_1,Δ x0_2]] [] [.a,.B,.L,.N,.E] λb xs=>
 br ((0+n*3).ble cs2.length) (AI D (γ 62 0) [ε 0 0,ε 1 0,Δ (Bh n 3 (κ (n*3) cs2)),iv ↑n,iv 0] [bk [Δ [],bv false,Δ []],bk [ζ 2 0 0 3,bv b,Δ xs],Ξ [] true true] λr3 o3=>
 dk [.t,.C,.x,.X] [.v r3] λc2 l4=>
 br (Bo 1 c2)
 (dk [.P 0 0,.P 1 0,.N,.T,.L,.B,.L,.N,.T,.C,.q 3 3,.B,.L,.N,.D,.R,.X,.E] [.l l4,.o o3] λ_ _ _ n1 b2 xs3 cs7=>
 Af D (θ 140) [ζ 0 0 n1 3,Apq (Fn.func 141) [] []] [Ξ cs7 true true] [.q 0 3,.R,.X,.E] λn2 cs8=>
 br ((0+n2*3).ble cs8.length) (some ((Ω [Δ (Bh n2 3 (κ (n2*3) cs8)),bv b2,Δ xs3],[]))) none)
 (none)) none:=by kernel_rfl
theorem Afu(r0:Rw)(r1:Bool)(r2:Rw)(n4:Nat)(k1:Bool)(k2:Rw)(c4:List AV)(t17:Rw)(t18 t19:Int):CO A D As X6 .n 62 0 (AN Ace 0).fst (AN Ace 0).snd [ε 0 0,ε 1 0,Δ t17,iv t18,iv t19] [bk [Δ r0,bv r1,Δ r2],bk [ζ 2 0 n4 3,bv k1,Δ k2],{ cells:=c4,st:=true,ex:=true }] =
 br (A.lt t19 t18)
 (unI t19 λi=>
 Bl t17 i λcs=>
 dk [.I,.B,.L,.N] [.l cs] λn b xs=>
 br (A.lt n 0)
 (AI D (γ 62 0) [ε 0 0,ε 1 0,Δ t17,iv t18,iv (A.add Φ t19 1)] [bk [Δ r0,bv r1,Δ r2],bk [ζ 2 0 n4 3,bv k1,Δ k2],Ξ c4 true true] λr o=>
 AE 3 [0,1,2] (AH.mk [(0,bk [Δ r0,bv r1,Δ r2]),(3,bk [iv n,bv b,Δ xs]),(1,bk [ζ 2 0 n4 3,bv k1,Δ k2]),(2,Ξ c4 true true)] 4 none) [0] r o)
 (br (A.le 0 (A.sub Φ (↑n4) 1))
 (unI (A.sub Φ (↑n4) 1) λi1=>
 br (i1.blt n4) (EQ c4 (0+i1*3+0) 1 λcs1=>
 dk [.I,.N] [.l cs1] λn1=>
 br (A.eq n1 n)
 (unI (A.sub Φ (↑n4) 1) λi2=>
 br (i2.blt n4) (EQ c4 (0+i2*3+1) 2 λcs2=>
 dk [.B,.L,.N] [.l cs2] λb1 xs1=>
 Af D (θ 139) [Ω [bv b1,Δ xs1],Ω [bv b,Δ xs]] [] [.a,.B,.L,.N,.E] λb2 xs2=>
 unI (A.sub Φ (↑n4) 1) λi3=>
 br (i3.blt n4) (br ((0+i3*3+1+2).ble c4.length) (AI D (γ 62 0) [ε 0 0,ε 1 0,Δ t17,iv t18,iv (A.add Φ t19 1)] [bk [Δ r0,bv r1,Δ r2],bk [ζ 2 0 n4 3,bv k1,Δ k2],Ξ (AG c4 (0+i3*3+1) [bv b2,Δ xs2]) true true] λr3 o1=>
 AE 3 [0,1,2] (AH.mk [(0,bk [Δ r0,bv r1,Δ r2]),(2,Ξ (AG c4 (0+i3*3+1) [bv b2,Δ xs2]) true true),(3,bk [iv n,bv b,Δ xs]),(1,bk [ζ 2 0 n4 3,bv k1,Δ k2])] 4 none) [2,0] r3 o1) none) none) none)
 (Af D (θ 138) [Ω [bv b,Δ xs]] [] [.a,.B,.L,.N,.E] λb1 xs1=>
 br (Be (n4+1) 40) (br ((0+n4*3).ble c4.length) (AI D (γ 62 0) [ε 0 0,ε 1 0,Δ t17,iv t18,iv (A.add Φ t19 1)] [bk [Δ r0,bv r1,Δ r2],bk [ζ 2 0 (n4+1) 3,bv k1,Δ k2],Ξ (ι 0 (κ (0+n4*3) c4)++[iv n,bv b1,Δ xs1]) true true] λr3 o1=>
 AE 3 [0,1,5] (AH.mk [(0,bk [Δ r0,bv r1,Δ r2]),(1,bk [ζ 5 0 (n4+1) 3,bv k1,Δ k2]),(5,Ξ (ι 0 (κ (0+n4*3) c4)++[iv n,bv b1,Δ xs1]) true true),(4,Ξ [iv n,bv b1,Δ xs1] true true),(3,bk [iv n,bv b,Δ xs])] 6 none) [2,1,0] r3 o1) none) none)) none)
 (Af D (θ 138) [Ω [bv b,Δ xs]] [] [.a,.B,.L,.N,.E] λb1 xs1=>
 br (Be (n4+1) 40) (br ((0+n4*3).ble c4.length) (AI D (γ 62 0) [ε 0 0,ε 1 0,Δ t17,iv t18,iv (A.add Φ t19 1)] [bk [Δ r0,bv r1,Δ r2],bk [ζ 2 0 (n4+1) 3,bv k1,Δ k2],Ξ (ι 0 (κ (0+n4*3) c4)++[iv n,bv b1,Δ xs1]) true true] λr3 o1=>
 AE 3 [0,1,5] (AH.mk [(0,bk [Δ r0,bv r1,Δ r2]),(1,bk [ζ 5 0 (n4+1) 3,bv k1,Δ k2]),(5,Ξ (ι 0 (κ (0+n4*3) c4)++[iv n,bv b1,Δ xs1]) true true),(4,Ξ [iv n,bv b1,Δ xs1] true true),(3,bk [iv n,bv b,Δ xs])] 6 none) [2,1,0] r3 o1) none) none)))
 (some ((ν [iv 0,ε 0 0,ε 1 0],[ο (bk [Δ r0,bv r1,Δ r2]),ο (bk [ζ 3 0 n4 3,bv k1,Δ k2]),BO.del,ο (Ξ c4 true true)]))):=by kernel_rfl
end
section
open Go.RowKit
def Akz:AB:=[⟨25,[true,true],[],[],[(1,([true],([],[])))]⟩]
def Ue:MFn:=AS Akz 205
def N0:Hnt:=⟨[(144,(.tup [.ls,.ls,.int .i64],[])),(202,(.ls,[]))],[(0,[(1,([.ls],[]))])],[]⟩
def AgE:MFn:=AS [] 146
def AfU:Hnt:=⟨[(139,(.agg [.bool,.ls],[])),(161,(.agg [.bool,.ls],[]))],[],[(5,[.bool,.ls]),(6,[.bool,.ls])]⟩
def Alt:MFn:=AS [] 66
def Aj8:Hnt:=⟨[(126,(.agg [.bool,.ls],[])),(139,(.agg [.bool,.ls],[])),(142,(.agg [.bool,.ls],[])),(144,(.tup [.ls,.ls,.int .i64],[])),(145,(.agg [.bool,.ls],[])),(146,(.agg [.bool,.ls],[]))],[],[(9,[.bool,.ls]),(11,[.bool,.ls]),(15,[.ls]),(17,[.ls]),(28,[.bool]),(30,[.bool]),(35,[.bool]),(39,[.bool]),(41,[.bool]),(48,[.bool,.ls]),(51,[.bool,.ls]),(52,[.bool,.ls]),(54,[.bool,.ls]),(55,[.bool,.ls])]⟩
def AgC:MFn:=AS [] 143
def AfS:Hnt:=⟨[(64,(.int .i64,[])),(66,(.tup [.agg [.bool,.ls],.agg [.bool,.ls],.int .i64],[]))],[],[(10,[.bool,.ls]),(11,[.bool,.ls]),(22,[.bool,.ls]),(26,[.bool,.ls])]⟩
def AgF:MFn:=AS [] 147
def AfV:Hnt:=⟨[(145,(.agg [.bool,.ls],[])),(205,(.ls,[]))],[],[(6,[.ls]),(8,[.ls])]⟩
def KK:List (Nat × MFn):=[(205,Ue),(146,AgE),(66,Alt),(143,AgC),(147,AgF)]
variable (A:Ar) (D:Orc)
theorem Am6(x0 x1:Rw):BP A D As N0 .n 205 Ue [Δ x0,Δ x1] [] =
 Af D (θ 202) [Δ x0] [] [.l,.E] λxs=>
 Af D (θ 202) [Δ x1] [] [.l,.E] λxs1=>
 Af D (γ 205 0) [Δ xs,Δ xs1] [] [.t,.C,.x,.X,.Y] λc l o2=>
 br (Bo 1 c)
 (dk [.L,.N,.E] [.l l,.o o2] λxs2=>
 some ((Δ xs2,[])))
 (none):=by kernel_rfl
theorem Sp(t0 t1:Rw):CO A D As N0 .n 205 0 (AN Ue 0).fst (AN Ue 0).snd [Δ t0,Δ t1] [] =
 br (A.lt 0 ↑(AF t1))
 (Af D (θ 144) [Δ t0,Δ t1] [] [.t,.L,.L,.I,.N,.E] λ_ xs1 _=>
 AI D (γ 205 0) [Δ t1,Δ xs1] [] λr1 o1=>
 AE 0 [] (AH.mk [] 0 none) [] r1 o1)
 (some ((ν [iv 0,Δ t0],[]))):=by kernel_rfl
theorem AmE(x0_0:Bool)(x0_1:Rw)(x1_0:Bool)(x1_1:Rw):BP A D As AfU .n 146 AgE [Ω [bv x0_0,Δ x0_1],Ω [bv x1_0,Δ x1_1]] [] =
 Af D (θ 161) [Ω [bv x1_0,Δ x1_1]] [] [.a,.B,.L,.N,.E] λb xs=>
 Af D (θ 139) [Ω [bv x0_0,Δ x0_1],Ω [bv b,Δ xs]] [] [.a,.B,.L,.N,.E] λb1 xs1=>
 some ((Ω [bv b1,Δ xs1],[])):=by kernel_rfl
theorem e66(x0_0:Bool)(x0_1:Rw)(x1_0:Bool)(x1_1:Rw):BP A D As Aj8 (.b (.b .n (.b .n (.b (.t .n) (.f .n)))) .n) 66 Alt [Ω [bv x0_0,Δ x0_1],Ω [bv x1_0,Δ x1_1]] [] =
 Af D (θ 142) [Ω [bv x0_0,Δ x0_1]] [] [.a,.B,.L,.N,.E] λb xs=>
 Af D (θ 142) [Ω [bv x1_0,Δ x1_1]] [] [.a,.B,.L,.N,.E] λb1 xs1=>
 Af D (θ 144) [Δ xs,Δ xs1] [] [.t,.L,.L,.I,.N,.E] λxs2 xs3 n=>
 br (A.eq n 0)
 (br (A.not (A.beq b b1))
 (Af D (θ 145) [bv true,Δ xs2] [] [.a,.B,.L,.N,.E] λb2 xs4=>
 Af D (θ 145) [bv b,Δ xs3] [] [.a,.B,.L,.N,.E] λb3 xs5=>
 br (A.not (A.beq b b1)) (br (A.lt 0 ↑(AF xs3))
 (Af D (θ 126) [iv 1] [] [.a,.B,.L,.N,.E] λb4 xs6=>
 Af D (θ 146) [Ω [bv b2,Δ xs4],Ω [bv b4,Δ xs6]] [] [.a,.B,.L,.N,.E] λb5 xs7=>
 Af D (θ 139) [Ω [bv b3,Δ xs5],Ω [bv b1,Δ xs1]] [] [.a,.B,.L,.N,.E] λb6 xs8=>
 some ((ν [Ω [bv b5,Δ xs7],Ω [bv b6,Δ xs8],iv 0],[])))
 (some ((ν [Ω [bv b2,Δ xs4],Ω [bv b3,Δ xs5],iv 0],[])))) none)
 (Af D (θ 145) [bv false,Δ xs2] [] [.a,.B,.L,.N,.E] λb2 xs4=>
 Af D (θ 145) [bv b,Δ xs3] [] [.a,.B,.L,.N,.E] λb3 xs5=>
 br (A.not (A.beq b b1)) none (some ((ν [Ω [bv b2,Δ xs4],Ω [bv b3,Δ xs5],iv 0],[])))))
 (some ((ν [Ω [bv false,Δ []],Ω [bv false,Δ []],iv n],[]))):=by kernel_rfl
theorem AmC(x0_0:Bool)(x0_1:Rw)(x1_0:Bool)(x1_1:Rw):BP A D As AfS .n 143 AgC [Ω [bv x0_0,Δ x0_1],Ω [bv x1_0,Δ x1_1]] [] =
 Af D (θ 66) [Ω [bv x0_0,Δ x0_1],Ω [bv x1_0,Δ x1_1]] [] [.t,.A,.B,.L,.N,.A,.B,.L,.N,.I,.N,.E] λb xs b1 xs1 n=>
 br (A.eq n 0)
 (Af D (θ 64) [Ω [bv b1,Δ xs1]] [] [.i,.E] λn1=>
 br (A.eq n1 0)
 (some ((ν [Ω [bv b,Δ xs],iv 0],[])))
 (some ((ν [Ω [bv false,Δ []],iv 1],[]))))
 (some ((ν [Ω [bv false,Δ []],iv n],[]))):=by kernel_rfl
theorem AmF(x0_0:Bool)(x0_1:Rw)(x1_0:Bool)(x1_1:Rw):BP A D As AfV .n 147 AgF [Ω [bv x0_0,Δ x0_1],Ω [bv x1_0,Δ x1_1]] [] =
 Af D (θ 205) [Δ x0_1,Δ x1_1] [] [.l,.E] λxs=>
 Af D (θ 145) [bv false,Δ xs] [] [.a,.B,.L,.N,.E] λb xs1=>
 some ((Ω [bv b,Δ xs1],[])):=by kernel_rfl
end
end
end Go.Proofs.YtpncilciembjdaaGreatDoor
