/- Functions of the program -/
import Derived.Test.YtpncilciembjdaaGreatDoorDAM
set_option linter.all false
open Bool renaming false->Φ,true->Δ
open List renaming drop->Aqe,take->Ap2
open Option renaming none->Ξ,some->Θ
namespace Go.Proofs.YtpncilciembjdaaGreatDoor
noncomputable section
open ABlk renaming mk->θ
open AV renaming agg->ω,fn->Ap9,ls->Ψ,ptr->Aqk,sl->γ,tup->ε
open BO renaming set->ApX
open IntKind renaming i64->δ,u64->Ω
open Key renaming fn->ψ,lp->ApW
open Tryz renaming prog->υ
section
open Go.RowKit
def AiE:MFn:=AY [] 145
def Ah3:Hnt:=⟨[(202,(.ls,[]))],[],[]⟩
def AiC:MFn:=AY [] 142
def Ah1:Hnt:=⟨[(145,(.agg AR,[]))],[],[(4,[.bool]),(6,[.ls])]⟩
def Aiv:MFn:=AY [] 126
def AhU:Hnt:=⟨[(145,(.agg AR,[])),(184,(.ls,[]))],[],[]⟩
def AiM:MFn:=AY [] 161
def Aib:Hnt:=⟨[(145,(.agg AR,[]))],[],[(4,[.bool]),(7,[.ls])]⟩
def AmU:MFn:=AY [] 64
def Amj:Hnt:=⟨[(142,(.agg AR,[]))],[],[(3,AR),(7,[.bool]),(10,[.ls])]⟩
def AiI:MFn:=AY [] 155
def Ah7:Hnt:=⟨[(64,(.int .i64,[])),(201,(.int .i64,[]))],[],[(7,AR),(9,AR),(23,[.ls]),(25,[.ls]),(28,[.ls]),(30,[.ls])]⟩
def AiA:MFn:=AY [] 139
def AhZ:Hnt:=⟨[(145,(.agg AR,[])),(197,(.ls,[])),(198,(.tup [.ls,.bool],[]))],[],[(10,[.bool]),(12,[.bool]),(15,[.bool]),(17,[.ls]),(19,[.ls]),(24,[.ls]),(26,[.ls]),(32,[.bool]),(37,[.ls]),(39,[.ls]),(44,[.bool])]⟩
def AiK:MFn:=AY [] 158
def Ah9:Hnt:=⟨[(145,(.agg AR,[])),(212,(.ls,[]))],[],[(6,[.bool]),(8,[.bool]),(11,[.ls]),(13,[.ls])]⟩
def IY:List (Nat × MFn):=[(145,AiE),(142,AiC),(126,Aiv),(161,AiM),(64,AmU),(155,AiI),(139,AiA),(158,AiK)]
variable (A:Ar) (D:Orc)
theorem An5(x0:Bool)(x1:Rw):Cm A D Av Ah3 (.b (.t (.t (.b (.t .n) (.t .n)))) (.f (.f (.f .n)))) 145 AiE [bv x0,Ψ x1] [] =
 Af D (ψ 202) [Ψ x1] [] [.l,.E] λxs=>
 br x0
 (br x0 (br x0 (br (A.lt 0 ↑(AS xs))
 (br x0 (Θ ((ω [bv Δ,Ψ xs],[]))) Ξ)
 (br x0 (Θ ((ω [bv Φ,Ψ xs],[]))) Ξ)) Ξ) Ξ)
 (br x0 Ξ (br x0 Ξ (br x0 Ξ (Θ ((ω [bv Φ,Ψ xs],[])))))):=by kernel_rfl
theorem An3(x0_0:Bool)(x0_1:Rw):Cm A D Av Ah1 .n 142 AiC [ω [bv x0_0,Ψ x0_1]] [] =
 Af D (ψ 145) [bv x0_0,Ψ x0_1] [] [.a,.B,.L,.N,.E] λb xs=>
 Θ ((ω [bv b,Ψ xs],[])):=by kernel_rfl
theorem AnW(x0:Int):Cm A D Av AhU .n 126 Aiv [iv x0] [] =
 br (A.lt x0 0)
 (Af D (ψ 184) [AV.v (Value.int Ω (A.add Ω (A.conv Ω (A.sub δ 0 (A.add δ x0 1))) 1))] [] [.l,.E] λxs=>
 Af D (ψ 145) [bv Δ,Ψ xs] [] [.a,.B,.L,.N,.E] λb xs1=>
 Θ ((ω [bv b,Ψ xs1],[])))
 (Af D (ψ 184) [AV.v (Value.int Ω (A.conv Ω x0))] [] [.l,.E] λxs=>
 Af D (ψ 145) [bv Φ,Ψ xs] [] [.a,.B,.L,.N,.E] λb xs1=>
 Θ ((ω [bv b,Ψ xs1],[]))):=by kernel_rfl
theorem Aof(x0_0:Bool)(x0_1:Rw):Cm A D Av Aib .n 161 AiM [ω [bv x0_0,Ψ x0_1]] [] =
 br (A.not x0_0)
 (Af D (ψ 145) [bv Δ,Ψ x0_1] [] [.a,.B,.L,.N,.E] λb xs=>
 Θ ((ω [bv b,Ψ xs],[])))
 (Af D (ψ 145) [bv Φ,Ψ x0_1] [] [.a,.B,.L,.N,.E] λb xs=>
 Θ ((ω [bv b,Ψ xs],[]))):=by kernel_rfl
theorem e64(x0_0:Bool)(x0_1:Rw):Cm A D Av Amj .n 64 AmU [ω [bv x0_0,Ψ x0_1]] [] =
 Af D (ψ 142) [ω [bv x0_0,Ψ x0_1]] [] [.a,.B,.L,.N,.E] λb xs=>
 br b
 (Θ ((iv (-1),[])))
 (br (A.lt 0 ↑(AS xs))
 (Θ ((iv 1,[])))
 (Θ ((iv 0,[])))):=by kernel_rfl
theorem Aoa(x0_0:Bool)(x0_1:Rw)(x1_0:Bool)(x1_1:Rw):Cm A D Av Ah7 .n 155 AiI [ω [bv x0_0,Ψ x0_1],ω [bv x1_0,Ψ x1_1]] [] =
 Af D (ψ 64) [ω [bv x0_0,Ψ x0_1]] [] [.i,.E] λn=>
 Af D (ψ 64) [ω [bv x1_0,Ψ x1_1]] [] [.i,.E] λn1=>
 br (A.lt n n1)
 (Θ ((iv (-1),[])))
 (br (A.lt n1 n)
 (Θ ((iv 1,[])))
 (br (A.lt n 0)
 (Af D (ψ 201) [Ψ x1_1,Ψ x0_1] [] [.i,.E] λn2=>
 Θ ((iv n2,[])))
 (Af D (ψ 201) [Ψ x0_1,Ψ x1_1] [] [.i,.E] λn2=>
 Θ ((iv n2,[]))))):=by kernel_rfl
theorem An1(x0_0:Bool)(x0_1:Rw)(x1_0:Bool)(x1_1:Rw):Cm A D Av AhZ .n 139 AiA [ω [bv x0_0,Ψ x0_1],ω [bv x1_0,Ψ x1_1]] [] =
 br (A.beq x0_0 x1_0)
 (Af D (ψ 197) [Ψ x0_1,Ψ x1_1] [] [.l,.E] λxs=>
 Af D (ψ 145) [bv x0_0,Ψ xs] [] [.a,.B,.L,.N,.E] λb xs1=>
 Θ ((ω [bv b,Ψ xs1],[])))
 (Af D (ψ 198) [Ψ x0_1,Ψ x1_1] [] [.t,.L,.B,.N,.E] λxs b=>
 br b
 (Af D (ψ 145) [bv x0_0,Ψ xs] [] [.a,.B,.L,.N,.E] λb1 xs1=>
 Θ ((ω [bv b1,Ψ xs1],[])))
 (Af D (ψ 198) [Ψ x1_1,Ψ x0_1] [] [.t,.L,.B,.N,.E] λxs1 _=>
 Af D (ψ 145) [bv x1_0,Ψ xs1] [] [.a,.B,.L,.N,.E] λb2 xs2=>
 Θ ((ω [bv b2,Ψ xs2],[])))):=by kernel_rfl
theorem Aod(x0_0:Bool)(x0_1:Rw)(x1_0:Bool)(x1_1:Rw):Cm A D Av Ah9 .n 158 AiK [ω [bv x0_0,Ψ x0_1],ω [bv x1_0,Ψ x1_1]] [] =
 br (A.not (A.beq x0_0 x1_0))
 (Af D (ψ 212) [Ψ x0_1,Ψ x1_1] [] [.l,.E] λxs=>
 Af D (ψ 145) [bv Δ,Ψ xs] [] [.a,.B,.L,.N,.E] λb xs1=>
 Θ ((ω [bv b,Ψ xs1],[])))
 (Af D (ψ 212) [Ψ x0_1,Ψ x1_1] [] [.l,.E] λxs=>
 Af D (ψ 145) [bv Φ,Ψ xs] [] [.a,.B,.L,.N,.E] λb xs1=>
 Θ ((ω [bv b,Ψ xs1],[]))):=by kernel_rfl
end
section
open Go.RowKit
def AiJ:MFn:=AY [] 157
def Ah8:Hnt:=⟨[],[],[]⟩
def AmY:MFn:=AY [] 84
def Amn:Hnt:=⟨[(157,(.bool,[]))],[],[]⟩
def Aiy:MFn:=AY [] 137
def AhX:Hnt:=⟨[(84,(.int .i64,[]))],[],[(6,[.int .i64]),(8,[.int .i64])]⟩
def AiB:MFn:=AY [] 141
def Ah0:Hnt:=⟨[(64,(.int .i64,[]))],[],[(4,AR)]⟩
def Aix:MFn:=MU υ Bn [] Φ Δ 136
def AhW:Hnt:=⟨[(137,(.int .i64,[])),(196,(.tup [],[.row Δ]))],[],[]⟩
def Md:MFn:=MU υ Bn [⟨63,(mB 455),[],[],[(1,((mB 199),([],[1000000])))]⟩,⟨63,(mB 71),[],[],[(3,([Δ],([],[1000000])))]⟩,⟨63,(mB 455),[],[],[(5,((mB 199),([],[1000000])))]⟩] Φ Δ 196
def GU:Hnt:=⟨[(137,(.int .i64,[])),(234,(.tup [],[.row Δ])),(235,(.tup [],[.row Δ]))],[(0,[(1,([.sl 0 3,.int .i64,.fnc 137,.int .i64,.int .i64],[.row Δ]))]),(1,[(3,([.sl 0 3],[.row Δ]))]),(2,[(5,([.sl 0 3,.int .i64,.fnc 137,.int .i64,.int .i64],[.row Δ]))])],[]⟩
def Qg:MFn:=MU υ Bn [⟨53,(mB 271),[],[],[(1,([Δ],([],[1000000])))]⟩,⟨53,(mB 783),[],[],[(3,((mB 271),([],[1000000])))]⟩] Φ Δ 234
def Ho:Hnt:=⟨[(137,(.int .i64,[]))],[(0,[(1,([.sl 0 3],[.row Δ]))]),(1,[(3,([.sl 0 3,.int .i64,.int .i64,.fnc 137,.int .i64],[.row Δ]))])],[(25,Bj),(26,Bj),(30,Bj),(31,Bj),(45,Bj),(46,Bj),(49,Bj),(50,Bj),(51,Bj),(52,Bj)]⟩
def GW:MFn:=MU υ Bn [⟨220,(mB 3091),[],[],[(1,((mB 1027),([],[1000000])))]⟩,⟨220,(mB 9217),[],[],[(3,([Δ],([],[1000000])))]⟩,⟨220,(mB 49173),[],[],[(5,((mB 16389),([],[1000000])))]⟩,⟨220,(mB 147457),[],[],[(7,([Δ],([],[1000000])))]⟩,⟨220,(mB 8126495),[],[],[(9,((mB 1835039),([],[1000000])))]⟩] Φ Δ 235
def CC:Hnt:=⟨[(137,(.int .i64,[])),(235,(.tup [],[.row Δ])),(265,(.tup [],[.row Δ]))],[(0,[(1,([.sl 0 3,.int .i64,.int .i64],[.row Δ]))]),(1,[(3,([.sl 0 3],[.row Δ]))]),(2,[(5,([.sl 0 3,.int .i64,.int .i64],[.row Δ]))]),(3,[(7,([.sl 0 3],[.row Δ]))]),(4,[(9,([.sl 0 3,.int .i64,.int .i64,.int .i64,.fnc 137,.int .i64,.int .i64,.int .i64],[.row Δ]))])],[(43,Bj),(44,Bj),(47,Bj),(48,Bj),(69,Bj),(70,Bj),(73,Bj),(74,Bj),(75,Bj),(76,Bj),(95,Bj),(96,Bj),(99,Bj),(100,Bj),(121,Bj),(122,Bj),(125,Bj),(126,Bj),(127,Bj),(128,Bj),(163,Bj),(164,Bj),(167,Bj),(168,Bj)]⟩
def Xq:MFn:=MU υ Bn [⟨58,(mB 3093),[],[],[(1,((mB 1045),([],[1000000])))]⟩] Φ Δ 265
def P6:Hnt:=⟨[(137,(.int .i64,[])),(275,(.tup [],[.row Δ]))],[(0,[(1,([.sl 0 3,.int .i64,.fnc 137,.int .i64],[.row Δ]))])],[]⟩
def Xr:MFn:=MU υ Bn [⟨38,(mB 1039),[],[],[(1,([Δ],([],[1000000])))]⟩] Φ Δ 275
def Ty:Hnt:=⟨[(137,(.int .i64,[]))],[(0,[(1,([.sl 0 3],[.row Δ]))])],[(28,Bj),(29,Bj),(34,Bj),(35,Bj),(36,Bj),(37,Bj)]⟩
def Xh:MFn:=MU υ Bn [⟨42,(mB 99),[],[],[(1,((mB 33),([],[1000000])))]⟩] Δ Δ 140
def NS:Hnt:=⟨[(141,(.bool,[])),(199,(.int .i64,[.row Δ]))],[(0,[(1,([.sl 0 3,.int .i64],[.row Δ]))])],[(24,Bj),(25,Bj),(27,Bj),(32,Bj),(33,Bj)]⟩
def Xm:MFn:=MU υ Bn [⟨19,(mB 387),[],[],[(0,((mB 17),([],[1000000]))),(1,([Δ],([],[1000000])))]⟩] Φ Δ 199
def NT:Hnt:=⟨[(141,(.bool,[]))],[(0,[(0,([.sl 0 3,.int .i64],[.row Δ])),(1,([.sl 0 3],[.row Δ]))])],[(14,Bj),(15,Bj)]⟩
def DY:List (Nat × MFn):=[(157,AiJ),(84,AmY),(137,Aiy),(141,AiB),(136,Aix),(196,Md),(234,Qg),(235,GW),(265,Xq),(275,Xr),(140,Xh),(199,Xm)]
variable (A:Ar) (D:Orc)
theorem Aoc(x0:Int):Cm A D Av Ah8 .n 157 AiJ [iv x0] [] =
 br (A.eq x0 x0)
 (Θ ((bv Φ,[])))
 (Θ ((bv Δ,[]))):=by kernel_rfl
theorem e84(x0 x1:Int):Cm A D Av Amn .n 84 AmY [iv x0,iv x1] [] =
 Af D (ψ 157) [iv x0] [] [.b,.E] λb=>
 br b
 (Af D (ψ 157) [iv x1] [] [.b,.E] λb1=>
 br b1
 (Θ ((iv 0,[])))
 (Θ ((iv (-1),[]))))
 (Af D (ψ 157) [iv x1] [] [.b,.E] λb1=>
 br b1
 (Θ ((iv 1,[])))
 (br (A.lt x0 x1)
 (Θ ((iv (-1),[])))
 (br (A.lt x1 x0)
 (Θ ((iv 1,[])))
 (Θ ((iv 0,[])))))):=by kernel_rfl
theorem AnZ(x0_0:Int)(x0_1:Bool)(x0_2:Rw)(x1_0:Int)(x1_1:Bool)(x1_2:Rw):Cm A D Av AhX .n 137 Aiy [ω [iv x0_0,bv x0_1,Ψ x0_2],ω [iv x1_0,bv x1_1,Ψ x1_2]] [] =
 Af D (ψ 84) [iv x0_0,iv x1_0] [] [.i,.E] λn=>
 Θ ((iv n,[])):=by kernel_rfl
theorem An2(x0_0:Int)(x0_1:Bool)(x0_2:Rw):Cm A D Av Ah0 .n 141 AiB [ω [iv x0_0,bv x0_1,Ψ x0_2]] [] =
 Af D (ψ 64) [ω [bv x0_1,Ψ x0_2]] [] [.i,.E] λn=>
 br (A.eq n 0)
 (Θ ((bv Δ,[])))
 (Θ ((bv Φ,[]))):=by kernel_rfl
theorem AnY(n0:Nat)(c0:List AV):Cm A D Av AhW .n 136 Aix [γ 0 0 n0 3,Ap9 (Fn.func 137) [] []] [{ cells:=c0,st:=Δ,ex:=Δ }] =
 Af D (ψ 196) [γ 0 0 n0 3,iv ↑n0,Ap9 (Fn.func 137) [] []] [θ c0 Δ Δ] [.t,.N,.R,.X,.E] λcs1=>
 Θ ((ε [],[ApX (θ cs1 Δ Δ)])):=by kernel_rfl
theorem Aoj(n0:Nat)(c0:List AV)(x1:Int):Cm A D Av GU .n 196 Md [γ 0 0 n0 3,iv x1,Ap9 (Fn.func 137) [] []] [{ cells:=c0,st:=Δ,ex:=Δ }] =
 Af D (ApW 196 0) [γ 0 0 n0 3,iv x1,Ap9 (Fn.func 137) [] [],iv 20,iv 0,iv 20] [θ c0 Δ Δ] [.t,.C,.x,.X,.Y] λc l o=>
 br (Bp 1 c)
 (dk [.C,.q 0 3,.I,.C,.f 137,.I,.I,.N,.R,.X,.E] [.l l,.o o] λn n1 n2 n3 cs1=>
 Af D (ψ 234) [γ 0 0 n 3,iv n3,iv n1,Ap9 (Fn.func 137) [] []] [θ cs1 Δ Δ] [.t,.N,.R,.X,.E] λcs3=>
 Af D (ApW 196 1) [γ 0 0 n 3,iv n1,Ap9 (Fn.func 137) [] [],iv n2] [θ cs3 Δ Δ] [.t,.C,.x,.X,.Y] λc5 l8 o2=>
 br (Bp 3 c5)
 (dk [.C,.q 0 3,.N,.R,.X,.E] [.l l8,.o o2] λ_ cs5=>
 Θ ((ε [],[ApX (θ cs5 Δ Δ)])))
 (Ξ))
 (Ξ):=by kernel_rfl
theorem AaE(n0:Nat)(c0:List AV)(t1 t6 t7 t8:Int):D2 A D Av GU .n 196 0 (AW Md 0).fst (AW Md 0).snd [γ 0 0 n0 3,iv t1,Ap9 (Fn.func 137) [] [],iv t6,iv t7,iv t8] [{ cells:=c0,st:=Δ,ex:=Δ }] =
 br (A.le t8 t1)
 (Af D (ψ 234) [γ 0 0 n0 3,iv t7,iv t8,Ap9 (Fn.func 137) [] []] [θ c0 Δ Δ] [.t,.N,.R,.X,.E] λcs1=>
 AK D (ApW 196 0) [γ 0 0 n0 3,iv t1,Ap9 (Fn.func 137) [] [],iv t6,iv t8,iv (A.add δ t8 t6)] [θ cs1 Δ Δ] λr1 o1=>
 AF 1 [0] (AH.mk [(0,θ cs1 Δ Δ)] 1 Ξ) [0] r1 o1)
 (Θ ((ε [iv 0,γ 0 0 n0 3,iv t1,Ap9 (Fn.func 137) [] [],iv t6,iv t7],[ApX (θ c0 Δ Δ)]))):=by kernel_rfl
theorem Vg(n0:Nat)(c0:List AV)(t1 t6:Int):D2 A D Av GU .n 196 1 (AW Md 1).fst (AW Md 1).snd [γ 0 0 n0 3,iv t1,Ap9 (Fn.func 137) [] [],iv t6] [{ cells:=c0,st:=Δ,ex:=Δ }] =
 br (A.lt t6 t1)
 (Af D (ApW 196 2) [γ 0 0 n0 3,iv t1,Ap9 (Fn.func 137) [] [],iv t6,iv 0,iv (A.mul δ 2 t6)] [θ c0 Δ Δ] [.t,.C,.x,.X,.Y] λc l o=>
 br (Bp 5 c)
 (dk [.C,.q 0 3,.I,.C,.f 137,.I,.I,.N,.R,.X,.E] [.l l,.o o] λn n1 n2 n3 cs1=>
 br (A.lt (A.add δ n3 n2) n1)
 (Af D (ψ 235) [γ 0 0 n 3,iv n3,iv (A.add δ n3 n2),iv n1,Ap9 (Fn.func 137) [] []] [θ cs1 Δ Δ] [.t,.N,.R,.X,.E] λcs3=>
 AK D (ApW 196 1) [γ 0 0 n 3,iv n1,Ap9 (Fn.func 137) [] [],iv (A.mul δ n2 2)] [θ cs3 Δ Δ] λr2 o2=>
 AF 1 [0] (AH.mk [(0,θ cs3 Δ Δ)] 1 Ξ) [0] r2 o2)
 (AK D (ApW 196 1) [γ 0 0 n 3,iv n1,Ap9 (Fn.func 137) [] [],iv (A.mul δ n2 2)] [θ cs1 Δ Δ] λr1 o1=>
 AF 1 [0] (AH.mk [(0,θ cs1 Δ Δ)] 1 Ξ) [0] r1 o1))
 (Ξ))
 (Θ ((ε [iv 2,γ 0 0 n0 3],[ApX (θ c0 Δ Δ)]))):=by kernel_rfl
theorem AaF(n0:Nat)(c0:List AV)(t1 t6 t7 t8:Int):D2 A D Av GU .n 196 2 (AW Md 2).fst (AW Md 2).snd [γ 0 0 n0 3,iv t1,Ap9 (Fn.func 137) [] [],iv t6,iv t7,iv t8] [{ cells:=c0,st:=Δ,ex:=Δ }] =
 br (A.le t8 t1)
 (Af D (ψ 235) [γ 0 0 n0 3,iv t7,iv (A.add δ t7 t6),iv t8,Ap9 (Fn.func 137) [] []] [θ c0 Δ Δ] [.t,.N,.R,.X,.E] λcs1=>
 AK D (ApW 196 2) [γ 0 0 n0 3,iv t1,Ap9 (Fn.func 137) [] [],iv t6,iv t8,iv (A.add δ t8 (A.mul δ 2 t6))] [θ cs1 Δ Δ] λr1 o1=>
 AF 1 [0] (AH.mk [(0,θ cs1 Δ Δ)] 1 Ξ) [0] r1 o1)
 (Θ ((ε [iv 4,γ 0 0 n0 3,iv t1,Ap9 (Fn.func 137) [] [],iv t6,iv t7],[ApX (θ c0 Δ Δ)]))):=by kernel_rfl
theorem AlS(n0:Nat)(c0:List AV)(x1 x2:Int):Cm A D Av Ho .n 234 Qg [γ 0 0 n0 3,iv x1,iv x2,Ap9 (Fn.func 137) [] []] [{ cells:=c0,st:=Δ,ex:=Δ }] =
 Af D (ApW 234 0) [γ 0 0 n0 3,iv x1,iv x2,Ap9 (Fn.func 137) [] [],iv (A.add δ x1 1)] [θ c0 Δ Δ] [.t,.C,.x,.X,.Y] λc l o=>
 br (Bp 1 c)
 (dk [.C,.q 0 3,.N,.R,.X,.E] [.l l,.o o] λ_ cs1=>
 Θ ((ε [],[ApX (θ cs1 Δ Δ)])))
 (Ξ):=by kernel_rfl
theorem Vi(n0:Nat)(c0:List AV)(t1 t2 t8:Int):D2 A D Av Ho .n 234 0 (AW Qg 0).fst (AW Qg 0).snd [γ 0 0 n0 3,iv t1,iv t2,Ap9 (Fn.func 137) [] [],iv t8] [{ cells:=c0,st:=Δ,ex:=Δ }] =
 br (A.lt t8 t2)
 (Af D (ApW 234 1) [γ 0 0 n0 3,iv t1,iv t2,Ap9 (Fn.func 137) [] [],iv t8,iv t8] [θ c0 Δ Δ] [.t,.C,.x,.X,.Y] λc l o=>
 br (Bp 3 c)
 (dk [.C,.q 0 3,.I,.I,.C,.f 137,.I,.N,.R,.X,.E] [.l l,.o o] λn n1 n2 n3 cs1=>
 AK D (ApW 234 0) [γ 0 0 n 3,iv n1,iv n2,Ap9 (Fn.func 137) [] [],iv (A.add δ n3 1)] [θ cs1 Δ Δ] λr1 o1=>
 AF 1 [0] (AH.mk [(0,θ cs1 Δ Δ)] 1 Ξ) [0] r1 o1)
 (Ξ))
 (Θ ((ε [iv 0,γ 0 0 n0 3],[ApX (θ c0 Δ Δ)]))):=by kernel_rfl
theorem Vj(n0:Nat)(c0:List AV)(t1 t2 t8 t9:Int):D2 A D Av Ho .n 234 1 (AW Qg 1).fst (AW Qg 1).snd [γ 0 0 n0 3,iv t1,iv t2,Ap9 (Fn.func 137) [] [],iv t8,iv t9] [{ cells:=c0,st:=Δ,ex:=Δ }] =
 br (A.lt t1 t9)
 (unI t9 λi=>
 br (i.blt n0) (EZ c0 (0+i*3) 3 λcs=>
 dk [.I,.B,.L,.N] [.l cs] λn b xs=>
 unI (A.sub δ t9 1) λi1=>
 br (i1.blt n0) (EZ c0 (0+i1*3) 3 λcs1=>
 dk [.I,.B,.L,.N] [.l cs1] λn1 b1 xs1=>
 Af D (ψ 137) [ω [iv n,bv b,Ψ xs],ω [iv n1,bv b1,Ψ xs1]] [] [.i,.E] λn2=>
 br (A.lt n2 0)
 (unI (A.sub δ t9 1) λi2=>
 br (i2.blt n0) (EZ c0 (0+i2*3) 3 λcs2=>
 dk [.I,.B,.L,.N] [.l cs2] λn3 b2 xs2=>
 unI t9 λi3=>
 br (i3.blt n0) (EZ c0 (0+i3*3) 3 λcs3=>
 dk [.I,.B,.L,.N] [.l cs3] λn4 b3 xs3=>
 unI t9 λi4=>
 br (i4.blt n0) (br ((0+i4*3+3).ble c0.length) (unI (A.sub δ t9 1) λi5=>
 br (i5.blt n0) (br ((0+i5*3+3).ble (Ay c0 (0+i4*3) [iv n3,bv b2,Ψ xs2]).length) (AK D (ApW 234 1) [γ 0 0 n0 3,iv t1,iv t2,Ap9 (Fn.func 137) [] [],iv t8,iv (A.sub δ t9 1)] [θ (Ay (Ay c0 (0+i4*3) [iv n3,bv b2,Ψ xs2]) (0+i5*3) [iv n4,bv b3,Ψ xs3]) Δ Δ] λr1 o1=>
 AF 1 [0] (AH.mk [(0,θ (Ay (Ay c0 (0+i4*3) [iv n3,bv b2,Ψ xs2]) (0+i5*3) [iv n4,bv b3,Ψ xs3]) Δ Δ)] 1 Ξ) [0] r1 o1) Ξ) Ξ) Ξ) Ξ) Ξ) Ξ)
 (Θ ((ε [iv 2,γ 0 0 n0 3,iv t1,iv t2,Ap9 (Fn.func 137) [] [],iv t8],[ApX (θ c0 Δ Δ)])))) Ξ) Ξ)
 (Θ ((ε [iv 2,γ 0 0 n0 3,iv t1,iv t2,Ap9 (Fn.func 137) [] [],iv t8],[ApX (θ c0 Δ Δ)]))):=by kernel_rfl
theorem S6(n0:Nat)(c0:List AV)(x1 x2 x3:Int):Cm A D Av CC .n 235 GW [γ 0 0 n0 3,iv x1,iv x2,iv x3,Ap9 (Fn.func 137) [] []] [{ cells:=c0,st:=Δ,ex:=Δ }] =
 br (A.eq (A.sub δ x2 x1) 1)
 (Af D (ApW 235 0) [γ 0 0 n0 3,iv x1,Ap9 (Fn.func 137) [] [],iv x2,iv x3] [θ c0 Δ Δ] [.t,.C,.x,.X,.Y] λc l o=>
 br (Bp 1 c)
 (dk [.C,.q 0 3,.I,.I,.N,.R,.X,.E] [.l l,.o o] λn n1 n2 cs1=>
 Af D (ApW 235 1) [γ 0 0 n 3,iv n2,iv n1] [θ cs1 Δ Δ] [.t,.C,.x,.X,.Y] λc3 l5 o1=>
 br (Bp 3 c3)
 (dk [.C,.q 0 3,.N,.R,.X,.E] [.l l5,.o o1] λ_ cs3=>
 Θ ((ε [],[ApX (θ cs3 Δ Δ)])))
 (Ξ))
 (Ξ))
 (br (A.eq (A.sub δ x3 x2) 1)
 (Af D (ApW 235 2) [γ 0 0 n0 3,iv x2,Ap9 (Fn.func 137) [] [],iv x1,iv x2] [θ c0 Δ Δ] [.t,.C,.x,.X,.Y] λc l o=>
 br (Bp 5 c)
 (dk [.C,.q 0 3,.I,.I,.N,.R,.X,.E] [.l l,.o o] λn n1 n2 cs1=>
 Af D (ApW 235 3) [γ 0 0 n 3,iv n2,iv n1] [θ cs1 Δ Δ] [.t,.C,.x,.X,.Y] λc3 l5 o1=>
 br (Bp 7 c3)
 (dk [.C,.q 0 3,.N,.R,.X,.E] [.l l5,.o o1] λ_ cs3=>
 Θ ((ε [],[ApX (θ cs3 Δ Δ)])))
 (Ξ))
 (Ξ))
 (br (A.lt 1 0)
 (Ξ)
 (br (A.lt (A.conv δ (A.shr Ω (A.conv Ω (A.add δ x1 x3)) 1)) x2)
 (Af D (ApW 235 4) [γ 0 0 n0 3,iv x1,iv x2,iv x3,Ap9 (Fn.func 137) [] [],iv (A.conv δ (A.shr Ω (A.conv Ω (A.add δ x1 x3)) 1)),iv (A.add δ (A.conv δ (A.shr Ω (A.conv Ω (A.add δ x1 x3)) 1)) x2),iv (A.sub δ (A.add δ (A.conv δ (A.shr Ω (A.conv Ω (A.add δ x1 x3)) 1)) x2) x3),iv (A.conv δ (A.shr Ω (A.conv Ω (A.add δ x1 x3)) 1)),iv (A.sub δ (A.add δ (A.conv δ (A.shr Ω (A.conv Ω (A.add δ x1 x3)) 1)) x2) 1)] [θ c0 Δ Δ] [.t,.C,.x,.X,.Y] λc l o=>
 br (Bp 9 c)
 (dk [.C,.q 0 3,.I,.I,.I,.C,.f 137,.I,.I,.I,.N,.R,.X,.E] [.l l,.o o] λn n1 n2 n3 n4 n5 n6 cs1=>
 br (A.lt n6 n2)
 (br (A.lt n2 (A.sub δ n5 n6))
 (Af D (ψ 265) [γ 0 0 n 3,iv n6,iv n2,iv (A.sub δ n5 n6),Ap9 (Fn.func 137) [] []] [θ cs1 Δ Δ] [.t,.N,.R,.X,.E] λcs3=>
 br (A.lt n1 n6)
 (br (A.lt n6 n4)
 (Af D (ψ 235) [γ 0 0 n 3,iv n1,iv n6,iv n4,Ap9 (Fn.func 137) [] []] [θ cs3 Δ Δ] [.t,.N,.R,.X,.E] λcs5=>
 br (A.lt n4 (A.sub δ n5 n6))
 (br (A.lt (A.sub δ n5 n6) n3)
 (Af D (ψ 235) [γ 0 0 n 3,iv n4,iv (A.sub δ n5 n6),iv n3,Ap9 (Fn.func 137) [] []] [θ cs5 Δ Δ] [.t,.N,.R,.X,.E] λcs7=>
 Θ ((ε [],[ApX (θ cs7 Δ Δ)])))
 (Θ ((ε [],[ApX (θ cs5 Δ Δ)]))))
 (Θ ((ε [],[ApX (θ cs5 Δ Δ)]))))
 (br (A.lt n4 (A.sub δ n5 n6))
 (br (A.lt (A.sub δ n5 n6) n3)
 (Af D (ψ 235) [γ 0 0 n 3,iv n4,iv (A.sub δ n5 n6),iv n3,Ap9 (Fn.func 137) [] []] [θ cs3 Δ Δ] [.t,.N,.R,.X,.E] λcs5=>
 Θ ((ε [],[ApX (θ cs5 Δ Δ)])))
 (Θ ((ε [],[ApX (θ cs3 Δ Δ)]))))
 (Θ ((ε [],[ApX (θ cs3 Δ Δ)])))))
 (br (A.lt n4 (A.sub δ n5 n6))
 (br (A.lt (A.sub δ n5 n6) n3)
 (Af D (ψ 235) [γ 0 0 n 3,iv n4,iv (A.sub δ n5 n6),iv n3,Ap9 (Fn.func 137) [] []] [θ cs3 Δ Δ] [.t,.N,.R,.X,.E] λcs5=>
 Θ ((ε [],[ApX (θ cs5 Δ Δ)])))
 (Θ ((ε [],[ApX (θ cs3 Δ Δ)]))))
 (Θ ((ε [],[ApX (θ cs3 Δ Δ)])))))
 (br (A.lt n1 n6)
 (br (A.lt n6 n4)
 (Af D (ψ 235) [γ 0 0 n 3,iv n1,iv n6,iv n4,Ap9 (Fn.func 137) [] []] [θ cs1 Δ Δ] [.t,.N,.R,.X,.E] λcs3=>
 br (A.lt n4 (A.sub δ n5 n6))
 (br (A.lt (A.sub δ n5 n6) n3)
 (Af D (ψ 235) [γ 0 0 n 3,iv n4,iv (A.sub δ n5 n6),iv n3,Ap9 (Fn.func 137) [] []] [θ cs3 Δ Δ] [.t,.N,.R,.X,.E] λcs5=>
 Θ ((ε [],[ApX (θ cs5 Δ Δ)])))
 (Θ ((ε [],[ApX (θ cs3 Δ Δ)]))))
 (Θ ((ε [],[ApX (θ cs3 Δ Δ)]))))
 (br (A.lt n4 (A.sub δ n5 n6))
 (br (A.lt (A.sub δ n5 n6) n3)
 (Af D (ψ 235) [γ 0 0 n 3,iv n4,iv (A.sub δ n5 n6),iv n3,Ap9 (Fn.func 137) [] []] [θ cs1 Δ Δ] [.t,.N,.R,.X,.E] λcs3=>
 Θ ((ε [],[ApX (θ cs3 Δ Δ)])))
 (Θ ((ε [],[ApX (θ cs1 Δ Δ)]))))
 (Θ ((ε [],[ApX (θ cs1 Δ Δ)])))))
 (br (A.lt n4 (A.sub δ n5 n6))
 (br (A.lt (A.sub δ n5 n6) n3)
 (Af D (ψ 235) [γ 0 0 n 3,iv n4,iv (A.sub δ n5 n6),iv n3,Ap9 (Fn.func 137) [] []] [θ cs1 Δ Δ] [.t,.N,.R,.X,.E] λcs3=>
 Θ ((ε [],[ApX (θ cs3 Δ Δ)])))
 (Θ ((ε [],[ApX (θ cs1 Δ Δ)]))))
 (Θ ((ε [],[ApX (θ cs1 Δ Δ)]))))))
 (br (A.lt n1 n6)
 (br (A.lt n6 n4)
 (Af D (ψ 235) [γ 0 0 n 3,iv n1,iv n6,iv n4,Ap9 (Fn.func 137) [] []] [θ cs1 Δ Δ] [.t,.N,.R,.X,.E] λcs3=>
 br (A.lt n4 (A.sub δ n5 n6))
 (br (A.lt (A.sub δ n5 n6) n3)
 (Af D (ψ 235) [γ 0 0 n 3,iv n4,iv (A.sub δ n5 n6),iv n3,Ap9 (Fn.func 137) [] []] [θ cs3 Δ Δ] [.t,.N,.R,.X,.E] λcs5=>
 Θ ((ε [],[ApX (θ cs5 Δ Δ)])))
 (Θ ((ε [],[ApX (θ cs3 Δ Δ)]))))
 (Θ ((ε [],[ApX (θ cs3 Δ Δ)]))))
 (br (A.lt n4 (A.sub δ n5 n6))
 (br (A.lt (A.sub δ n5 n6) n3)
 (Af D (ψ 235) [γ 0 0 n 3,iv n4,iv (A.sub δ n5 n6),iv n3,Ap9 (Fn.func 137) [] []] [θ cs1 Δ Δ] [.t,.N,.R,.X,.E] λcs3=>
 Θ ((ε [],[ApX (θ cs3 Δ Δ)])))
 (Θ ((ε [],[ApX (θ cs1 Δ Δ)]))))
 (Θ ((ε [],[ApX (θ cs1 Δ Δ)])))))
 (br (A.lt n4 (A.sub δ n5 n6))
 (br (A.lt (A.sub δ n5 n6) n3)
 (Af D (ψ 235) [γ 0 0 n 3,iv n4,iv (A.sub δ n5 n6),iv n3,Ap9 (Fn.func 137) [] []] [θ cs1 Δ Δ] [.t,.N,.R,.X,.E] λcs3=>
 Θ ((ε [],[ApX (θ cs3 Δ Δ)])))
 (Θ ((ε [],[ApX (θ cs1 Δ Δ)]))))
 (Θ ((ε [],[ApX (θ cs1 Δ Δ)]))))))
 (Ξ))
 (Af D (ApW 235 4) [γ 0 0 n0 3,iv x1,iv x2,iv x3,Ap9 (Fn.func 137) [] [],iv (A.conv δ (A.shr Ω (A.conv Ω (A.add δ x1 x3)) 1)),iv (A.add δ (A.conv δ (A.shr Ω (A.conv Ω (A.add δ x1 x3)) 1)) x2),iv x1,iv x2,iv (A.sub δ (A.add δ (A.conv δ (A.shr Ω (A.conv Ω (A.add δ x1 x3)) 1)) x2) 1)] [θ c0 Δ Δ] [.t,.C,.x,.X,.Y] λc l o=>
 br (Bp 9 c)
 (dk [.C,.q 0 3,.I,.I,.I,.C,.f 137,.I,.I,.I,.N,.R,.X,.E] [.l l,.o o] λn n1 n2 n3 n4 n5 n6 cs1=>
 br (A.lt n6 n2)
 (br (A.lt n2 (A.sub δ n5 n6))
 (Af D (ψ 265) [γ 0 0 n 3,iv n6,iv n2,iv (A.sub δ n5 n6),Ap9 (Fn.func 137) [] []] [θ cs1 Δ Δ] [.t,.N,.R,.X,.E] λcs3=>
 br (A.lt n1 n6)
 (br (A.lt n6 n4)
 (Af D (ψ 235) [γ 0 0 n 3,iv n1,iv n6,iv n4,Ap9 (Fn.func 137) [] []] [θ cs3 Δ Δ] [.t,.N,.R,.X,.E] λcs5=>
 br (A.lt n4 (A.sub δ n5 n6))
 (br (A.lt (A.sub δ n5 n6) n3)
 (Af D (ψ 235) [γ 0 0 n 3,iv n4,iv (A.sub δ n5 n6),iv n3,Ap9 (Fn.func 137) [] []] [θ cs5 Δ Δ] [.t,.N,.R,.X,.E] λcs7=>
 Θ ((ε [],[ApX (θ cs7 Δ Δ)])))
 (Θ ((ε [],[ApX (θ cs5 Δ Δ)]))))
 (Θ ((ε [],[ApX (θ cs5 Δ Δ)]))))
 (br (A.lt n4 (A.sub δ n5 n6))
 (br (A.lt (A.sub δ n5 n6) n3)
 (Af D (ψ 235) [γ 0 0 n 3,iv n4,iv (A.sub δ n5 n6),iv n3,Ap9 (Fn.func 137) [] []] [θ cs3 Δ Δ] [.t,.N,.R,.X,.E] λcs5=>
 Θ ((ε [],[ApX (θ cs5 Δ Δ)])))
 (Θ ((ε [],[ApX (θ cs3 Δ Δ)]))))
 (Θ ((ε [],[ApX (θ cs3 Δ Δ)])))))
 (br (A.lt n4 (A.sub δ n5 n6))
 (br (A.lt (A.sub δ n5 n6) n3)
 (Af D (ψ 235) [γ 0 0 n 3,iv n4,iv (A.sub δ n5 n6),iv n3,Ap9 (Fn.func 137) [] []] [θ cs3 Δ Δ] [.t,.N,.R,.X,.E] λcs5=>
 Θ ((ε [],[ApX (θ cs5 Δ Δ)])))
 (Θ ((ε [],[ApX (θ cs3 Δ Δ)]))))
 (Θ ((ε [],[ApX (θ cs3 Δ Δ)])))))
 (br (A.lt n1 n6)
 (br (A.lt n6 n4)
 (Af D (ψ 235) [γ 0 0 n 3,iv n1,iv n6,iv n4,Ap9 (Fn.func 137) [] []] [θ cs1 Δ Δ] [.t,.N,.R,.X,.E] λcs3=>
 br (A.lt n4 (A.sub δ n5 n6))
 (br (A.lt (A.sub δ n5 n6) n3)
 (Af D (ψ 235) [γ 0 0 n 3,iv n4,iv (A.sub δ n5 n6),iv n3,Ap9 (Fn.func 137) [] []] [θ cs3 Δ Δ] [.t,.N,.R,.X,.E] λcs5=>
 Θ ((ε [],[ApX (θ cs5 Δ Δ)])))
 (Θ ((ε [],[ApX (θ cs3 Δ Δ)]))))
 (Θ ((ε [],[ApX (θ cs3 Δ Δ)]))))
 (br (A.lt n4 (A.sub δ n5 n6))
 (br (A.lt (A.sub δ n5 n6) n3)
 (Af D (ψ 235) [γ 0 0 n 3,iv n4,iv (A.sub δ n5 n6),iv n3,Ap9 (Fn.func 137) [] []] [θ cs1 Δ Δ] [.t,.N,.R,.X,.E] λcs3=>
 Θ ((ε [],[ApX (θ cs3 Δ Δ)])))
 (Θ ((ε [],[ApX (θ cs1 Δ Δ)]))))
 (Θ ((ε [],[ApX (θ cs1 Δ Δ)])))))
 (br (A.lt n4 (A.sub δ n5 n6))
 (br (A.lt (A.sub δ n5 n6) n3)
 (Af D (ψ 235) [γ 0 0 n 3,iv n4,iv (A.sub δ n5 n6),iv n3,Ap9 (Fn.func 137) [] []] [θ cs1 Δ Δ] [.t,.N,.R,.X,.E] λcs3=>
 Θ ((ε [],[ApX (θ cs3 Δ Δ)])))
 (Θ ((ε [],[ApX (θ cs1 Δ Δ)]))))
 (Θ ((ε [],[ApX (θ cs1 Δ Δ)]))))))
 (br (A.lt n1 n6)
 (br (A.lt n6 n4)
 (Af D (ψ 235) [γ 0 0 n 3,iv n1,iv n6,iv n4,Ap9 (Fn.func 137) [] []] [θ cs1 Δ Δ] [.t,.N,.R,.X,.E] λcs3=>
 br (A.lt n4 (A.sub δ n5 n6))
 (br (A.lt (A.sub δ n5 n6) n3)
 (Af D (ψ 235) [γ 0 0 n 3,iv n4,iv (A.sub δ n5 n6),iv n3,Ap9 (Fn.func 137) [] []] [θ cs3 Δ Δ] [.t,.N,.R,.X,.E] λcs5=>
 Θ ((ε [],[ApX (θ cs5 Δ Δ)])))
 (Θ ((ε [],[ApX (θ cs3 Δ Δ)]))))
 (Θ ((ε [],[ApX (θ cs3 Δ Δ)]))))
 (br (A.lt n4 (A.sub δ n5 n6))
 (br (A.lt (A.sub δ n5 n6) n3)
 (Af D (ψ 235) [γ 0 0 n 3,iv n4,iv (A.sub δ n5 n6),iv n3,Ap9 (Fn.func 137) [] []] [θ cs1 Δ Δ] [.t,.N,.R,.X,.E] λcs3=>
 Θ ((ε [],[ApX (θ cs3 Δ Δ)])))
 (Θ ((ε [],[ApX (θ cs1 Δ Δ)]))))
 (Θ ((ε [],[ApX (θ cs1 Δ Δ)])))))
 (br (A.lt n4 (A.sub δ n5 n6))
 (br (A.lt (A.sub δ n5 n6) n3)
 (Af D (ψ 235) [γ 0 0 n 3,iv n4,iv (A.sub δ n5 n6),iv n3,Ap9 (Fn.func 137) [] []] [θ cs1 Δ Δ] [.t,.N,.R,.X,.E] λcs3=>
 Θ ((ε [],[ApX (θ cs3 Δ Δ)])))
 (Θ ((ε [],[ApX (θ cs1 Δ Δ)]))))
 (Θ ((ε [],[ApX (θ cs1 Δ Δ)]))))))
 (Ξ))))):=by kernel_rfl
theorem Vk(n0:Nat)(c0:List AV)(t1 t10 t11:Int):D2 A D Av CC .n 235 0 (AW GW 0).fst (AW GW 0).snd [γ 0 0 n0 3,iv t1,Ap9 (Fn.func 137) [] [],iv t10,iv t11] [{ cells:=c0,st:=Δ,ex:=Δ }] =
 br (A.lt t10 t11)
 (br (A.lt 1 0)
 (Ξ)
 (unI (A.conv δ (A.shr Ω (A.conv Ω (A.add δ t10 t11)) 1)) λi=>
 br (i.blt n0) (EZ c0 (0+i*3) 3 λcs=>
 dk [.I,.B,.L,.N] [.l cs] λn b xs=>
 unI t1 λi1=>
 br (i1.blt n0) (EZ c0 (0+i1*3) 3 λcs1=>
 dk [.I,.B,.L,.N] [.l cs1] λn1 b1 xs1=>
 Af D (ψ 137) [ω [iv n,bv b,Ψ xs],ω [iv n1,bv b1,Ψ xs1]] [] [.i,.E] λn2=>
 br (A.lt n2 0)
 (AK D (ApW 235 0) [γ 0 0 n0 3,iv t1,Ap9 (Fn.func 137) [] [],iv (A.add δ (A.conv δ (A.shr Ω (A.conv Ω (A.add δ t10 t11)) 1)) 1),iv t11] [θ c0 Δ Δ] λr1 o1=>
 AF 1 [0] (AH.mk [(0,θ c0 Δ Δ)] 1 Ξ) [] r1 o1)
 (AK D (ApW 235 0) [γ 0 0 n0 3,iv t1,Ap9 (Fn.func 137) [] [],iv t10,iv (A.conv δ (A.shr Ω (A.conv Ω (A.add δ t10 t11)) 1))] [θ c0 Δ Δ] λr1 o1=>
 AF 1 [0] (AH.mk [(0,θ c0 Δ Δ)] 1 Ξ) [] r1 o1)) Ξ) Ξ))
 (Θ ((ε [iv 0,γ 0 0 n0 3,iv t1,iv t10],[ApX (θ c0 Δ Δ)]))):=by kernel_rfl
theorem AaN(n0:Nat)(c0:List AV)(t10 t13:Int):D2 A D Av CC .n 235 1 (AW GW 1).fst (AW GW 1).snd [γ 0 0 n0 3,iv t10,iv t13] [{ cells:=c0,st:=Δ,ex:=Δ }] =
 br (A.lt t13 (A.sub δ t10 1))
 (unI (A.add δ t13 1) λi=>
 br (i.blt n0) (EZ c0 (0+i*3) 3 λcs=>
 dk [.I,.B,.L,.N] [.l cs] λn b xs=>
 unI t13 λi1=>
 br (i1.blt n0) (EZ c0 (0+i1*3) 3 λcs1=>
 dk [.I,.B,.L,.N] [.l cs1] λn1 b1 xs1=>
 unI t13 λi2=>
 br (i2.blt n0) (br ((0+i2*3+3).ble c0.length) (unI (A.add δ t13 1) λi3=>
 br (i3.blt n0) (br ((0+i3*3+3).ble (Ay c0 (0+i2*3) [iv n,bv b,Ψ xs]).length) (AK D (ApW 235 1) [γ 0 0 n0 3,iv t10,iv (A.add δ t13 1)] [θ (Ay (Ay c0 (0+i2*3) [iv n,bv b,Ψ xs]) (0+i3*3) [iv n1,bv b1,Ψ xs1]) Δ Δ] λr o=>
 AF 1 [0] (AH.mk [(0,θ (Ay (Ay c0 (0+i2*3) [iv n,bv b,Ψ xs]) (0+i3*3) [iv n1,bv b1,Ψ xs1]) Δ Δ)] 1 Ξ) [0] r o) Ξ) Ξ) Ξ) Ξ) Ξ) Ξ)
 (Θ ((ε [iv 2,γ 0 0 n0 3],[ApX (θ c0 Δ Δ)]))):=by kernel_rfl
theorem Vl(n0:Nat)(c0:List AV)(t2 t14 t15:Int):D2 A D Av CC .n 235 2 (AW GW 2).fst (AW GW 2).snd [γ 0 0 n0 3,iv t2,Ap9 (Fn.func 137) [] [],iv t14,iv t15] [{ cells:=c0,st:=Δ,ex:=Δ }] =
 br (A.lt t14 t15)
 (br (A.lt 1 0)
 (Ξ)
 (unI t2 λi=>
 br (i.blt n0) (EZ c0 (0+i*3) 3 λcs=>
 dk [.I,.B,.L,.N] [.l cs] λn b xs=>
 unI (A.conv δ (A.shr Ω (A.conv Ω (A.add δ t14 t15)) 1)) λi1=>
 br (i1.blt n0) (EZ c0 (0+i1*3) 3 λcs1=>
 dk [.I,.B,.L,.N] [.l cs1] λn1 b1 xs1=>
 Af D (ψ 137) [ω [iv n,bv b,Ψ xs],ω [iv n1,bv b1,Ψ xs1]] [] [.i,.E] λn2=>
 br (A.lt n2 0)
 (AK D (ApW 235 2) [γ 0 0 n0 3,iv t2,Ap9 (Fn.func 137) [] [],iv t14,iv (A.conv δ (A.shr Ω (A.conv Ω (A.add δ t14 t15)) 1))] [θ c0 Δ Δ] λr1 o1=>
 AF 1 [0] (AH.mk [(0,θ c0 Δ Δ)] 1 Ξ) [] r1 o1)
 (AK D (ApW 235 2) [γ 0 0 n0 3,iv t2,Ap9 (Fn.func 137) [] [],iv (A.add δ (A.conv δ (A.shr Ω (A.conv Ω (A.add δ t14 t15)) 1)) 1),iv t15] [θ c0 Δ Δ] λr1 o1=>
 AF 1 [0] (AH.mk [(0,θ c0 Δ Δ)] 1 Ξ) [] r1 o1)) Ξ) Ξ))
 (Θ ((ε [iv 4,γ 0 0 n0 3,iv t2,iv t14],[ApX (θ c0 Δ Δ)]))):=by kernel_rfl
theorem AaO(n0:Nat)(c0:List AV)(t14 t17:Int):D2 A D Av CC .n 235 3 (AW GW 3).fst (AW GW 3).snd [γ 0 0 n0 3,iv t14,iv t17] [{ cells:=c0,st:=Δ,ex:=Δ }] =
 br (A.lt t14 t17)
 (unI (A.sub δ t17 1) λi=>
 br (i.blt n0) (EZ c0 (0+i*3) 3 λcs=>
 dk [.I,.B,.L,.N] [.l cs] λn b xs=>
 unI t17 λi1=>
 br (i1.blt n0) (EZ c0 (0+i1*3) 3 λcs1=>
 dk [.I,.B,.L,.N] [.l cs1] λn1 b1 xs1=>
 unI t17 λi2=>
 br (i2.blt n0) (br ((0+i2*3+3).ble c0.length) (unI (A.sub δ t17 1) λi3=>
 br (i3.blt n0) (br ((0+i3*3+3).ble (Ay c0 (0+i2*3) [iv n,bv b,Ψ xs]).length) (AK D (ApW 235 3) [γ 0 0 n0 3,iv t14,iv (A.sub δ t17 1)] [θ (Ay (Ay c0 (0+i2*3) [iv n,bv b,Ψ xs]) (0+i3*3) [iv n1,bv b1,Ψ xs1]) Δ Δ] λr o=>
 AF 1 [0] (AH.mk [(0,θ (Ay (Ay c0 (0+i2*3) [iv n,bv b,Ψ xs]) (0+i3*3) [iv n1,bv b1,Ψ xs1]) Δ Δ)] 1 Ξ) [0] r o) Ξ) Ξ) Ξ) Ξ) Ξ) Ξ)
 (Θ ((ε [iv 6,γ 0 0 n0 3],[ApX (θ c0 Δ Δ)]))):=by kernel_rfl
theorem Vm(n0:Nat)(c0:List AV)(t1 t2 t3 t18 t19 t20 t21 t22:Int):D2 A D Av CC .n 235 4 (AW GW 4).fst (AW GW 4).snd [γ 0 0 n0 3,iv t1,iv t2,iv t3,Ap9 (Fn.func 137) [] [],iv t18,iv t19,iv t20,iv t21,iv t22] [{ cells:=c0,st:=Δ,ex:=Δ }] =
 br (A.lt t20 t21)
 (br (A.lt 1 0)
 (Ξ)
 (unI (A.sub δ t22 (A.conv δ (A.shr Ω (A.conv Ω (A.add δ t20 t21)) 1))) λi=>
 br (i.blt n0) (EZ c0 (0+i*3) 3 λcs=>
 dk [.I,.B,.L,.N] [.l cs] λn b xs=>
 unI (A.conv δ (A.shr Ω (A.conv Ω (A.add δ t20 t21)) 1)) λi1=>
 br (i1.blt n0) (EZ c0 (0+i1*3) 3 λcs1=>
 dk [.I,.B,.L,.N] [.l cs1] λn1 b1 xs1=>
 Af D (ψ 137) [ω [iv n,bv b,Ψ xs],ω [iv n1,bv b1,Ψ xs1]] [] [.i,.E] λn2=>
 br (A.lt n2 0)
 (AK D (ApW 235 4) [γ 0 0 n0 3,iv t1,iv t2,iv t3,Ap9 (Fn.func 137) [] [],iv t18,iv t19,iv t20,iv (A.conv δ (A.shr Ω (A.conv Ω (A.add δ t20 t21)) 1)),iv t22] [θ c0 Δ Δ] λr1 o1=>
 AF 1 [0] (AH.mk [(0,θ c0 Δ Δ)] 1 Ξ) [] r1 o1)
 (AK D (ApW 235 4) [γ 0 0 n0 3,iv t1,iv t2,iv t3,Ap9 (Fn.func 137) [] [],iv t18,iv t19,iv (A.add δ (A.conv δ (A.shr Ω (A.conv Ω (A.add δ t20 t21)) 1)) 1),iv t21,iv t22] [θ c0 Δ Δ] λr1 o1=>
 AF 1 [0] (AH.mk [(0,θ c0 Δ Δ)] 1 Ξ) [] r1 o1)) Ξ) Ξ))
 (Θ ((ε [iv 8,γ 0 0 n0 3,iv t1,iv t2,iv t3,Ap9 (Fn.func 137) [] [],iv t18,iv t19,iv t20],[ApX (θ c0 Δ Δ)]))):=by kernel_rfl
theorem Aov(n0:Nat)(c0:List AV)(x1 x2 x3:Int):Cm A D Av P6 .n 265 Xq [γ 0 0 n0 3,iv x1,iv x2,iv x3,Ap9 (Fn.func 137) [] []] [{ cells:=c0,st:=Δ,ex:=Δ }] =
 Af D (ApW 265 0) [γ 0 0 n0 3,iv x2,Ap9 (Fn.func 137) [] [],iv (A.sub δ x2 x1),iv (A.sub δ x3 x2)] [θ c0 Δ Δ] [.t,.C,.x,.X,.Y] λc l o=>
 br (Bp 1 c)
 (dk [.C,.q 0 3,.I,.C,.f 137,.I,.N,.R,.X,.E] [.l l,.o o] λn n1 n2 cs1=>
 Af D (ψ 275) [γ 0 0 n 3,iv (A.sub δ n1 n2),iv n1,iv n2,Ap9 (Fn.func 137) [] []] [θ cs1 Δ Δ] [.t,.N,.R,.X,.E] λcs3=>
 Θ ((ε [],[ApX (θ cs3 Δ Δ)])))
 (Ξ):=by kernel_rfl
theorem Vn(n0:Nat)(c0:List AV)(t2 t10 t11:Int):D2 A D Av P6 .n 265 0 (AW Xq 0).fst (AW Xq 0).snd [γ 0 0 n0 3,iv t2,Ap9 (Fn.func 137) [] [],iv t10,iv t11] [{ cells:=c0,st:=Δ,ex:=Δ }] =
 br (A.eq t10 t11)
 (Θ ((ε [iv 0,γ 0 0 n0 3,iv t2,Ap9 (Fn.func 137) [] [],iv t10],[ApX (θ c0 Δ Δ)])))
 (br (A.lt t11 t10)
 (Af D (ψ 275) [γ 0 0 n0 3,iv (A.sub δ t2 t10),iv t2,iv t11,Ap9 (Fn.func 137) [] []] [θ c0 Δ Δ] [.t,.N,.R,.X,.E] λcs1=>
 AK D (ApW 265 0) [γ 0 0 n0 3,iv t2,Ap9 (Fn.func 137) [] [],iv (A.sub δ t10 t11),iv t11] [θ cs1 Δ Δ] λr1 o1=>
 AF 1 [0] (AH.mk [(0,θ cs1 Δ Δ)] 1 Ξ) [0] r1 o1)
 (Af D (ψ 275) [γ 0 0 n0 3,iv (A.sub δ t2 t10),iv (A.sub δ (A.add δ t2 t11) t10),iv t10,Ap9 (Fn.func 137) [] []] [θ c0 Δ Δ] [.t,.N,.R,.X,.E] λcs1=>
 AK D (ApW 265 0) [γ 0 0 n0 3,iv t2,Ap9 (Fn.func 137) [] [],iv t10,iv (A.sub δ t11 t10)] [θ cs1 Δ Δ] λr1 o1=>
 AF 1 [0] (AH.mk [(0,θ cs1 Δ Δ)] 1 Ξ) [0] r1 o1)):=by kernel_rfl
theorem Aow(n0:Nat)(c0:List AV)(x1 x2 x3:Int):Cm A D Av Ty .n 275 Xr [γ 0 0 n0 3,iv x1,iv x2,iv x3,Ap9 (Fn.func 137) [] []] [{ cells:=c0,st:=Δ,ex:=Δ }] =
 Af D (ApW 275 0) [γ 0 0 n0 3,iv x1,iv x2,iv x3,iv 0] [θ c0 Δ Δ] [.t,.C,.x,.X,.Y] λc l o=>
 br (Bp 1 c)
 (dk [.C,.q 0 3,.N,.R,.X,.E] [.l l,.o o] λ_ cs1=>
 Θ ((ε [],[ApX (θ cs1 Δ Δ)])))
 (Ξ):=by kernel_rfl
theorem AaR(n0:Nat)(c0:List AV)(t1 t2 t3 t10:Int):D2 A D Av Ty .n 275 0 (AW Xr 0).fst (AW Xr 0).snd [γ 0 0 n0 3,iv t1,iv t2,iv t3,iv t10] [{ cells:=c0,st:=Δ,ex:=Δ }] =
 br (A.lt t10 t3)
 (unI (A.add δ t2 t10) λi=>
 br (i.blt n0) (EZ c0 (0+i*3) 3 λcs=>
 dk [.I,.B,.L,.N] [.l cs] λn b xs=>
 unI (A.add δ t1 t10) λi1=>
 br (i1.blt n0) (EZ c0 (0+i1*3) 3 λcs1=>
 dk [.I,.B,.L,.N] [.l cs1] λn1 b1 xs1=>
 unI (A.add δ t1 t10) λi2=>
 br (i2.blt n0) (br ((0+i2*3+3).ble c0.length) (unI (A.add δ t2 t10) λi3=>
 br (i3.blt n0) (br ((0+i3*3+3).ble (Ay c0 (0+i2*3) [iv n,bv b,Ψ xs]).length) (AK D (ApW 275 0) [γ 0 0 n0 3,iv t1,iv t2,iv t3,iv (A.add δ t10 1)] [θ (Ay (Ay c0 (0+i2*3) [iv n,bv b,Ψ xs]) (0+i3*3) [iv n1,bv b1,Ψ xs1]) Δ Δ] λr o=>
 AF 1 [0] (AH.mk [(0,θ (Ay (Ay c0 (0+i2*3) [iv n,bv b,Ψ xs]) (0+i3*3) [iv n1,bv b1,Ψ xs1]) Δ Δ)] 1 Ξ) [0] r o) Ξ) Ξ) Ξ) Ξ) Ξ) Ξ)
 (Θ ((ε [iv 0,γ 0 0 n0 3],[ApX (θ c0 Δ Δ)]))):=by kernel_rfl
theorem AlH(n0:Nat)(c0:List AV):Cm A D Av NS .n 140 Xh [γ 0 0 n0 3,Ap9 (Fn.func 141) [] []] [{ cells:=c0,st:=Δ,ex:=Δ }] =
 Af D (ψ 199) [γ 0 0 n0 3,Ap9 (Fn.func 141) [] []] [θ c0 Δ Δ] [.i,.R,.X,.E] λn cs=>
 br (A.eq n (-1))
 (Θ ((γ 0 0 n0 3,[ApX (θ cs Δ Δ)])))
 (Af D (ApW 140 0) [γ 0 0 n0 3,Ap9 (Fn.func 141) [] [],iv n,iv (A.add δ n 1)] [θ cs Δ Δ] [.t,.C,.x,.X,.Y] λc1 l1 o1=>
 br (Bp 1 c1)
 (dk [.C,.q 0 3,.I,.N,.R,.X,.E] [.l l1,.o o1] λn1 n2 cs2=>
 unI n2 λi=>
 br (L9 i n1 n1) (br ((0+i*3+(n1-i)*3).ble cs2.length) (unI n2 λi1=>
 br (L9 0 i1 n1) (Θ ((γ 0 0 i1 3,[ApX (θ (Ay cs2 (0+i*3) (BJ [iv 0,bv Φ,AV.v (Value.slice Ξ 0 0)] ((n1-i)*3))) Δ Δ)]))) Ξ) Ξ) Ξ)
 (Ξ)):=by kernel_rfl
theorem Vf(n0:Nat)(c0:List AV)(t5 t6:Int):D2 A D Av NS .n 140 0 (AW Xh 0).fst (AW Xh 0).snd [γ 0 0 n0 3,Ap9 (Fn.func 141) [] [],iv t5,iv t6] [{ cells:=c0,st:=Δ,ex:=Δ }] =
 br (A.lt t6 ↑n0)
 (unI t6 λi=>
 br (i.blt n0) (EZ c0 (0+i*3) 3 λcs=>
 dk [.I,.B,.L,.N] [.l cs] λn b xs=>
 Af D (ψ 141) [ω [iv n,bv b,Ψ xs]] [] [.b,.E] λb1=>
 br b1
 (AK D (ApW 140 0) [γ 0 0 n0 3,Ap9 (Fn.func 141) [] [],iv t5,iv (A.add δ t6 1)] [θ c0 Δ Δ] λr1 o1=>
 AF 1 [0] (AH.mk [(1,bk [iv n,bv b,Ψ xs]),(0,θ c0 Δ Δ)] 2 Ξ) [] r1 o1)
 (unI t5 λi1=>
 br (i1.blt n0) (br ((0+i1*3+3).ble c0.length) (AK D (ApW 140 0) [γ 0 0 n0 3,Ap9 (Fn.func 141) [] [],iv (A.add δ t5 1),iv (A.add δ t6 1)] [θ (Ay c0 (0+i1*3) [iv n,bv b,Ψ xs]) Δ Δ] λr1 o1=>
 AF 1 [0] (AH.mk [(0,θ (Ay c0 (0+i1*3) [iv n,bv b,Ψ xs]) Δ Δ),(1,bk [iv n,bv b,Ψ xs])] 2 Ξ) [0] r1 o1) Ξ) Ξ)) Ξ)
 (Θ ((ε [iv 0,γ 0 0 n0 3,iv t5],[ApX (θ c0 Δ Δ)]))):=by kernel_rfl
theorem Aom(n0:Nat)(c0:List AV):Cm A D Av NT .n 199 Xm [γ 0 0 n0 3,Ap9 (Fn.func 141) [] []] [{ cells:=c0,st:=Δ,ex:=Δ }] =
 Af D (ApW 199 0) [γ 0 0 n0 3,Ap9 (Fn.func 141) [] [],iv ↑n0,iv 0] [θ c0 Δ Δ] [.t,.C,.x,.X,.Y] λc l o=>
 br (Bp 0 c)
 (dk [.C,.q 0 3,.I,.N,.R,.X,.E] [.l l,.o o] λ_ n1 cs1=>
 Θ ((iv n1,[ApX (θ cs1 Δ Δ)])))
 (br (Bp 1 c)
 (dk [.C,.q 0 3,.N,.R,.X,.E] [.l l,.o o] λ_ cs1=>
 Θ ((iv (-1),[ApX (θ cs1 Δ Δ)])))
 (Ξ)):=by kernel_rfl
theorem Q9(n0:Nat)(c0:List AV)(t7 t8:Int):D2 A D Av NT .n 199 0 (AW Xm 0).fst (AW Xm 0).snd [γ 0 0 n0 3,Ap9 (Fn.func 141) [] [],iv t7,iv t8] [{ cells:=c0,st:=Δ,ex:=Δ }] =
 br (A.lt t8 t7)
 (unI t8 λi=>
 br (i.blt n0) (EZ c0 (0+i*3) 3 λcs=>
 dk [.I,.B,.L,.N] [.l cs] λn b xs=>
 Af D (ψ 141) [ω [iv n,bv b,Ψ xs]] [] [.b,.E] λb1=>
 br b1
 (Θ ((ε [bv Δ,γ 0 0 n0 3,iv t8],[ApX (θ c0 Δ Δ)])))
 (AK D (ApW 199 0) [γ 0 0 n0 3,Ap9 (Fn.func 141) [] [],iv t7,iv (A.add δ t8 1)] [θ c0 Δ Δ] λr1 o1=>
 AF 1 [0] (AH.mk [(0,θ c0 Δ Δ)] 1 Ξ) [] r1 o1)) Ξ)
 (Θ ((ε [iv 0,γ 0 0 n0 3],[ApX (θ c0 Δ Δ)]))):=by kernel_rfl
end
section
open Go.RowKit
def Aiz:MFn:=AY [] 138
def AhY:Hnt:=⟨[(145,(.agg AR,[]))],[],[(4,[.bool]),(6,[.ls])]⟩
def AeE:MFn:=AY [⟨74,(mB 917524),[(1000004,3)],[2,17],[(1,((mB 20),([],[])))]⟩] 62
def Abn:Hnt:=⟨[(135,(.sl 0 3,[.row Δ])),(136,(.tup [],[.row Δ])),(138,(.agg AR,[])),(139,(.agg AR,[])),(140,(.sl 0 3,[.row Δ]))],[(0,[(1,([.ptr 0 0,.ptr 1 0],[.box B6,.box [.sl 3 3,.bool,.ls],.del,.row Δ]))])],[(9,[.ls]),(14,AR),(21,Bj),(22,Bj),(24,[.int .i64]),(27,[.ls]),(34,[.ls]),(36,Bj),(38,[.int .i64]),(40,[.int .i64]),(44,[.ls]),(47,[.ls]),(49,Bj),(51,AR),(53,AR),(55,Bj),(58,[.ls]),(60,[.int .i64]),(62,AR),(70,[.ls]),(73,B6)]⟩
def Fj:List (Nat × MFn):=[(138,Aiz),(62,AeE)]
variable (A:Ar) (D:Orc)
theorem An0(x0_0:Bool)(x0_1:Rw):Cm A D Av AhY .n 138 Aiz [ω [bv x0_0,Ψ x0_1]] [] =
 Af D (ψ 145) [bv x0_0,Ψ x0_1] [] [.a,.B,.L,.N,.E] λb xs=>
 Θ ((ω [bv b,Ψ xs],[])):=by kernel_rfl
theorem e62(x0_0:Rw)(x0_1:Bool)(x0_2:Rw):Cm A D Av Abn .n 62 AeE [ω [Ψ x0_0,bv x0_1,Ψ x0_2]] [] =
 Af D (ψ 135) [Ψ x0_0] [] [.q 0 3,.R,.X,.E] λn cs=>
 Af D (ψ 136) [γ 0 0 n 3,Ap9 (Fn.func 137) [] []] [θ cs Δ Δ] [.t,.N,.R,.X,.E] λcs2=>
 Af D (ψ 138) [ω [bv x0_1,Ψ x0_2]] [] [.a,.B,.L,.N,.E] λb xs=>
 br ((0+n*3).ble cs2.length) (AK D (ApW 62 0) [Aqk 0 0,Aqk 1 0,Ψ (Bi n 3 (Ap2 (n*3) cs2)),iv ↑n,iv 0] [bk [Ψ [],bv Φ,Ψ []],bk [γ 2 0 0 3,bv b,Ψ xs],θ [] Δ Δ] λr3 o3=>
 dk [.t,.C,.x,.X] [.v r3] λc2 l4=>
 br (Bp 1 c2)
 (dk [.P 0 0,.P 1 0,.N,.T,.L,.B,.L,.N,.T,.C,.q 3 3,.B,.L,.N,.D,.R,.X,.E] [.l l4,.o o3] λ_ _ _ n1 b2 xs3 cs7=>
 Af D (ψ 140) [γ 0 0 n1 3,Ap9 (Fn.func 141) [] []] [θ cs7 Δ Δ] [.q 0 3,.R,.X,.E] λn2 cs8=>
 br ((0+n2*3).ble cs8.length) (Θ ((ω [Ψ (Bi n2 3 (Ap2 (n2*3) cs8)),bv b2,Ψ xs3],[]))) Ξ)
 (Ξ)) Ξ:=by kernel_rfl
theorem AhK(r0:Rw)(r1:Bool)(r2:Rw)(n4:Nat)(k1:Bool)(k2:Rw)(c4:List AV)(t17:Rw)(t18 t19:Int):D2 A D Av Abn .n 62 0 (AW AeE 0).fst (AW AeE 0).snd [Aqk 0 0,Aqk 1 0,Ψ t17,iv t18,iv t19] [bk [Ψ r0,bv r1,Ψ r2],bk [γ 2 0 n4 3,bv k1,Ψ k2],{ cells:=c4,st:=Δ,ex:=Δ }] =
 br (A.lt t19 t18)
 (unI t19 λi=>
 BG t17 i λcs=>
 dk [.I,.B,.L,.N] [.l cs] λn b xs=>
 br (A.lt n 0)
 (AK D (ApW 62 0) [Aqk 0 0,Aqk 1 0,Ψ t17,iv t18,iv (A.add δ t19 1)] [bk [Ψ r0,bv r1,Ψ r2],bk [γ 2 0 n4 3,bv k1,Ψ k2],θ c4 Δ Δ] λr o=>
 AF 3 [0,1,2] (AH.mk [(0,bk [Ψ r0,bv r1,Ψ r2]),(3,bk [iv n,bv b,Ψ xs]),(1,bk [γ 2 0 n4 3,bv k1,Ψ k2]),(2,θ c4 Δ Δ)] 4 Ξ) [0] r o)
 (br (A.le 0 (A.sub δ (↑n4) 1))
 (unI (A.sub δ (↑n4) 1) λi1=>
 br (i1.blt n4) (EZ c4 (0+i1*3+0) 1 λcs1=>
 dk [.I,.N] [.l cs1] λn1=>
 br (A.eq n1 n)
 (unI (A.sub δ (↑n4) 1) λi2=>
 br (i2.blt n4) (EZ c4 (0+i2*3+1) 2 λcs2=>
 dk [.B,.L,.N] [.l cs2] λb1 xs1=>
 Af D (ψ 139) [ω [bv b1,Ψ xs1],ω [bv b,Ψ xs]] [] [.a,.B,.L,.N,.E] λb2 xs2=>
 unI (A.sub δ (↑n4) 1) λi3=>
 br (i3.blt n4) (br ((0+i3*3+1+2).ble c4.length) (AK D (ApW 62 0) [Aqk 0 0,Aqk 1 0,Ψ t17,iv t18,iv (A.add δ t19 1)] [bk [Ψ r0,bv r1,Ψ r2],bk [γ 2 0 n4 3,bv k1,Ψ k2],θ (Ay c4 (0+i3*3+1) [bv b2,Ψ xs2]) Δ Δ] λr3 o1=>
 AF 3 [0,1,2] (AH.mk [(0,bk [Ψ r0,bv r1,Ψ r2]),(2,θ (Ay c4 (0+i3*3+1) [bv b2,Ψ xs2]) Δ Δ),(3,bk [iv n,bv b,Ψ xs]),(1,bk [γ 2 0 n4 3,bv k1,Ψ k2])] 4 Ξ) [2,0] r3 o1) Ξ) Ξ) Ξ)
 (Af D (ψ 138) [ω [bv b,Ψ xs]] [] [.a,.B,.L,.N,.E] λb1 xs1=>
 br (BB (n4+1) 40) (br ((0+n4*3).ble c4.length) (AK D (ApW 62 0) [Aqk 0 0,Aqk 1 0,Ψ t17,iv t18,iv (A.add δ t19 1)] [bk [Ψ r0,bv r1,Ψ r2],bk [γ 2 0 (n4+1) 3,bv k1,Ψ k2],θ (Aqe 0 (Ap2 (0+n4*3) c4)++[iv n,bv b1,Ψ xs1]) Δ Δ] λr3 o1=>
 AF 3 [0,1,5] (AH.mk [(0,bk [Ψ r0,bv r1,Ψ r2]),(1,bk [γ 5 0 (n4+1) 3,bv k1,Ψ k2]),(5,θ (Aqe 0 (Ap2 (0+n4*3) c4)++[iv n,bv b1,Ψ xs1]) Δ Δ),(4,θ [iv n,bv b1,Ψ xs1] Δ Δ),(3,bk [iv n,bv b,Ψ xs])] 6 Ξ) [2,1,0] r3 o1) Ξ) Ξ)) Ξ)
 (Af D (ψ 138) [ω [bv b,Ψ xs]] [] [.a,.B,.L,.N,.E] λb1 xs1=>
 br (BB (n4+1) 40) (br ((0+n4*3).ble c4.length) (AK D (ApW 62 0) [Aqk 0 0,Aqk 1 0,Ψ t17,iv t18,iv (A.add δ t19 1)] [bk [Ψ r0,bv r1,Ψ r2],bk [γ 2 0 (n4+1) 3,bv k1,Ψ k2],θ (Aqe 0 (Ap2 (0+n4*3) c4)++[iv n,bv b1,Ψ xs1]) Δ Δ] λr3 o1=>
 AF 3 [0,1,5] (AH.mk [(0,bk [Ψ r0,bv r1,Ψ r2]),(1,bk [γ 5 0 (n4+1) 3,bv k1,Ψ k2]),(5,θ (Aqe 0 (Ap2 (0+n4*3) c4)++[iv n,bv b1,Ψ xs1]) Δ Δ),(4,θ [iv n,bv b1,Ψ xs1] Δ Δ),(3,bk [iv n,bv b,Ψ xs])] 6 Ξ) [2,1,0] r3 o1) Ξ) Ξ)))
 (Θ ((ε [iv 0,Aqk 0 0,Aqk 1 0],[ApX (bk [Ψ r0,bv r1,Ψ r2]),ApX (bk [γ 3 0 n4 3,bv k1,Ψ k2]),BO.del,ApX (θ c4 Δ Δ)]))):=by kernel_rfl
end
section
open Go.RowKit
def Xp:MFn:=AY [⟨25,[Δ,Δ],[],[],[(1,([Δ],([],[])))]⟩] 205
def P5:Hnt:=⟨[(144,(.tup [.ls,.ls,.int .i64],[])),(202,(.ls,[]))],[(0,[(1,([.ls],[]))])],[]⟩
def AiF:MFn:=AY [] 146
def Ah4:Hnt:=⟨[(139,(.agg AR,[])),(161,(.agg AR,[]))],[],[(5,AR),(6,AR)]⟩
def AmV:MFn:=AY [] 66
def Amk:Hnt:=⟨[(126,(.agg AR,[])),(139,(.agg AR,[])),(142,(.agg AR,[])),(144,(.tup [.ls,.ls,.int .i64],[])),(145,(.agg AR,[])),(146,(.agg AR,[]))],[],[(9,AR),(11,AR),(15,[.ls]),(17,[.ls]),(28,[.bool]),(30,[.bool]),(35,[.bool]),(39,[.bool]),(41,[.bool]),(48,AR),(51,AR),(52,AR),(54,AR),(55,AR)]⟩
def AiD:MFn:=AY [] 143
def Ah2:Hnt:=⟨[(64,(.int .i64,[])),(66,(.tup [.agg AR,.agg AR,.int .i64],[]))],[],[(10,AR),(11,AR),(22,AR),(26,AR)]⟩
def AiG:MFn:=AY [] 147
def Ah5:Hnt:=⟨[(145,(.agg AR,[])),(205,(.ls,[]))],[],[(6,[.ls]),(8,[.ls])]⟩
def Qz:List (Nat × MFn):=[(205,Xp),(146,AiF),(66,AmV),(143,AiD),(147,AiG)]
variable (A:Ar) (D:Orc)
theorem Aoq(x0 x1:Rw):Cm A D Av P5 .n 205 Xp [Ψ x0,Ψ x1] [] =
 Af D (ψ 202) [Ψ x0] [] [.l,.E] λxs=>
 Af D (ψ 202) [Ψ x1] [] [.l,.E] λxs1=>
 Af D (ApW 205 0) [Ψ xs,Ψ xs1] [] [.t,.C,.x,.X,.Y] λc l o2=>
 br (Bp 1 c)
 (dk [.L,.N,.E] [.l l,.o o2] λxs2=>
 Θ ((Ψ xs2,[])))
 (Ξ):=by kernel_rfl
theorem Vh(t0 t1:Rw):D2 A D Av P5 .n 205 0 (AW Xp 0).fst (AW Xp 0).snd [Ψ t0,Ψ t1] [] =
 br (A.lt 0 ↑(AS t1))
 (Af D (ψ 144) [Ψ t0,Ψ t1] [] [.t,.L,.L,.I,.N,.E] λ_ xs1 _=>
 AK D (ApW 205 0) [Ψ t1,Ψ xs1] [] λr1 o1=>
 AF 0 [] (AH.mk [] 0 Ξ) [] r1 o1)
 (Θ ((ε [iv 0,Ψ t0],[]))):=by kernel_rfl
theorem An6(x0_0:Bool)(x0_1:Rw)(x1_0:Bool)(x1_1:Rw):Cm A D Av Ah4 .n 146 AiF [ω [bv x0_0,Ψ x0_1],ω [bv x1_0,Ψ x1_1]] [] =
 Af D (ψ 161) [ω [bv x1_0,Ψ x1_1]] [] [.a,.B,.L,.N,.E] λb xs=>
 Af D (ψ 139) [ω [bv x0_0,Ψ x0_1],ω [bv b,Ψ xs]] [] [.a,.B,.L,.N,.E] λb1 xs1=>
 Θ ((ω [bv b1,Ψ xs1],[])):=by kernel_rfl
theorem e66(x0_0:Bool)(x0_1:Rw)(x1_0:Bool)(x1_1:Rw):Cm A D Av Amk (.b (.b .n (.b .n (.b (.t .n) (.f .n)))) .n) 66 AmV [ω [bv x0_0,Ψ x0_1],ω [bv x1_0,Ψ x1_1]] [] =
 Af D (ψ 142) [ω [bv x0_0,Ψ x0_1]] [] [.a,.B,.L,.N,.E] λb xs=>
 Af D (ψ 142) [ω [bv x1_0,Ψ x1_1]] [] [.a,.B,.L,.N,.E] λb1 xs1=>
 Af D (ψ 144) [Ψ xs,Ψ xs1] [] [.t,.L,.L,.I,.N,.E] λxs2 xs3 n=>
 br (A.eq n 0)
 (br (A.not (A.beq b b1))
 (Af D (ψ 145) [bv Δ,Ψ xs2] [] [.a,.B,.L,.N,.E] λb2 xs4=>
 Af D (ψ 145) [bv b,Ψ xs3] [] [.a,.B,.L,.N,.E] λb3 xs5=>
 br (A.not (A.beq b b1)) (br (A.lt 0 ↑(AS xs3))
 (Af D (ψ 126) [iv 1] [] [.a,.B,.L,.N,.E] λb4 xs6=>
 Af D (ψ 146) [ω [bv b2,Ψ xs4],ω [bv b4,Ψ xs6]] [] [.a,.B,.L,.N,.E] λb5 xs7=>
 Af D (ψ 139) [ω [bv b3,Ψ xs5],ω [bv b1,Ψ xs1]] [] [.a,.B,.L,.N,.E] λb6 xs8=>
 Θ ((ε [ω [bv b5,Ψ xs7],ω [bv b6,Ψ xs8],iv 0],[])))
 (Θ ((ε [ω [bv b2,Ψ xs4],ω [bv b3,Ψ xs5],iv 0],[])))) Ξ)
 (Af D (ψ 145) [bv Φ,Ψ xs2] [] [.a,.B,.L,.N,.E] λb2 xs4=>
 Af D (ψ 145) [bv b,Ψ xs3] [] [.a,.B,.L,.N,.E] λb3 xs5=>
 br (A.not (A.beq b b1)) Ξ (Θ ((ε [ω [bv b2,Ψ xs4],ω [bv b3,Ψ xs5],iv 0],[])))))
 (Θ ((ε [ω [bv Φ,Ψ []],ω [bv Φ,Ψ []],iv n],[]))):=by kernel_rfl
theorem An4(x0_0:Bool)(x0_1:Rw)(x1_0:Bool)(x1_1:Rw):Cm A D Av Ah2 .n 143 AiD [ω [bv x0_0,Ψ x0_1],ω [bv x1_0,Ψ x1_1]] [] =
 Af D (ψ 66) [ω [bv x0_0,Ψ x0_1],ω [bv x1_0,Ψ x1_1]] [] [.t,.A,.B,.L,.N,.A,.B,.L,.N,.I,.N,.E] λb xs b1 xs1 n=>
 br (A.eq n 0)
 (Af D (ψ 64) [ω [bv b1,Ψ xs1]] [] [.i,.E] λn1=>
 br (A.eq n1 0)
 (Θ ((ε [ω [bv b,Ψ xs],iv 0],[])))
 (Θ ((ε [ω [bv Φ,Ψ []],iv 1],[]))))
 (Θ ((ε [ω [bv Φ,Ψ []],iv n],[]))):=by kernel_rfl
theorem An7(x0_0:Bool)(x0_1:Rw)(x1_0:Bool)(x1_1:Rw):Cm A D Av Ah5 .n 147 AiG [ω [bv x0_0,Ψ x0_1],ω [bv x1_0,Ψ x1_1]] [] =
 Af D (ψ 205) [Ψ x0_1,Ψ x1_1] [] [.l,.E] λxs=>
 Af D (ψ 145) [bv Φ,Ψ xs] [] [.a,.B,.L,.N,.E] λb xs1=>
 Θ ((ω [bv b,Ψ xs1],[])):=by kernel_rfl
end
