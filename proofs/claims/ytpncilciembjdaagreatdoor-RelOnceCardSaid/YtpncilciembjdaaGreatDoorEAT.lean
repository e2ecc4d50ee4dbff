/- Functions of the program -/
import Derived.Test.YtpncilciembjdaaGreatDoorEAM
set_option linter.all false
open Bool renaming false->Φ,true->Δ
open List renaming drop->ArV,take->ArQ
open Option renaming none->Ξ,some->Θ
namespace Go.Proofs.YtpncilciembjdaaGreatDoor
noncomputable section
open ABlk renaming mk->δ
open AV renaming agg->ω,fn->Ar8,ls->Ψ,ptr->Asm,sl->χ,tup->ι
open BO renaming set->ArU
open IntKind renaming i64->θ,u64->Ω
open Key renaming fn->ψ,lp->ArW
open Tryz renaming prog->ArP
section
open Go.RowKit
def AjI:MFn:=AU [] 145
def AiY:Hnt:=⟨[(202,(.ls,[]))],[],[]⟩
def AjG:MFn:=AU [] 142
def AiW:Hnt:=⟨[(145,(.agg AK,[]))],[],[(4,[.bool]),(6,[.ls])]⟩
def Ajy:MFn:=AU [] 126
def AiO:Hnt:=⟨[(145,(.agg AK,[])),(184,(.ls,[]))],[],[]⟩
def AjR:MFn:=AU [] 161
def Ai7:Hnt:=⟨[(145,(.agg AK,[]))],[],[(4,[.bool]),(7,[.ls])]⟩
def Aoi:MFn:=AU [] 64
def Anr:Hnt:=⟨[(142,(.agg AK,[]))],[],[(3,AK),(7,[.bool]),(10,[.ls])]⟩
def AjN:MFn:=AU [] 155
def Ai3:Hnt:=⟨[(64,(.int .i64,[])),(201,(.int .i64,[]))],[],[(7,AK),(9,AK),(23,[.ls]),(25,[.ls]),(28,[.ls]),(30,[.ls])]⟩
def AjE:MFn:=AU [] 139
def AiU:Hnt:=⟨[(145,(.agg AK,[])),(197,(.ls,[])),(198,(.tup [.ls,.bool],[]))],[],[(10,[.bool]),(12,[.bool]),(15,[.bool]),(17,[.ls]),(19,[.ls]),(24,[.ls]),(26,[.ls]),(32,[.bool]),(37,[.ls]),(39,[.ls]),(44,[.bool])]⟩
def AjP:MFn:=AU [] 158
def Ai5:Hnt:=⟨[(145,(.agg AK,[])),(212,(.ls,[]))],[],[(6,[.bool]),(8,[.bool]),(11,[.ls]),(13,[.ls])]⟩
def Ja:List (Nat × MFn):=[(145,AjI),(142,AjG),(126,Ajy),(161,AjR),(64,Aoi),(155,AjN),(139,AjE),(158,AjP)]
variable (A:Ar) (D:Orc)
theorem ApA(x0:Bool)(x1:Rw):BY A D At AiY (.b (.t (.t (.b (.t .n) (.t .n)))) (.f (.f (.f .n)))) 145 AjI [bv x0,Ψ x1] [] =
 Af D (ψ 202) [Ψ x1] [] [.l,.E] λxs=>
 br x0
 (br x0 (br x0 (br (A.lt 0 ↑(Al xs))
 (br x0 (Θ ((ω [bv Δ,Ψ xs],[]))) Ξ)
 (br x0 (Θ ((ω [bv Φ,Ψ xs],[]))) Ξ)) Ξ) Ξ)
 (br x0 Ξ (br x0 Ξ (br x0 Ξ (Θ ((ω [bv Φ,Ψ xs],[])))))):=by kernel_rfl
theorem Apy(x0_0:Bool)(x0_1:Rw):BY A D At AiW .n 142 AjG [ω [bv x0_0,Ψ x0_1]] [] =
 Af D (ψ 145) [bv x0_0,Ψ x0_1] [] [.a,.B,.L,.N,.E] λb xs=>
 Θ ((ω [bv b,Ψ xs],[])):=by kernel_rfl
theorem Apo(x0:Int):BY A D At AiO .n 126 Ajy [iv x0] [] =
 br (A.lt x0 0)
 (Af D (ψ 184) [AV.v (Value.int Ω (A.add Ω (A.conv Ω (A.sub θ 0 (A.add θ x0 1))) 1))] [] [.l,.E] λxs=>
 Af D (ψ 145) [bv Δ,Ψ xs] [] [.a,.B,.L,.N,.E] λb xs1=>
 Θ ((ω [bv b,Ψ xs1],[])))
 (Af D (ψ 184) [AV.v (Value.int Ω (A.conv Ω x0))] [] [.l,.E] λxs=>
 Af D (ψ 145) [bv Φ,Ψ xs] [] [.a,.B,.L,.N,.E] λb xs1=>
 Θ ((ω [bv b,Ψ xs1],[]))):=by kernel_rfl
theorem ApM(x0_0:Bool)(x0_1:Rw):BY A D At Ai7 .n 161 AjR [ω [bv x0_0,Ψ x0_1]] [] =
 br (A.not x0_0)
 (Af D (ψ 145) [bv Δ,Ψ x0_1] [] [.a,.B,.L,.N,.E] λb xs=>
 Θ ((ω [bv b,Ψ xs],[])))
 (Af D (ψ 145) [bv Φ,Ψ x0_1] [] [.a,.B,.L,.N,.E] λb xs=>
 Θ ((ω [bv b,Ψ xs],[]))):=by kernel_rfl
theorem e64(x0_0:Bool)(x0_1:Rw):BY A D At Anr .n 64 Aoi [ω [bv x0_0,Ψ x0_1]] [] =
 Af D (ψ 142) [ω [bv x0_0,Ψ x0_1]] [] [.a,.B,.L,.N,.E] λb xs=>
 br b
 (Θ ((iv (-1),[])))
 (br (A.lt 0 ↑(Al xs))
 (Θ ((iv 1,[])))
 (Θ ((iv 0,[])))):=by kernel_rfl
theorem ApH(x0_0:Bool)(x0_1:Rw)(x1_0:Bool)(x1_1:Rw):BY A D At Ai3 .n 155 AjN [ω [bv x0_0,Ψ x0_1],ω [bv x1_0,Ψ x1_1]] [] =
 Af D (ψ 64) [ω [bv x0_0,Ψ x0_1]] [] [.i,.E] λn=>
 Af D (ψ 64) [ω [bv x1_0,Ψ x1_1]] [] [.i,.E] λn1=>
 br (A.lt n n1)
 (Θ ((iv (-1),[])))
 (br (A.lt n1 n)
 (Θ ((iv 1,[])))
 (br (A.lt n 0)
 (Af D (ψ 201) [Ψ x1_1,Ψ x0_1] [] [.i,.E] λn2=>
 Θ ((iv n2,[])))
 (Af D (ψ 201) [Ψ x0_1,Ψ x1_1] [] [.i,.E] λn2=>
 Θ ((iv n2,[]))))):=by kernel_rfl
theorem Apw(x0_0:Bool)(x0_1:Rw)(x1_0:Bool)(x1_1:Rw):BY A D At AiU .n 139 AjE [ω [bv x0_0,Ψ x0_1],ω [bv x1_0,Ψ x1_1]] [] =
 br (A.beq x0_0 x1_0)
 (Af D (ψ 197) [Ψ x0_1,Ψ x1_1] [] [.l,.E] λxs=>
 Af D (ψ 145) [bv x0_0,Ψ xs] [] [.a,.B,.L,.N,.E] λb xs1=>
 Θ ((ω [bv b,Ψ xs1],[])))
 (Af D (ψ 198) [Ψ x0_1,Ψ x1_1] [] [.t,.L,.B,.N,.E] λxs b=>
 br b
 (Af D (ψ 145) [bv x0_0,Ψ xs] [] [.a,.B,.L,.N,.E] λb1 xs1=>
 Θ ((ω [bv b1,Ψ xs1],[])))
 (Af D (ψ 198) [Ψ x1_1,Ψ x0_1] [] [.t,.L,.B,.N,.E] λxs1 _=>
 Af D (ψ 145) [bv x1_0,Ψ xs1] [] [.a,.B,.L,.N,.E] λb2 xs2=>
 Θ ((ω [bv b2,Ψ xs2],[])))):=by kernel_rfl
theorem ApK(x0_0:Bool)(x0_1:Rw)(x1_0:Bool)(x1_1:Rw):BY A D At Ai5 .n 158 AjP [ω [bv x0_0,Ψ x0_1],ω [bv x1_0,Ψ x1_1]] [] =
 br (A.not (A.beq x0_0 x1_0))
 (Af D (ψ 212) [Ψ x0_1,Ψ x1_1] [] [.l,.E] λxs=>
 Af D (ψ 145) [bv Δ,Ψ xs] [] [.a,.B,.L,.N,.E] λb xs1=>
 Θ ((ω [bv b,Ψ xs1],[])))
 (Af D (ψ 212) [Ψ x0_1,Ψ x1_1] [] [.l,.E] λxs=>
 Af D (ψ 145) [bv Φ,Ψ xs] [] [.a,.B,.L,.N,.E] λb xs1=>
 Θ ((ω [bv b,Ψ xs1],[]))):=by kernel_rfl
end
section
open Go.RowKit
def AjO:MFn:=AU [] 157
def Ai4:Hnt:=⟨[],[],[]⟩
def Aoo:MFn:=AU [] 84
def Anz:Hnt:=⟨[(157,(.bool,[]))],[],[]⟩
def AjC:MFn:=AU [] 137
def AiS:Hnt:=⟨[(84,(.int .i64,[]))],[],[(6,[.int .i64]),(8,[.int .i64])]⟩
def AjF:MFn:=AU [] 141
def AiV:Hnt:=⟨[(64,(.int .i64,[]))],[],[(4,AK)]⟩
def AjB:MFn:=Ni ArP Bx [] Φ Δ 136
def AiR:Hnt:=⟨[(137,(.int .i64,[])),(196,(.tup [],[.row Δ]))],[],[]⟩
def Mt:MFn:=Ni ArP Bx [⟨63,(mB 455),[],[],[(1,((mB 199),([],[1000000])))]⟩,⟨63,(mB 71),[],[],[(3,([Δ],([],[1000000])))]⟩,⟨63,(mB 455),[],[],[(5,((mB 199),([],[1000000])))]⟩] Φ Δ 196
def Hd:Hnt:=⟨[(137,(.int .i64,[])),(234,(.tup [],[.row Δ])),(235,(.tup [],[.row Δ]))],[(0,[(1,([.sl 0 3,.int .i64,.fnc 137,.int .i64,.int .i64],[.row Δ]))]),(1,[(3,([.sl 0 3],[.row Δ]))]),(2,[(5,([.sl 0 3,.int .i64,.fnc 137,.int .i64,.int .i64],[.row Δ]))])],[]⟩
def QE:MFn:=Ni ArP Bx [⟨53,(mB 271),[],[],[(1,([Δ],([],[1000000])))]⟩,⟨53,(mB 783),[],[],[(3,((mB 271),([],[1000000])))]⟩] Φ Δ 234
def HL:Hnt:=⟨[(137,(.int .i64,[]))],[(0,[(1,([.sl 0 3],[.row Δ]))]),(1,[(3,([.sl 0 3,.int .i64,.int .i64,.fnc 137,.int .i64],[.row Δ]))])],[(25,Br),(26,Br),(30,Br),(31,Br),(45,Br),(46,Br),(49,Br),(50,Br),(51,Br),(52,Br)]⟩
def Hf:MFn:=Ni ArP Bx [⟨220,(mB 3091),[],[],[(1,((mB 1027),([],[1000000])))]⟩,⟨220,(mB 9217),[],[],[(3,([Δ],([],[1000000])))]⟩,⟨220,(mB 49173),[],[],[(5,((mB 16389),([],[1000000])))]⟩,⟨220,(mB 147457),[],[],[(7,([Δ],([],[1000000])))]⟩,⟨220,(mB 8126495),[],[],[(9,((mB 1835039),([],[1000000])))]⟩] Φ Δ 235
def CF:Hnt:=⟨[(137,(.int .i64,[])),(235,(.tup [],[.row Δ])),(265,(.tup [],[.row Δ]))],[(0,[(1,([.sl 0 3,.int .i64,.int .i64],[.row Δ]))]),(1,[(3,([.sl 0 3],[.row Δ]))]),(2,[(5,([.sl 0 3,.int .i64,.int .i64],[.row Δ]))]),(3,[(7,([.sl 0 3],[.row Δ]))]),(4,[(9,([.sl 0 3,.int .i64,.int .i64,.int .i64,.fnc 137,.int .i64,.int .i64,.int .i64],[.row Δ]))])],[(43,Br),(44,Br),(47,Br),(48,Br),(69,Br),(70,Br),(73,Br),(74,Br),(75,Br),(76,Br),(95,Br),(96,Br),(99,Br),(100,Br),(121,Br),(122,Br),(125,Br),(126,Br),(127,Br),(128,Br),(163,Br),(164,Br),(167,Br),(168,Br)]⟩
def XX:MFn:=Ni ArP Bx [⟨58,(mB 3093),[],[],[(1,((mB 1045),([],[1000000])))]⟩] Φ Δ 265
def Qs:Hnt:=⟨[(137,(.int .i64,[])),(275,(.tup [],[.row Δ]))],[(0,[(1,([.sl 0 3,.int .i64,.fnc 137,.int .i64],[.row Δ]))])],[]⟩
def XY:MFn:=Ni ArP Bx [⟨38,(mB 1039),[],[],[(1,([Δ],([],[1000000])))]⟩] Φ Δ 275
def TZ:Hnt:=⟨[(137,(.int .i64,[]))],[(0,[(1,([.sl 0 3],[.row Δ]))])],[(28,Br),(29,Br),(34,Br),(35,Br),(36,Br),(37,Br)]⟩
def XK:MFn:=Ni ArP Bx [⟨42,(mB 99),[],[],[(1,((mB 33),([],[1000000])))]⟩] Δ Δ 140
def Om:Hnt:=⟨[(141,(.bool,[])),(199,(.int .i64,[.row Δ]))],[(0,[(1,([.sl 0 3,.int .i64],[.row Δ]))])],[(24,Br),(25,Br),(27,Br),(32,Br),(33,Br)]⟩
def XQ:MFn:=Ni ArP Bx [⟨19,(mB 387),[],[],[(0,((mB 17),([],[1000000]))),(1,([Δ],([],[1000000])))]⟩] Φ Δ 199
def On:Hnt:=⟨[(141,(.bool,[]))],[(0,[(0,([.sl 0 3,.int .i64],[.row Δ])),(1,([.sl 0 3],[.row Δ]))])],[(14,Br),(15,Br)]⟩
def D9:List (Nat × MFn):=[(157,AjO),(84,Aoo),(137,AjC),(141,AjF),(136,AjB),(196,Mt),(234,QE),(235,Hf),(265,XX),(275,XY),(140,XK),(199,XQ)]
variable (A:Ar) (D:Orc)
theorem ApJ(x0:Int):BY A D At Ai4 .n 157 AjO [iv x0] [] =
 br (A.eq x0 x0)
 (Θ ((bv Φ,[])))
 (Θ ((bv Δ,[]))):=by kernel_rfl
theorem e84(x0 x1:Int):BY A D At Anz .n 84 Aoo [iv x0,iv x1] [] =
 Af D (ψ 157) [iv x0] [] [.b,.E] λb=>
 br b
 (Af D (ψ 157) [iv x1] [] [.b,.E] λb1=>
 br b1
 (Θ ((iv 0,[])))
 (Θ ((iv (-1),[]))))
 (Af D (ψ 157) [iv x1] [] [.b,.E] λb1=>
 br b1
 (Θ ((iv 1,[])))
 (br (A.lt x0 x1)
 (Θ ((iv (-1),[])))
 (br (A.lt x1 x0)
 (Θ ((iv 1,[])))
 (Θ ((iv 0,[])))))):=by kernel_rfl
theorem Apu(x0_0:Int)(x0_1:Bool)(x0_2:Rw)(x1_0:Int)(x1_1:Bool)(x1_2:Rw):BY A D At AiS .n 137 AjC [ω [iv x0_0,bv x0_1,Ψ x0_2],ω [iv x1_0,bv x1_1,Ψ x1_2]] [] =
 Af D (ψ 84) [iv x0_0,iv x1_0] [] [.i,.E] λn=>
 Θ ((iv n,[])):=by kernel_rfl
theorem Apx(x0_0:Int)(x0_1:Bool)(x0_2:Rw):BY A D At AiV .n 141 AjF [ω [iv x0_0,bv x0_1,Ψ x0_2]] [] =
 Af D (ψ 64) [ω [bv x0_1,Ψ x0_2]] [] [.i,.E] λn=>
 br (A.eq n 0)
 (Θ ((bv Δ,[])))
 (Θ ((bv Φ,[]))):=by kernel_rfl
theorem Apt(n0:Nat)(c0:List AV):BY A D At AiR .n 136 AjB [χ 0 0 n0 3,Ar8 (Fn.func 137) [] []] [{ cells:=c0,st:=Δ,ex:=Δ }] =
 Af D (ψ 196) [χ 0 0 n0 3,iv ↑n0,Ar8 (Fn.func 137) [] []] [δ c0 Δ Δ] [.t,.N,.R,.X,.E] λcs1=>
 Θ ((ι [],[ArU (δ cs1 Δ Δ)])):=by kernel_rfl
theorem ApV(n0:Nat)(c0:List AV)(x1:Int):BY A D At Hd .n 196 Mt [χ 0 0 n0 3,iv x1,Ar8 (Fn.func 137) [] []] [{ cells:=c0,st:=Δ,ex:=Δ }] =
 Af D (ArW 196 0) [χ 0 0 n0 3,iv x1,Ar8 (Fn.func 137) [] [],iv 20,iv 0,iv 20] [δ c0 Δ Δ] [.t,.C,.x,.X,.Y] λc l o=>
 br (Bo 1 c)
 (dk [.C,.q 0 3,.I,.C,.f 137,.I,.I,.N,.R,.X,.E] [.l l,.o o] λn n1 n2 n3 cs1=>
 Af D (ψ 234) [χ 0 0 n 3,iv n3,iv n1,Ar8 (Fn.func 137) [] []] [δ cs1 Δ Δ] [.t,.N,.R,.X,.E] λcs3=>
 Af D (ArW 196 1) [χ 0 0 n 3,iv n1,Ar8 (Fn.func 137) [] [],iv n2] [δ cs3 Δ Δ] [.t,.C,.x,.X,.Y] λc5 l8 o2=>
 br (Bo 3 c5)
 (dk [.C,.q 0 3,.N,.R,.X,.E] [.l l8,.o o2] λ_ cs5=>
 Θ ((ι [],[ArU (δ cs5 Δ Δ)])))
 (Ξ))
 (Ξ):=by kernel_rfl
theorem Abp(n0:Nat)(c0:List AV)(t1 t6 t7 t8:Int):Dy A D At Hd .n 196 0 (AZ Mt 0).fst (AZ Mt 0).snd [χ 0 0 n0 3,iv t1,Ar8 (Fn.func 137) [] [],iv t6,iv t7,iv t8] [{ cells:=c0,st:=Δ,ex:=Δ }] =
 br (A.le t8 t1)
 (Af D (ψ 234) [χ 0 0 n0 3,iv t7,iv t8,Ar8 (Fn.func 137) [] []] [δ c0 Δ Δ] [.t,.N,.R,.X,.E] λcs1=>
 AF D (ArW 196 0) [χ 0 0 n0 3,iv t1,Ar8 (Fn.func 137) [] [],iv t6,iv t8,iv (A.add θ t8 t6)] [δ cs1 Δ Δ] λr1 o1=>
 AW 1 [0] (AH.mk [(0,δ cs1 Δ Δ)] 1 Ξ) [0] r1 o1)
 (Θ ((ι [iv 0,χ 0 0 n0 3,iv t1,Ar8 (Fn.func 137) [] [],iv t6,iv t7],[ArU (δ c0 Δ Δ)]))):=by kernel_rfl
theorem VF(n0:Nat)(c0:List AV)(t1 t6:Int):Dy A D At Hd .n 196 1 (AZ Mt 1).fst (AZ Mt 1).snd [χ 0 0 n0 3,iv t1,Ar8 (Fn.func 137) [] [],iv t6] [{ cells:=c0,st:=Δ,ex:=Δ }] =
 br (A.lt t6 t1)
 (Af D (ArW 196 2) [χ 0 0 n0 3,iv t1,Ar8 (Fn.func 137) [] [],iv t6,iv 0,iv (A.mul θ 2 t6)] [δ c0 Δ Δ] [.t,.C,.x,.X,.Y] λc l o=>
 br (Bo 5 c)
 (dk [.C,.q 0 3,.I,.C,.f 137,.I,.I,.N,.R,.X,.E] [.l l,.o o] λn n1 n2 n3 cs1=>
 br (A.lt (A.add θ n3 n2) n1)
 (Af D (ψ 235) [χ 0 0 n 3,iv n3,iv (A.add θ n3 n2),iv n1,Ar8 (Fn.func 137) [] []] [δ cs1 Δ Δ] [.t,.N,.R,.X,.E] λcs3=>
 AF D (ArW 196 1) [χ 0 0 n 3,iv n1,Ar8 (Fn.func 137) [] [],iv (A.mul θ n2 2)] [δ cs3 Δ Δ] λr2 o2=>
 AW 1 [0] (AH.mk [(0,δ cs3 Δ Δ)] 1 Ξ) [0] r2 o2)
 (AF D (ArW 196 1) [χ 0 0 n 3,iv n1,Ar8 (Fn.func 137) [] [],iv (A.mul θ n2 2)] [δ cs1 Δ Δ] λr1 o1=>
 AW 1 [0] (AH.mk [(0,δ cs1 Δ Δ)] 1 Ξ) [0] r1 o1))
 (Ξ))
 (Θ ((ι [iv 2,χ 0 0 n0 3],[ArU (δ c0 Δ Δ)]))):=by kernel_rfl
theorem Abq(n0:Nat)(c0:List AV)(t1 t6 t7 t8:Int):Dy A D At Hd .n 196 2 (AZ Mt 2).fst (AZ Mt 2).snd [χ 0 0 n0 3,iv t1,Ar8 (Fn.func 137) [] [],iv t6,iv t7,iv t8] [{ cells:=c0,st:=Δ,ex:=Δ }] =
 br (A.le t8 t1)
 (Af D (ψ 235) [χ 0 0 n0 3,iv t7,iv (A.add θ t7 t6),iv t8,Ar8 (Fn.func 137) [] []] [δ c0 Δ Δ] [.t,.N,.R,.X,.E] λcs1=>
 AF D (ArW 196 2) [χ 0 0 n0 3,iv t1,Ar8 (Fn.func 137) [] [],iv t6,iv t8,iv (A.add θ t8 (A.mul θ 2 t6))] [δ cs1 Δ Δ] λr1 o1=>
 AW 1 [0] (AH.mk [(0,δ cs1 Δ Δ)] 1 Ξ) [0] r1 o1)
 (Θ ((ι [iv 4,χ 0 0 n0 3,iv t1,Ar8 (Fn.func 137) [] [],iv t6,iv t7],[ArU (δ c0 Δ Δ)]))):=by kernel_rfl
theorem Am0(n0:Nat)(c0:List AV)(x1 x2:Int):BY A D At HL .n 234 QE [χ 0 0 n0 3,iv x1,iv x2,Ar8 (Fn.func 137) [] []] [{ cells:=c0,st:=Δ,ex:=Δ }] =
 Af D (ArW 234 0) [χ 0 0 n0 3,iv x1,iv x2,Ar8 (Fn.func 137) [] [],iv (A.add θ x1 1)] [δ c0 Δ Δ] [.t,.C,.x,.X,.Y] λc l o=>
 br (Bo 1 c)
 (dk [.C,.q 0 3,.N,.R,.X,.E] [.l l,.o o] λ_ cs1=>
 Θ ((ι [],[ArU (δ cs1 Δ Δ)])))
 (Ξ):=by kernel_rfl
theorem VH(n0:Nat)(c0:List AV)(t1 t2 t8:Int):Dy A D At HL .n 234 0 (AZ QE 0).fst (AZ QE 0).snd [χ 0 0 n0 3,iv t1,iv t2,Ar8 (Fn.func 137) [] [],iv t8] [{ cells:=c0,st:=Δ,ex:=Δ }] =
 br (A.lt t8 t2)
 (Af D (ArW 234 1) [χ 0 0 n0 3,iv t1,iv t2,Ar8 (Fn.func 137) [] [],iv t8,iv t8] [δ c0 Δ Δ] [.t,.C,.x,.X,.Y] λc l o=>
 br (Bo 3 c)
 (dk [.C,.q 0 3,.I,.I,.C,.f 137,.I,.N,.R,.X,.E] [.l l,.o o] λn n1 n2 n3 cs1=>
 AF D (ArW 234 0) [χ 0 0 n 3,iv n1,iv n2,Ar8 (Fn.func 137) [] [],iv (A.add θ n3 1)] [δ cs1 Δ Δ] λr1 o1=>
 AW 1 [0] (AH.mk [(0,δ cs1 Δ Δ)] 1 Ξ) [0] r1 o1)
 (Ξ))
 (Θ ((ι [iv 0,χ 0 0 n0 3],[ArU (δ c0 Δ Δ)]))):=by kernel_rfl
theorem VI(n0:Nat)(c0:List AV)(t1 t2 t8 t9:Int):Dy A D At HL .n 234 1 (AZ QE 1).fst (AZ QE 1).snd [χ 0 0 n0 3,iv t1,iv t2,Ar8 (Fn.func 137) [] [],iv t8,iv t9] [{ cells:=c0,st:=Δ,ex:=Δ }] =
 br (A.lt t1 t9)
 (unI t9 λi=>
 br (i.blt n0) (EX c0 (0+i*3) 3 λcs=>
 dk [.I,.B,.L,.N] [.l cs] λn b xs=>
 unI (A.sub θ t9 1) λi1=>
 br (i1.blt n0) (EX c0 (0+i1*3) 3 λcs1=>
 dk [.I,.B,.L,.N] [.l cs1] λn1 b1 xs1=>
 Af D (ψ 137) [ω [iv n,bv b,Ψ xs],ω [iv n1,bv b1,Ψ xs1]] [] [.i,.E] λn2=>
 br (A.lt n2 0)
 (unI (A.sub θ t9 1) λi2=>
 br (i2.blt n0) (EX c0 (0+i2*3) 3 λcs2=>
 dk [.I,.B,.L,.N] [.l cs2] λn3 b2 xs2=>
 unI t9 λi3=>
 br (i3.blt n0) (EX c0 (0+i3*3) 3 λcs3=>
 dk [.I,.B,.L,.N] [.l cs3] λn4 b3 xs3=>
 unI t9 λi4=>
 br (i4.blt n0) (br ((0+i4*3+3).ble c0.length) (unI (A.sub θ t9 1) λi5=>
 br (i5.blt n0) (br ((0+i5*3+3).ble (AD c0 (0+i4*3) [iv n3,bv b2,Ψ xs2]).length) (AF D (ArW 234 1) [χ 0 0 n0 3,iv t1,iv t2,Ar8 (Fn.func 137) [] [],iv t8,iv (A.sub θ t9 1)] [δ (AD (AD c0 (0+i4*3) [iv n3,bv b2,Ψ xs2]) (0+i5*3) [iv n4,bv b3,Ψ xs3]) Δ Δ] λr1 o1=>
 AW 1 [0] (AH.mk [(0,δ (AD (AD c0 (0+i4*3) [iv n3,bv b2,Ψ xs2]) (0+i5*3) [iv n4,bv b3,Ψ xs3]) Δ Δ)] 1 Ξ) [0] r1 o1) Ξ) Ξ) Ξ) Ξ) Ξ) Ξ)
 (Θ ((ι [iv 2,χ 0 0 n0 3,iv t1,iv t2,Ar8 (Fn.func 137) [] [],iv t8],[ArU (δ c0 Δ Δ)])))) Ξ) Ξ)
 (Θ ((ι [iv 2,χ 0 0 n0 3,iv t1,iv t2,Ar8 (Fn.func 137) [] [],iv t8],[ArU (δ c0 Δ Δ)]))):=by kernel_rfl
theorem Tw(n0:Nat)(c0:List AV)(x1 x2 x3:Int):BY A D At CF .n 235 Hf [χ 0 0 n0 3,iv x1,iv x2,iv x3,Ar8 (Fn.func 137) [] []] [{ cells:=c0,st:=Δ,ex:=Δ }] =
 br (A.eq (A.sub θ x2 x1) 1)
 (Af D (ArW 235 0) [χ 0 0 n0 3,iv x1,Ar8 (Fn.func 137) [] [],iv x2,iv x3] [δ c0 Δ Δ] [.t,.C,.x,.X,.Y] λc l o=>
 br (Bo 1 c)
 (dk [.C,.q 0 3,.I,.I,.N,.R,.X,.E] [.l l,.o o] λn n1 n2 cs1=>
 Af D (ArW 235 1) [χ 0 0 n 3,iv n2,iv n1] [δ cs1 Δ Δ] [.t,.C,.x,.X,.Y] λc3 l5 o1=>
 br (Bo 3 c3)
 (dk [.C,.q 0 3,.N,.R,.X,.E] [.l l5,.o o1] λ_ cs3=>
 Θ ((ι [],[ArU (δ cs3 Δ Δ)])))
 (Ξ))
 (Ξ))
 (br (A.eq (A.sub θ x3 x2) 1)
 (Af D (ArW 235 2) [χ 0 0 n0 3,iv x2,Ar8 (Fn.func 137) [] [],iv x1,iv x2] [δ c0 Δ Δ] [.t,.C,.x,.X,.Y] λc l o=>
 br (Bo 5 c)
 (dk [.C,.q 0 3,.I,.I,.N,.R,.X,.E] [.l l,.o o] λn n1 n2 cs1=>
 Af D (ArW 235 3) [χ 0 0 n 3,iv n2,iv n1] [δ cs1 Δ Δ] [.t,.C,.x,.X,.Y] λc3 l5 o1=>
 br (Bo 7 c3)
 (dk [.C,.q 0 3,.N,.R,.X,.E] [.l l5,.o o1] λ_ cs3=>
 Θ ((ι [],[ArU (δ cs3 Δ Δ)])))
 (Ξ))
 (Ξ))
 (br (A.lt 1 0)
 (Ξ)
 (br (A.lt (A.conv θ (A.shr Ω (A.conv Ω (A.add θ x1 x3)) 1)) x2)
 (Af D (ArW 235 4) [χ 0 0 n0 3,iv x1,iv x2,iv x3,Ar8 (Fn.func 137) [] [],iv (A.conv θ (A.shr Ω (A.conv Ω (A.add θ x1 x3)) 1)),iv (A.add θ (A.conv θ (A.shr Ω (A.conv Ω (A.add θ x1 x3)) 1)) x2),iv (A.sub θ (A.add θ (A.conv θ (A.shr Ω (A.conv Ω (A.add θ x1 x3)) 1)) x2) x3),iv (A.conv θ (A.shr Ω (A.conv Ω (A.add θ x1 x3)) 1)),iv (A.sub θ (A.add θ (A.conv θ (A.shr Ω (A.conv Ω (A.add θ x1 x3)) 1)) x2) 1)] [δ c0 Δ Δ] [.t,.C,.x,.X,.Y] λc l o=>
 br (Bo 9 c)
 (dk [.C,.q 0 3,.I,.I,.I,.C,.f 137,.I,.I,.I,.N,.R,.X,.E] [.l l,.o o] λn n1 n2 n3 n4 n5 n6 cs1=>
 br (A.lt n6 n2)
 (br (A.lt n2 (A.sub θ n5 n6))
 (Af D (ψ 265) [χ 0 0 n 3,iv n6,iv n2,iv (A.sub θ n5 n6),Ar8 (Fn.func 137) [] []] [δ cs1 Δ Δ] [.t,.N,.R,.X,.E] λcs3=>
 br (A.lt n1 n6)
 (br (A.lt n6 n4)
 (Af D (ψ 235) [χ 0 0 n 3,iv n1,iv n6,iv n4,Ar8 (Fn.func 137) [] []] [δ cs3 Δ Δ] [.t,.N,.R,.X,.E] λcs5=>
 br (A.lt n4 (A.sub θ n5 n6))
 (br (A.lt (A.sub θ n5 n6) n3)
 (Af D (ψ 235) [χ 0 0 n 3,iv n4,iv (A.sub θ n5 n6),iv n3,Ar8 (Fn.func 137) [] []] [δ cs5 Δ Δ] [.t,.N,.R,.X,.E] λcs7=>
 Θ ((ι [],[ArU (δ cs7 Δ Δ)])))
 (Θ ((ι [],[ArU (δ cs5 Δ Δ)]))))
 (Θ ((ι [],[ArU (δ cs5 Δ Δ)]))))
 (br (A.lt n4 (A.sub θ n5 n6))
 (br (A.lt (A.sub θ n5 n6) n3)
 (Af D (ψ 235) [χ 0 0 n 3,iv n4,iv (A.sub θ n5 n6),iv n3,Ar8 (Fn.func 137) [] []] [δ cs3 Δ Δ] [.t,.N,.R,.X,.E] λcs5=>
 Θ ((ι [],[ArU (δ cs5 Δ Δ)])))
 (Θ ((ι [],[ArU (δ cs3 Δ Δ)]))))
 (Θ ((ι [],[ArU (δ cs3 Δ Δ)])))))
 (br (A.lt n4 (A.sub θ n5 n6))
 (br (A.lt (A.sub θ n5 n6) n3)
 (Af D (ψ 235) [χ 0 0 n 3,iv n4,iv (A.sub θ n5 n6),iv n3,Ar8 (Fn.func 137) [] []] [δ cs3 Δ Δ] [.t,.N,.R,.X,.E] λcs5=>
 Θ ((ι [],[ArU (δ cs5 Δ Δ)])))
 (Θ ((ι [],[ArU (δ cs3 Δ Δ)]))))
 (Θ ((ι [],[ArU (δ cs3 Δ Δ)])))))
 (br (A.lt n1 n6)
 (br (A.lt n6 n4)
 (Af D (ψ 235) [χ 0 0 n 3,iv n1,iv n6,iv n4,Ar8 (Fn.func 137) [] []] [δ cs1 Δ Δ] [.t,.N,.R,.X,.E] λcs3=>
 br (A.lt n4 (A.sub θ n5 n6))
 (br (A.lt (A.sub θ n5 n6) n3)
 (Af D (ψ 235) [χ 0 0 n 3,iv n4,iv (A.sub θ n5 n6),iv n3,Ar8 (Fn.func 137) [] []] [δ cs3 Δ Δ] [.t,.N,.R,.X,.E] λcs5=>
 Θ ((ι [],[ArU (δ cs5 Δ Δ)])))
 (Θ ((ι [],[ArU (δ cs3 Δ Δ)]))))
 (Θ ((ι [],[ArU (δ cs3 Δ Δ)]))))
 (br (A.lt n4 (A.sub θ n5 n6))
 (br (A.lt (A.sub θ n5 n6) n3)
 (Af D (ψ 235) [χ 0 0 n 3,iv n4,iv (A.sub θ n5 n6),iv n3,Ar8 (Fn.func 137) [] []] [δ cs1 Δ Δ] [.t,.N,.R,.X,.E] λcs3=>
 Θ ((ι [],[ArU (δ cs3 Δ Δ)])))
 (Θ ((ι [],[ArU (δ cs1 Δ Δ)]))))
 (Θ ((ι [],[ArU (δ cs1 Δ Δ)])))))
 (br (A.lt n4 (A.sub θ n5 n6))
 (br (A.lt (A.sub θ n5 n6) n3)
 (Af D (ψ 235) [χ 0 0 n 3,iv n4,iv (A.sub θ n5 n6),iv n3,Ar8 (Fn.func 137) [] []] [δ cs1 Δ Δ] [.t,.N,.R,.X,.E] λcs3=>
 Θ ((ι [],[ArU (δ cs3 Δ Δ)])))
 (Θ ((ι [],[ArU (δ cs1 Δ Δ)]))))
 (Θ ((ι [],[ArU (δ cs1 Δ Δ)]))))))
 (br (A.lt n1 n6)
 (br (A.lt n6 n4)
 (Af D (ψ 235) [χ 0 0 n 3,iv n1,iv n6,iv n4,Ar8 (Fn.func 137) [] []] [δ cs1 Δ Δ] [.t,.N,.R,.X,.E] λcs3=>
 br (A.lt n4 (A.sub θ n5 n6))
 (br (A.lt (A.sub θ n5 n6) n3)
 (Af D (ψ 235) [χ 0 0 n 3,iv n4,iv (A.sub θ n5 n6),iv n3,Ar8 (Fn.func 137) [] []] [δ cs3 Δ Δ] [.t,.N,.R,.X,.E] λcs5=>
 Θ ((ι [],[ArU (δ cs5 Δ Δ)])))
 (Θ ((ι [],[ArU (δ cs3 Δ Δ)]))))
 (Θ ((ι [],[ArU (δ cs3 Δ Δ)]))))
 (br (A.lt n4 (A.sub θ n5 n6))
 (br (A.lt (A.sub θ n5 n6) n3)
 (Af D (ψ 235) [χ 0 0 n 3,iv n4,iv (A.sub θ n5 n6),iv n3,Ar8 (Fn.func 137) [] []] [δ cs1 Δ Δ] [.t,.N,.R,.X,.E] λcs3=>
 Θ ((ι [],[ArU (δ cs3 Δ Δ)])))
 (Θ ((ι [],[ArU (δ cs1 Δ Δ)]))))
 (Θ ((ι [],[ArU (δ cs1 Δ Δ)])))))
 (br (A.lt n4 (A.sub θ n5 n6))
 (br (A.lt (A.sub θ n5 n6) n3)
 (Af D (ψ 235) [χ 0 0 n 3,iv n4,iv (A.sub θ n5 n6),iv n3,Ar8 (Fn.func 137) [] []] [δ cs1 Δ Δ] [.t,.N,.R,.X,.E] λcs3=>
 Θ ((ι [],[ArU (δ cs3 Δ Δ)])))
 (Θ ((ι [],[ArU (δ cs1 Δ Δ)]))))
 (Θ ((ι [],[ArU (δ cs1 Δ Δ)]))))))
 (Ξ))
 (Af D (ArW 235 4) [χ 0 0 n0 3,iv x1,iv x2,iv x3,Ar8 (Fn.func 137) [] [],iv (A.conv θ (A.shr Ω (A.conv Ω (A.add θ x1 x3)) 1)),iv (A.add θ (A.conv θ (A.shr Ω (A.conv Ω (A.add θ x1 x3)) 1)) x2),iv x1,iv x2,iv (A.sub θ (A.add θ (A.conv θ (A.shr Ω (A.conv Ω (A.add θ x1 x3)) 1)) x2) 1)] [δ c0 Δ Δ] [.t,.C,.x,.X,.Y] λc l o=>
 br (Bo 9 c)
 (dk [.C,.q 0 3,.I,.I,.I,.C,.f 137,.I,.I,.I,.N,.R,.X,.E] [.l l,.o o] λn n1 n2 n3 n4 n5 n6 cs1=>
 br (A.lt n6 n2)
 (br (A.lt n2 (A.sub θ n5 n6))
 (Af D (ψ 265) [χ 0 0 n 3,iv n6,iv n2,iv (A.sub θ n5 n6),Ar8 (Fn.func 137) [] []] [δ cs1 Δ Δ] [.t,.N,.R,.X,.E] λcs3=>
 br (A.lt n1 n6)
 (br (A.lt n6 n4)
 (Af D (ψ 235) [χ 0 0 n 3,iv n1,iv n6,iv n4,Ar8 (Fn.func 137) [] []] [δ cs3 Δ Δ] [.t,.N,.R,.X,.E] λcs5=>
 br (A.lt n4 (A.sub θ n5 n6))
 (br (A.lt (A.sub θ n5 n6) n3)
 (Af D (ψ 235) [χ 0 0 n 3,iv n4,iv (A.sub θ n5 n6),iv n3,Ar8 (Fn.func 137) [] []] [δ cs5 Δ Δ] [.t,.N,.R,.X,.E] λcs7=>
 Θ ((ι [],[ArU (δ cs7 Δ Δ)])))
 (Θ ((ι [],[ArU (δ cs5 Δ Δ)]))))
 (Θ ((ι [],[ArU (δ cs5 Δ Δ)]))))
 (br (A.lt n4 (A.sub θ n5 n6))
 (br (A.lt (A.sub θ n5 n6) n3)
 (Af D (ψ 235) [χ 0 0 n 3,iv n4,iv (A.sub θ n5 n6),iv n3,Ar8 (Fn.func 137) [] []] [δ cs3 Δ Δ] [.t,.N,.R,.X,.E] λcs5=>
 Θ ((ι [],[ArU (δ cs5 Δ Δ)])))
 (Θ ((ι [],[ArU (δ cs3 Δ Δ)]))))
 (Θ ((ι [],[ArU (δ cs3 Δ Δ)])))))
 (br (A.lt n4 (A.sub θ n5 n6))
 (br (A.lt (A.sub θ n5 n6) n3)
 (Af D (ψ 235) [χ 0 0 n 3,iv n4,iv (A.sub θ n5 n6),iv n3,Ar8 (Fn.func 137) [] []] [δ cs3 Δ Δ] [.t,.N,.R,.X,.E] λcs5=>
 Θ ((ι [],[ArU (δ cs5 Δ Δ)])))
 (Θ ((ι [],[ArU (δ cs3 Δ Δ)]))))
 (Θ ((ι [],[ArU (δ cs3 Δ Δ)])))))
 (br (A.lt n1 n6)
 (br (A.lt n6 n4)
 (Af D (ψ 235) [χ 0 0 n 3,iv n1,iv n6,iv n4,Ar8 (Fn.func 137) [] []] [δ cs1 Δ Δ] [.t,.N,.R,.X,.E] λcs3=>
 br (A.lt n4 (A.sub θ n5 n6))
 (br (A.lt (A.sub θ n5 n6) n3)
 (Af D (ψ 235) [χ 0 0 n 3,iv n4,iv (A.sub θ n5 n6),iv n3,Ar8 (Fn.func 137) [] []] [δ cs3 Δ Δ] [.t,.N,.R,.X,.E] λcs5=>
 Θ ((ι [],[ArU (δ cs5 Δ Δ)])))
 (Θ ((ι [],[ArU (δ cs3 Δ Δ)]))))
 (Θ ((ι [],[ArU (δ cs3 Δ Δ)]))))
 (br (A.lt n4 (A.sub θ n5 n6))
 (br (A.lt (A.sub θ n5 n6) n3)
 (Af D (ψ 235) [χ 0 0 n 3,iv n4,iv (A.sub θ n5 n6),iv n3,Ar8 (Fn.func 137) [] []] [δ cs1 Δ Δ] [.t,.N,.R,.X,.E] λcs3=>
 Θ ((ι [],[ArU (δ cs3 Δ Δ)])))
 (Θ ((ι [],[ArU (δ cs1 Δ Δ)]))))
 (Θ ((ι [],[ArU (δ cs1 Δ Δ)])))))
 (br (A.lt n4 (A.sub θ n5 n6))
 (br (A.lt (A.sub θ n5 n6) n3)
 (Af D (ψ 235) [χ 0 0 n 3,iv n4,iv (A.sub θ n5 n6),iv n3,Ar8 (Fn.func 137) [] []] [δ cs1 Δ Δ] [.t,.N,.R,.X,.E] λcs3=>
 Θ ((ι [],[ArU (δ cs3 Δ Δ)])))
 (Θ ((ι [],[ArU (δ cs1 Δ Δ)]))))
 (Θ ((ι [],[ArU (δ cs1 Δ Δ)]))))))
 (br (A.lt n1 n6)
 (br (A.lt n6 n4)
 (Af D (ψ 235) [χ 0 0 n 3,iv n1,iv n6,iv n4,Ar8 (Fn.func 137) [] []] [δ cs1 Δ Δ] [.t,.N,.R,.X,.E] λcs3=>
 br (A.lt n4 (A.sub θ n5 n6))
 (br (A.lt (A.sub θ n5 n6) n3)
 (Af D (ψ 235) [χ 0 0 n 3,iv n4,iv (A.sub θ n5 n6),iv n3,Ar8 (Fn.func 137) [] []] [δ cs3 Δ Δ] [.t,.N,.R,.X,.E] λcs5=>
 Θ ((ι [],[ArU (δ cs5 Δ Δ)])))
 (Θ ((ι [],[ArU (δ cs3 Δ Δ)]))))
 (Θ ((ι [],[ArU (δ cs3 Δ Δ)]))))
 (br (A.lt n4 (A.sub θ n5 n6))
 (br (A.lt (A.sub θ n5 n6) n3)
 (Af D (ψ 235) [χ 0 0 n 3,iv n4,iv (A.sub θ n5 n6),iv n3,Ar8 (Fn.func 137) [] []] [δ cs1 Δ Δ] [.t,.N,.R,.X,.E] λcs3=>
 Θ ((ι [],[ArU (δ cs3 Δ Δ)])))
 (Θ ((ι [],[ArU (δ cs1 Δ Δ)]))))
 (Θ ((ι [],[ArU (δ cs1 Δ Δ)])))))
 (br (A.lt n4 (A.sub θ n5 n6))
 (br (A.lt (A.sub θ n5 n6) n3)
 (Af D (ψ 235) [χ 0 0 n 3,iv n4,iv (A.sub θ n5 n6),iv n3,Ar8 (Fn.func 137) [] []] [δ cs1 Δ Δ] [.t,.N,.R,.X,.E] λcs3=>
 Θ ((ι [],[ArU (δ cs3 Δ Δ)])))
 (Θ ((ι [],[ArU (δ cs1 Δ Δ)]))))
 (Θ ((ι [],[ArU (δ cs1 Δ Δ)]))))))
 (Ξ))))):=by kernel_rfl
theorem VJ(n0:Nat)(c0:List AV)(t1 t10 t11:Int):Dy A D At CF .n 235 0 (AZ Hf 0).fst (AZ Hf 0).snd [χ 0 0 n0 3,iv t1,Ar8 (Fn.func 137) [] [],iv t10,iv t11] [{ cells:=c0,st:=Δ,ex:=Δ }] =
 br (A.lt t10 t11)
 (br (A.lt 1 0)
 (Ξ)
 (unI (A.conv θ (A.shr Ω (A.conv Ω (A.add θ t10 t11)) 1)) λi=>
 br (i.blt n0) (EX c0 (0+i*3) 3 λcs=>
 dk [.I,.B,.L,.N] [.l cs] λn b xs=>
 unI t1 λi1=>
 br (i1.blt n0) (EX c0 (0+i1*3) 3 λcs1=>
 dk [.I,.B,.L,.N] [.l cs1] λn1 b1 xs1=>
 Af D (ψ 137) [ω [iv n,bv b,Ψ xs],ω [iv n1,bv b1,Ψ xs1]] [] [.i,.E] λn2=>
 br (A.lt n2 0)
 (AF D (ArW 235 0) [χ 0 0 n0 3,iv t1,Ar8 (Fn.func 137) [] [],iv (A.add θ (A.conv θ (A.shr Ω (A.conv Ω (A.add θ t10 t11)) 1)) 1),iv t11] [δ c0 Δ Δ] λr1 o1=>
 AW 1 [0] (AH.mk [(0,δ c0 Δ Δ)] 1 Ξ) [] r1 o1)
 (AF D (ArW 235 0) [χ 0 0 n0 3,iv t1,Ar8 (Fn.func 137) [] [],iv t10,iv (A.conv θ (A.shr Ω (A.conv Ω (A.add θ t10 t11)) 1))] [δ c0 Δ Δ] λr1 o1=>
 AW 1 [0] (AH.mk [(0,δ c0 Δ Δ)] 1 Ξ) [] r1 o1)) Ξ) Ξ))
 (Θ ((ι [iv 0,χ 0 0 n0 3,iv t1,iv t10],[ArU (δ c0 Δ Δ)]))):=by kernel_rfl
theorem AbA(n0:Nat)(c0:List AV)(t10 t13:Int):Dy A D At CF .n 235 1 (AZ Hf 1).fst (AZ Hf 1).snd [χ 0 0 n0 3,iv t10,iv t13] [{ cells:=c0,st:=Δ,ex:=Δ }] =
 br (A.lt t13 (A.sub θ t10 1))
 (unI (A.add θ t13 1) λi=>
 br (i.blt n0) (EX c0 (0+i*3) 3 λcs=>
 dk [.I,.B,.L,.N] [.l cs] λn b xs=>
 unI t13 λi1=>
 br (i1.blt n0) (EX c0 (0+i1*3) 3 λcs1=>
 dk [.I,.B,.L,.N] [.l cs1] λn1 b1 xs1=>
 unI t13 λi2=>
 br (i2.blt n0) (br ((0+i2*3+3).ble c0.length) (unI (A.add θ t13 1) λi3=>
 br (i3.blt n0) (br ((0+i3*3+3).ble (AD c0 (0+i2*3) [iv n,bv b,Ψ xs]).length) (AF D (ArW 235 1) [χ 0 0 n0 3,iv t10,iv (A.add θ t13 1)] [δ (AD (AD c0 (0+i2*3) [iv n,bv b,Ψ xs]) (0+i3*3) [iv n1,bv b1,Ψ xs1]) Δ Δ] λr o=>
 AW 1 [0] (AH.mk [(0,δ (AD (AD c0 (0+i2*3) [iv n,bv b,Ψ xs]) (0+i3*3) [iv n1,bv b1,Ψ xs1]) Δ Δ)] 1 Ξ) [0] r o) Ξ) Ξ) Ξ) Ξ) Ξ) Ξ)
 (Θ ((ι [iv 2,χ 0 0 n0 3],[ArU (δ c0 Δ Δ)]))):=by kernel_rfl
theorem VK(n0:Nat)(c0:List AV)(t2 t14 t15:Int):Dy A D At CF .n 235 2 (AZ Hf 2).fst (AZ Hf 2).snd [χ 0 0 n0 3,iv t2,Ar8 (Fn.func 137) [] [],iv t14,iv t15] [{ cells:=c0,st:=Δ,ex:=Δ }] =
 br (A.lt t14 t15)
 (br (A.lt 1 0)
 (Ξ)
 (unI t2 λi=>
 br (i.blt n0) (EX c0 (0+i*3) 3 λcs=>
 dk [.I,.B,.L,.N] [.l cs] λn b xs=>
 unI (A.conv θ (A.shr Ω (A.conv Ω (A.add θ t14 t15)) 1)) λi1=>
 br (i1.blt n0) (EX c0 (0+i1*3) 3 λcs1=>
 dk [.I,.B,.L,.N] [.l cs1] λn1 b1 xs1=>
 Af D (ψ 137) [ω [iv n,bv b,Ψ xs],ω [iv n1,bv b1,Ψ xs1]] [] [.i,.E] λn2=>
 br (A.lt n2 0)
 (AF D (ArW 235 2) [χ 0 0 n0 3,iv t2,Ar8 (Fn.func 137) [] [],iv t14,iv (A.conv θ (A.shr Ω (A.conv Ω (A.add θ t14 t15)) 1))] [δ c0 Δ Δ] λr1 o1=>
 AW 1 [0] (AH.mk [(0,δ c0 Δ Δ)] 1 Ξ) [] r1 o1)
 (AF D (ArW 235 2) [χ 0 0 n0 3,iv t2,Ar8 (Fn.func 137) [] [],iv (A.add θ (A.conv θ (A.shr Ω (A.conv Ω (A.add θ t14 t15)) 1)) 1),iv t15] [δ c0 Δ Δ] λr1 o1=>
 AW 1 [0] (AH.mk [(0,δ c0 Δ Δ)] 1 Ξ) [] r1 o1)) Ξ) Ξ))
 (Θ ((ι [iv 4,χ 0 0 n0 3,iv t2,iv t14],[ArU (δ c0 Δ Δ)]))):=by kernel_rfl
theorem AbB(n0:Nat)(c0:List AV)(t14 t17:Int):Dy A D At CF .n 235 3 (AZ Hf 3).fst (AZ Hf 3).snd [χ 0 0 n0 3,iv t14,iv t17] [{ cells:=c0,st:=Δ,ex:=Δ }] =
 br (A.lt t14 t17)
 (unI (A.sub θ t17 1) λi=>
 br (i.blt n0) (EX c0 (0+i*3) 3 λcs=>
 dk [.I,.B,.L,.N] [.l cs] λn b xs=>
 unI t17 λi1=>
 br (i1.blt n0) (EX c0 (0+i1*3) 3 λcs1=>
 dk [.I,.B,.L,.N] [.l cs1] λn1 b1 xs1=>
 unI t17 λi2=>
 br (i2.blt n0) (br ((0+i2*3+3).ble c0.length) (unI (A.sub θ t17 1) λi3=>
 br (i3.blt n0) (br ((0+i3*3+3).ble (AD c0 (0+i2*3) [iv n,bv b,Ψ xs]).length) (AF D (ArW 235 3) [χ 0 0 n0 3,iv t14,iv (A.sub θ t17 1)] [δ (AD (AD c0 (0+i2*3) [iv n,bv b,Ψ xs]) (0+i3*3) [iv n1,bv b1,Ψ xs1]) Δ Δ] λr o=>
 AW 1 [0] (AH.mk [(0,δ (AD (AD c0 (0+i2*3) [iv n,bv b,Ψ xs]) (0+i3*3) [iv n1,bv b1,Ψ xs1]) Δ Δ)] 1 Ξ) [0] r o) Ξ) Ξ) Ξ) Ξ) Ξ) Ξ)
 (Θ ((ι [iv 6,χ 0 0 n0 3],[ArU (δ c0 Δ Δ)]))):=by kernel_rfl
theorem VL(n0:Nat)(c0:List AV)(t1 t2 t3 t18 t19 t20 t21 t22:Int):Dy A D At CF .n 235 4 (AZ Hf 4).fst (AZ Hf 4).snd [χ 0 0 n0 3,iv t1,iv t2,iv t3,Ar8 (Fn.func 137) [] [],iv t18,iv t19,iv t20,iv t21,iv t22] [{ cells:=c0,st:=Δ,ex:=Δ }] =
 br (A.lt t20 t21)
 (br (A.lt 1 0)
 (Ξ)
 (unI (A.sub θ t22 (A.conv θ (A.shr Ω (A.conv Ω (A.add θ t20 t21)) 1))) λi=>
 br (i.blt n0) (EX c0 (0+i*3) 3 λcs=>
 dk [.I,.B,.L,.N] [.l cs] λn b xs=>
 unI (A.conv θ (A.shr Ω (A.conv Ω (A.add θ t20 t21)) 1)) λi1=>
 br (i1.blt n0) (EX c0 (0+i1*3) 3 λcs1=>
 dk [.I,.B,.L,.N] [.l cs1] λn1 b1 xs1=>
 Af D (ψ 137) [ω [iv n,bv b,Ψ xs],ω [iv n1,bv b1,Ψ xs1]] [] [.i,.E] λn2=>
 br (A.lt n2 0)
 (AF D (ArW 235 4) [χ 0 0 n0 3,iv t1,iv t2,iv t3,Ar8 (Fn.func 137) [] [],iv t18,iv t19,iv t20,iv (A.conv θ (A.shr Ω (A.conv Ω (A.add θ t20 t21)) 1)),iv t22] [δ c0 Δ Δ] λr1 o1=>
 AW 1 [0] (AH.mk [(0,δ c0 Δ Δ)] 1 Ξ) [] r1 o1)
 (AF D (ArW 235 4) [χ 0 0 n0 3,iv t1,iv t2,iv t3,Ar8 (Fn.func 137) [] [],iv t18,iv t19,iv (A.add θ (A.conv θ (A.shr Ω (A.conv Ω (A.add θ t20 t21)) 1)) 1),iv t21,iv t22] [δ c0 Δ Δ] λr1 o1=>
 AW 1 [0] (AH.mk [(0,δ c0 Δ Δ)] 1 Ξ) [] r1 o1)) Ξ) Ξ))
 (Θ ((ι [iv 8,χ 0 0 n0 3,iv t1,iv t2,iv t3,Ar8 (Fn.func 137) [] [],iv t18,iv t19,iv t20],[ArU (δ c0 Δ Δ)]))):=by kernel_rfl
theorem Aqa(n0:Nat)(c0:List AV)(x1 x2 x3:Int):BY A D At Qs .n 265 XX [χ 0 0 n0 3,iv x1,iv x2,iv x3,Ar8 (Fn.func 137) [] []] [{ cells:=c0,st:=Δ,ex:=Δ }] =
 Af D (ArW 265 0) [χ 0 0 n0 3,iv x2,Ar8 (Fn.func 137) [] [],iv (A.sub θ x2 x1),iv (A.sub θ x3 x2)] [δ c0 Δ Δ] [.t,.C,.x,.X,.Y] λc l o=>
 br (Bo 1 c)
 (dk [.C,.q 0 3,.I,.C,.f 137,.I,.N,.R,.X,.E] [.l l,.o o] λn n1 n2 cs1=>
 Af D (ψ 275) [χ 0 0 n 3,iv (A.sub θ n1 n2),iv n1,iv n2,Ar8 (Fn.func 137) [] []] [δ cs1 Δ Δ] [.t,.N,.R,.X,.E] λcs3=>
 Θ ((ι [],[ArU (δ cs3 Δ Δ)])))
 (Ξ):=by kernel_rfl
theorem VM(n0:Nat)(c0:List AV)(t2 t10 t11:Int):Dy A D At Qs .n 265 0 (AZ XX 0).fst (AZ XX 0).snd [χ 0 0 n0 3,iv t2,Ar8 (Fn.func 137) [] [],iv t10,iv t11] [{ cells:=c0,st:=Δ,ex:=Δ }] =
 br (A.eq t10 t11)
 (Θ ((ι [iv 0,χ 0 0 n0 3,iv t2,Ar8 (Fn.func 137) [] [],iv t10],[ArU (δ c0 Δ Δ)])))
 (br (A.lt t11 t10)
 (Af D (ψ 275) [χ 0 0 n0 3,iv (A.sub θ t2 t10),iv t2,iv t11,Ar8 (Fn.func 137) [] []] [δ c0 Δ Δ] [.t,.N,.R,.X,.E] λcs1=>
 AF D (ArW 265 0) [χ 0 0 n0 3,iv t2,Ar8 (Fn.func 137) [] [],iv (A.sub θ t10 t11),iv t11] [δ cs1 Δ Δ] λr1 o1=>
 AW 1 [0] (AH.mk [(0,δ cs1 Δ Δ)] 1 Ξ) [0] r1 o1)
 (Af D (ψ 275) [χ 0 0 n0 3,iv (A.sub θ t2 t10),iv (A.sub θ (A.add θ t2 t11) t10),iv t10,Ar8 (Fn.func 137) [] []] [δ c0 Δ Δ] [.t,.N,.R,.X,.E] λcs1=>
 AF D (ArW 265 0) [χ 0 0 n0 3,iv t2,Ar8 (Fn.func 137) [] [],iv t10,iv (A.sub θ t11 t10)] [δ cs1 Δ Δ] λr1 o1=>
 AW 1 [0] (AH.mk [(0,δ cs1 Δ Δ)] 1 Ξ) [0] r1 o1)):=by kernel_rfl
theorem Aqb(n0:Nat)(c0:List AV)(x1 x2 x3:Int):BY A D At TZ .n 275 XY [χ 0 0 n0 3,iv x1,iv x2,iv x3,Ar8 (Fn.func 137) [] []] [{ cells:=c0,st:=Δ,ex:=Δ }] =
 Af D (ArW 275 0) [χ 0 0 n0 3,iv x1,iv x2,iv x3,iv 0] [δ c0 Δ Δ] [.t,.C,.x,.X,.Y] λc l o=>
 br (Bo 1 c)
 (dk [.C,.q 0 3,.N,.R,.X,.E] [.l l,.o o] λ_ cs1=>
 Θ ((ι [],[ArU (δ cs1 Δ Δ)])))
 (Ξ):=by kernel_rfl
theorem AbE(n0:Nat)(c0:List AV)(t1 t2 t3 t10:Int):Dy A D At TZ .n 275 0 (AZ XY 0).fst (AZ XY 0).snd [χ 0 0 n0 3,iv t1,iv t2,iv t3,iv t10] [{ cells:=c0,st:=Δ,ex:=Δ }] =
 br (A.lt t10 t3)
 (unI (A.add θ t2 t10) λi=>
 br (i.blt n0) (EX c0 (0+i*3) 3 λcs=>
 dk [.I,.B,.L,.N] [.l cs] λn b xs=>
 unI (A.add θ t1 t10) λi1=>
 br (i1.blt n0) (EX c0 (0+i1*3) 3 λcs1=>
 dk [.I,.B,.L,.N] [.l cs1] λn1 b1 xs1=>
 unI (A.add θ t1 t10) λi2=>
 br (i2.blt n0) (br ((0+i2*3+3).ble c0.length) (unI (A.add θ t2 t10) λi3=>
 br (i3.blt n0) (br ((0+i3*3+3).ble (AD c0 (0+i2*3) [iv n,bv b,Ψ xs]).length) (AF D (ArW 275 0) [χ 0 0 n0 3,iv t1,iv t2,iv t3,iv (A.add θ t10 1)] [δ (AD (AD c0 (0+i2*3) [iv n,bv b,Ψ xs]) (0+i3*3) [iv n1,bv b1,Ψ xs1]) Δ Δ] λr o=>
 AW 1 [0] (AH.mk [(0,δ (AD (AD c0 (0+i2*3) [iv n,bv b,Ψ xs]) (0+i3*3) [iv n1,bv b1,Ψ xs1]) Δ Δ)] 1 Ξ) [0] r o) Ξ) Ξ) Ξ) Ξ) Ξ) Ξ)
 (Θ ((ι [iv 0,χ 0 0 n0 3],[ArU (δ c0 Δ Δ)]))):=by kernel_rfl
theorem AmP(n0:Nat)(c0:List AV):BY A D At Om .n 140 XK [χ 0 0 n0 3,Ar8 (Fn.func 141) [] []] [{ cells:=c0,st:=Δ,ex:=Δ }] =
 Af D (ψ 199) [χ 0 0 n0 3,Ar8 (Fn.func 141) [] []] [δ c0 Δ Δ] [.i,.R,.X,.E] λn cs=>
 br (A.eq n (-1))
 (Θ ((χ 0 0 n0 3,[ArU (δ cs Δ Δ)])))
 (Af D (ArW 140 0) [χ 0 0 n0 3,Ar8 (Fn.func 141) [] [],iv n,iv (A.add θ n 1)] [δ cs Δ Δ] [.t,.C,.x,.X,.Y] λc1 l1 o1=>
 br (Bo 1 c1)
 (dk [.C,.q 0 3,.I,.N,.R,.X,.E] [.l l1,.o o1] λn1 n2 cs2=>
 unI n2 λi=>
 br (IJ i n1 n1) (br ((0+i*3+(n1-i)*3).ble cs2.length) (unI n2 λi1=>
 br (IJ 0 i1 n1) (Θ ((χ 0 0 i1 3,[ArU (δ (AD cs2 (0+i*3) (BQ [iv 0,bv Φ,AV.v (Value.slice Ξ 0 0)] ((n1-i)*3))) Δ Δ)]))) Ξ) Ξ) Ξ)
 (Ξ)):=by kernel_rfl
theorem VE(n0:Nat)(c0:List AV)(t5 t6:Int):Dy A D At Om .n 140 0 (AZ XK 0).fst (AZ XK 0).snd [χ 0 0 n0 3,Ar8 (Fn.func 141) [] [],iv t5,iv t6] [{ cells:=c0,st:=Δ,ex:=Δ }] =
 br (A.lt t6 ↑n0)
 (unI t6 λi=>
 br (i.blt n0) (EX c0 (0+i*3) 3 λcs=>
 dk [.I,.B,.L,.N] [.l cs] λn b xs=>
 Af D (ψ 141) [ω [iv n,bv b,Ψ xs]] [] [.b,.E] λb1=>
 br b1
 (AF D (ArW 140 0) [χ 0 0 n0 3,Ar8 (Fn.func 141) [] [],iv t5,iv (A.add θ t6 1)] [δ c0 Δ Δ] λr1 o1=>
 AW 1 [0] (AH.mk [(1,bk [iv n,bv b,Ψ xs]),(0,δ c0 Δ Δ)] 2 Ξ) [] r1 o1)
 (unI t5 λi1=>
 br (i1.blt n0) (br ((0+i1*3+3).ble c0.length) (AF D (ArW 140 0) [χ 0 0 n0 3,Ar8 (Fn.func 141) [] [],iv (A.add θ t5 1),iv (A.add θ t6 1)] [δ (AD c0 (0+i1*3) [iv n,bv b,Ψ xs]) Δ Δ] λr1 o1=>
 AW 1 [0] (AH.mk [(0,δ (AD c0 (0+i1*3) [iv n,bv b,Ψ xs]) Δ Δ),(1,bk [iv n,bv b,Ψ xs])] 2 Ξ) [0] r1 o1) Ξ) Ξ)) Ξ)
 (Θ ((ι [iv 0,χ 0 0 n0 3,iv t5],[ArU (δ c0 Δ Δ)]))):=by kernel_rfl
theorem ApY(n0:Nat)(c0:List AV):BY A D At On .n 199 XQ [χ 0 0 n0 3,Ar8 (Fn.func 141) [] []] [{ cells:=c0,st:=Δ,ex:=Δ }] =
 Af D (ArW 199 0) [χ 0 0 n0 3,Ar8 (Fn.func 141) [] [],iv ↑n0,iv 0] [δ c0 Δ Δ] [.t,.C,.x,.X,.Y] λc l o=>
 br (Bo 0 c)
 (dk [.C,.q 0 3,.I,.N,.R,.X,.E] [.l l,.o o] λ_ n1 cs1=>
 Θ ((iv n1,[ArU (δ cs1 Δ Δ)])))
 (br (Bo 1 c)
 (dk [.C,.q 0 3,.N,.R,.X,.E] [.l l,.o o] λ_ cs1=>
 Θ ((iv (-1),[ArU (δ cs1 Δ Δ)])))
 (Ξ)):=by kernel_rfl
theorem RD(n0:Nat)(c0:List AV)(t7 t8:Int):Dy A D At On .n 199 0 (AZ XQ 0).fst (AZ XQ 0).snd [χ 0 0 n0 3,Ar8 (Fn.func 141) [] [],iv t7,iv t8] [{ cells:=c0,st:=Δ,ex:=Δ }] =
 br (A.lt t8 t7)
 (unI t8 λi=>
 br (i.blt n0) (EX c0 (0+i*3) 3 λcs=>
 dk [.I,.B,.L,.N] [.l cs] λn b xs=>
 Af D (ψ 141) [ω [iv n,bv b,Ψ xs]] [] [.b,.E] λb1=>
 br b1
 (Θ ((ι [bv Δ,χ 0 0 n0 3,iv t8],[ArU (δ c0 Δ Δ)])))
 (AF D (ArW 199 0) [χ 0 0 n0 3,Ar8 (Fn.func 141) [] [],iv t7,iv (A.add θ t8 1)] [δ c0 Δ Δ] λr1 o1=>
 AW 1 [0] (AH.mk [(0,δ c0 Δ Δ)] 1 Ξ) [] r1 o1)) Ξ)
 (Θ ((ι [iv 0,χ 0 0 n0 3],[ArU (δ c0 Δ Δ)]))):=by kernel_rfl
end
section
open Go.RowKit
def AjD:MFn:=AU [] 138
def AiT:Hnt:=⟨[(145,(.agg AK,[]))],[],[(4,[.bool]),(6,[.ls])]⟩
def Afr:MFn:=AU [⟨74,(mB 917524),[(1000004,3)],[2,17],[(1,((mB 20),([],[])))]⟩] 62
def Ab9:Hnt:=⟨[(135,(.sl 0 3,[.row Δ])),(136,(.tup [],[.row Δ])),(138,(.agg AK,[])),(139,(.agg AK,[])),(140,(.sl 0 3,[.row Δ]))],[(0,[(1,([.ptr 0 0,.ptr 1 0],[.box B7,.box [.sl 3 3,.bool,.ls],.del,.row Δ]))])],[(9,[.ls]),(14,AK),(21,Br),(22,Br),(24,[.int .i64]),(27,[.ls]),(34,[.ls]),(36,Br),(38,[.int .i64]),(40,[.int .i64]),(44,[.ls]),(47,[.ls]),(49,Br),(51,AK),(53,AK),(55,Br),(58,[.ls]),(60,[.int .i64]),(62,AK),(70,[.ls]),(73,B7)]⟩
def FS:List (Nat × MFn):=[(138,AjD),(62,Afr)]
variable (A:Ar) (D:Orc)
theorem Apv(x0_0:Bool)(x0_1:Rw):BY A D At AiT .n 138 AjD [ω [bv x0_0,Ψ x0_1]] [] =
 Af D (ψ 145) [bv x0_0,Ψ x0_1] [] [.a,.B,.L,.N,.E] λb xs=>
 Θ ((ω [bv b,Ψ xs],[])):=by kernel_rfl
theorem e62(x0_0:Rw)(x0_1:Bool)(x0_2:Rw):BY A D At Ab9 .n 62 Afr [ω [Ψ x0_0,bv x0_1,Ψ x0_2]] [] =
 Af D (ψ 135) [Ψ x0_0] [] [.q 0 3,.R,.X,.E] λn cs=>
 Af D (ψ 136) [χ 0 0 n 3,Ar8 (Fn.func 137) [] []] [δ cs Δ Δ] [.t,.N,.R,.X,.E] λcs2=>
 Af D (ψ 138) [ω [bv x0_1,Ψ x0_2]] [] [.a,.B,.L,.N,.E] λb xs=>
 br ((0+n*3).ble cs2.length) (AF D (ArW 62 0) [Asm 0 0,Asm 1 0,Ψ (Be n 3 (ArQ (n*3) cs2)),iv ↑n,iv 0] [bk [Ψ [],bv Φ,Ψ []],bk [χ 2 0 0 3,bv b,Ψ xs],δ [] Δ Δ] λr3 o3=>
 dk [.t,.C,.x,.X] [.v r3] λc2 l4=>
 br (Bo 1 c2)
 (dk [.P 0 0,.P 1 0,.N,.T,.L,.B,.L,.N,.T,.C,.q 3 3,.B,.L,.N,.D,.R,.X,.E] [.l l4,.o o3] λ_ _ _ n1 b2 xs3 cs7=>
 Af D (ψ 140) [χ 0 0 n1 3,Ar8 (Fn.func 141) [] []] [δ cs7 Δ Δ] [.q 0 3,.R,.X,.E] λn2 cs8=>
 br ((0+n2*3).ble cs8.length) (Θ ((ω [Ψ (Be n2 3 (ArQ (n2*3) cs8)),bv b2,Ψ xs3],[]))) Ξ)
 (Ξ)) Ξ:=by kernel_rfl
theorem AiD(r0:Rw)(r1:Bool)(r2:Rw)(n4:Nat)(k1:Bool)(k2:Rw)(c4:List AV)(t17:Rw)(t18 t19:Int):Dy A D At Ab9 .n 62 0 (AZ Afr 0).fst (AZ Afr 0).snd [Asm 0 0,Asm 1 0,Ψ t17,iv t18,iv t19] [bk [Ψ r0,bv r1,Ψ r2],bk [χ 2 0 n4 3,bv k1,Ψ k2],{ cells:=c4,st:=Δ,ex:=Δ }] =
 br (A.lt t19 t18)
 (unI t19 λi=>
 BH t17 i λcs=>
 dk [.I,.B,.L,.N] [.l cs] λn b xs=>
 br (A.lt n 0)
 (AF D (ArW 62 0) [Asm 0 0,Asm 1 0,Ψ t17,iv t18,iv (A.add θ t19 1)] [bk [Ψ r0,bv r1,Ψ r2],bk [χ 2 0 n4 3,bv k1,Ψ k2],δ c4 Δ Δ] λr o=>
 AW 3 [0,1,2] (AH.mk [(0,bk [Ψ r0,bv r1,Ψ r2]),(3,bk [iv n,bv b,Ψ xs]),(1,bk [χ 2 0 n4 3,bv k1,Ψ k2]),(2,δ c4 Δ Δ)] 4 Ξ) [0] r o)
 (br (A.le 0 (A.sub θ (↑n4) 1))
 (unI (A.sub θ (↑n4) 1) λi1=>
 br (i1.blt n4) (EX c4 (0+i1*3+0) 1 λcs1=>
 dk [.I,.N] [.l cs1] λn1=>
 br (A.eq n1 n)
 (unI (A.sub θ (↑n4) 1) λi2=>
 br (i2.blt n4) (EX c4 (0+i2*3+1) 2 λcs2=>
 dk [.B,.L,.N] [.l cs2] λb1 xs1=>
 Af D (ψ 139) [ω [bv b1,Ψ xs1],ω [bv b,Ψ xs]] [] [.a,.B,.L,.N,.E] λb2 xs2=>
 unI (A.sub θ (↑n4) 1) λi3=>
 br (i3.blt n4) (br ((0+i3*3+1+2).ble c4.length) (AF D (ArW 62 0) [Asm 0 0,Asm 1 0,Ψ t17,iv t18,iv (A.add θ t19 1)] [bk [Ψ r0,bv r1,Ψ r2],bk [χ 2 0 n4 3,bv k1,Ψ k2],δ (AD c4 (0+i3*3+1) [bv b2,Ψ xs2]) Δ Δ] λr3 o1=>
 AW 3 [0,1,2] (AH.mk [(0,bk [Ψ r0,bv r1,Ψ r2]),(2,δ (AD c4 (0+i3*3+1) [bv b2,Ψ xs2]) Δ Δ),(3,bk [iv n,bv b,Ψ xs]),(1,bk [χ 2 0 n4 3,bv k1,Ψ k2])] 4 Ξ) [2,0] r3 o1) Ξ) Ξ) Ξ)
 (Af D (ψ 138) [ω [bv b,Ψ xs]] [] [.a,.B,.L,.N,.E] λb1 xs1=>
 br (Bj (n4+1) 40) (br ((0+n4*3).ble c4.length) (AF D (ArW 62 0) [Asm 0 0,Asm 1 0,Ψ t17,iv t18,iv (A.add θ t19 1)] [bk [Ψ r0,bv r1,Ψ r2],bk [χ 2 0 (n4+1) 3,bv k1,Ψ k2],δ (ArV 0 (ArQ (0+n4*3) c4)++[iv n,bv b1,Ψ xs1]) Δ Δ] λr3 o1=>
 AW 3 [0,1,5] (AH.mk [(0,bk [Ψ r0,bv r1,Ψ r2]),(1,bk [χ 5 0 (n4+1) 3,bv k1,Ψ k2]),(5,δ (ArV 0 (ArQ (0+n4*3) c4)++[iv n,bv b1,Ψ xs1]) Δ Δ),(4,δ [iv n,bv b1,Ψ xs1] Δ Δ),(3,bk [iv n,bv b,Ψ xs])] 6 Ξ) [2,1,0] r3 o1) Ξ) Ξ)) Ξ)
 (Af D (ψ 138) [ω [bv b,Ψ xs]] [] [.a,.B,.L,.N,.E] λb1 xs1=>
 br (Bj (n4+1) 40) (br ((0+n4*3).ble c4.length) (AF D (ArW 62 0) [Asm 0 0,Asm 1 0,Ψ t17,iv t18,iv (A.add θ t19 1)] [bk [Ψ r0,bv r1,Ψ r2],bk [χ 2 0 (n4+1) 3,bv k1,Ψ k2],δ (ArV 0 (ArQ (0+n4*3) c4)++[iv n,bv b1,Ψ xs1]) Δ Δ] λr3 o1=>
 AW 3 [0,1,5] (AH.mk [(0,bk [Ψ r0,bv r1,Ψ r2]),(1,bk [χ 5 0 (n4+1) 3,bv k1,Ψ k2]),(5,δ (ArV 0 (ArQ (0+n4*3) c4)++[iv n,bv b1,Ψ xs1]) Δ Δ),(4,δ [iv n,bv b1,Ψ xs1] Δ Δ),(3,bk [iv n,bv b,Ψ xs])] 6 Ξ) [2,1,0] r3 o1) Ξ) Ξ)))
 (Θ ((ι [iv 0,Asm 0 0,Asm 1 0],[ArU (bk [Ψ r0,bv r1,Ψ r2]),ArU (bk [χ 3 0 n4 3,bv k1,Ψ k2]),BO.del,ArU (δ c4 Δ Δ)]))):=by kernel_rfl
end
section
open Go.RowKit
def XT:MFn:=AU [⟨25,[Δ,Δ],[],[],[(1,([Δ],([],[])))]⟩] 205
def Qr:Hnt:=⟨[(144,(.tup [.ls,.ls,.int .i64],[])),(202,(.ls,[]))],[(0,[(1,([.ls],[]))])],[]⟩
def AjJ:MFn:=AU [] 146
def AiZ:Hnt:=⟨[(139,(.agg AK,[])),(161,(.agg AK,[]))],[],[(5,AK),(6,AK)]⟩
def Aoj:MFn:=AU [] 66
def Ans:Hnt:=⟨[(126,(.agg AK,[])),(139,(.agg AK,[])),(142,(.agg AK,[])),(144,(.tup [.ls,.ls,.int .i64],[])),(145,(.agg AK,[])),(146,(.agg AK,[]))],[],[(9,AK),(11,AK),(15,[.ls]),(17,[.ls]),(28,[.bool]),(30,[.bool]),(35,[.bool]),(39,[.bool]),(41,[.bool]),(48,AK),(51,AK),(52,AK),(54,AK),(55,AK)]⟩
def AjH:MFn:=AU [] 143
def AiX:Hnt:=⟨[(64,(.int .i64,[])),(66,(.tup [.agg AK,.agg AK,.int .i64],[]))],[],[(10,AK),(11,AK),(22,AK),(26,AK)]⟩
def AjK:MFn:=AU [] 147
def Ai0:Hnt:=⟨[(145,(.agg AK,[])),(205,(.ls,[]))],[],[(6,[.ls]),(8,[.ls])]⟩
def QW:List (Nat × MFn):=[(205,XT),(146,AjJ),(66,Aoj),(143,AjH),(147,AjK)]
variable (A:Ar) (D:Orc)
theorem Ap2(x0 x1:Rw):BY A D At Qr .n 205 XT [Ψ x0,Ψ x1] [] =
 Af D (ψ 202) [Ψ x0] [] [.l,.E] λxs=>
 Af D (ψ 202) [Ψ x1] [] [.l,.E] λxs1=>
 Af D (ArW 205 0) [Ψ xs,Ψ xs1] [] [.t,.C,.x,.X,.Y] λc l o2=>
 br (Bo 1 c)
 (dk [.L,.N,.E] [.l l,.o o2] λxs2=>
 Θ ((Ψ xs2,[])))
 (Ξ):=by kernel_rfl
theorem VG(t0 t1:Rw):Dy A D At Qr .n 205 0 (AZ XT 0).fst (AZ XT 0).snd [Ψ t0,Ψ t1] [] =
 br (A.lt 0 ↑(Al t1))
 (Af D (ψ 144) [Ψ t0,Ψ t1] [] [.t,.L,.L,.I,.N,.E] λ_ xs1 _=>
 AF D (ArW 205 0) [Ψ t1,Ψ xs1] [] λr1 o1=>
 AW 0 [] (AH.mk [] 0 Ξ) [] r1 o1)
 (Θ ((ι [iv 0,Ψ t0],[]))):=by kernel_rfl
theorem ApB(x0_0:Bool)(x0_1:Rw)(x1_0:Bool)(x1_1:Rw):BY A D At AiZ .n 146 AjJ [ω [bv x0_0,Ψ x0_1],ω [bv x1_0,Ψ x1_1]] [] =
 Af D (ψ 161) [ω [bv x1_0,Ψ x1_1]] [] [.a,.B,.L,.N,.E] λb xs=>
 Af D (ψ 139) [ω [bv x0_0,Ψ x0_1],ω [bv b,Ψ xs]] [] [.a,.B,.L,.N,.E] λb1 xs1=>
 Θ ((ω [bv b1,Ψ xs1],[])):=by kernel_rfl
theorem e66(x0_0:Bool)(x0_1:Rw)(x1_0:Bool)(x1_1:Rw):BY A D At Ans (.b (.b .n (.b .n (.b (.t .n) (.f .n)))) .n) 66 Aoj [ω [bv x0_0,Ψ x0_1],ω [bv x1_0,Ψ x1_1]] [] =
 Af D (ψ 142) [ω [bv x0_0,Ψ x0_1]] [] [.a,.B,.L,.N,.E] λb xs=>
 Af D (ψ 142) [ω [bv x1_0,Ψ x1_1]] [] [.a,.B,.L,.N,.E] λb1 xs1=>
 Af D (ψ 144) [Ψ xs,Ψ xs1] [] [.t,.L,.L,.I,.N,.E] λxs2 xs3 n=>
 br (A.eq n 0)
 (br (A.not (A.beq b b1))
 (Af D (ψ 145) [bv Δ,Ψ xs2] [] [.a,.B,.L,.N,.E] λb2 xs4=>
 Af D (ψ 145) [bv b,Ψ xs3] [] [.a,.B,.L,.N,.E] λb3 xs5=>
 br (A.not (A.beq b b1)) (br (A.lt 0 ↑(Al xs3))
 (Af D (ψ 126) [iv 1] [] [.a,.B,.L,.N,.E] λb4 xs6=>
 Af D (ψ 146) [ω [bv b2,Ψ xs4],ω [bv b4,Ψ xs6]] [] [.a,.B,.L,.N,.E] λb5 xs7=>
 Af D (ψ 139) [ω [bv b3,Ψ xs5],ω [bv b1,Ψ xs1]] [] [.a,.B,.L,.N,.E] λb6 xs8=>
 Θ ((ι [ω [bv b5,Ψ xs7],ω [bv b6,Ψ xs8],iv 0],[])))
 (Θ ((ι [ω [bv b2,Ψ xs4],ω [bv b3,Ψ xs5],iv 0],[])))) Ξ)
 (Af D (ψ 145) [bv Φ,Ψ xs2] [] [.a,.B,.L,.N,.E] λb2 xs4=>
 Af D (ψ 145) [bv b,Ψ xs3] [] [.a,.B,.L,.N,.E] λb3 xs5=>
 br (A.not (A.beq b b1)) Ξ (Θ ((ι [ω [bv b2,Ψ xs4],ω [bv b3,Ψ xs5],iv 0],[])))))
 (Θ ((ι [ω [bv Φ,Ψ []],ω [bv Φ,Ψ []],iv n],[]))):=by kernel_rfl
theorem Apz(x0_0:Bool)(x0_1:Rw)(x1_0:Bool)(x1_1:Rw):BY A D At AiX .n 143 AjH [ω [bv x0_0,Ψ x0_1],ω [bv x1_0,Ψ x1_1]] [] =
 Af D (ψ 66) [ω [bv x0_0,Ψ x0_1],ω [bv x1_0,Ψ x1_1]] [] [.t,.A,.B,.L,.N,.A,.B,.L,.N,.I,.N,.E] λb xs b1 xs1 n=>
 br (A.eq n 0)
 (Af D (ψ 64) [ω [bv b1,Ψ xs1]] [] [.i,.E] λn1=>
 br (A.eq n1 0)
 (Θ ((ι [ω [bv b,Ψ xs],iv 0],[])))
 (Θ ((ι [ω [bv Φ,Ψ []],iv 1],[]))))
 (Θ ((ι [ω [bv Φ,Ψ []],iv n],[]))):=by kernel_rfl
theorem ApC(x0_0:Bool)(x0_1:Rw)(x1_0:Bool)(x1_1:Rw):BY A D At Ai0 .n 147 AjK [ω [bv x0_0,Ψ x0_1],ω [bv x1_0,Ψ x1_1]] [] =
 Af D (ψ 205) [Ψ x0_1,Ψ x1_1] [] [.l,.E] λxs=>
 Af D (ψ 145) [bv Φ,Ψ xs] [] [.a,.B,.L,.N,.E] λb xs1=>
 Θ ((ω [bv b,Ψ xs1],[])):=by kernel_rfl
end
