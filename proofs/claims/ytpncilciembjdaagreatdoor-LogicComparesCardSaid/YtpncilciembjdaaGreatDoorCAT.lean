/- Functions of the program -/
import Derived.Test.YtpncilciembjdaaGreatDoorCAM
set_option linter.all false
open Bool renaming false->Φ,true->Δ
open List renaming drop->AtD,take->ο
open Option renaming none->Ξ,some->Θ
namespace Go.Proofs.YtpncilciembjdaaGreatDoor
noncomputable section
open ABlk renaming mk->δ
open AV renaming agg->ψ,fn->AtR,ls->Ψ,ptr->AtA,sl->χ,tup->υ
open BO renaming set->AtH
open IntKind renaming i64->θ,u64->Ω
open Key renaming fn->ω,lp->AtB
open Tryz renaming prog->ι
section
open Go.RowKit
def AkR:MFn:=AC [] 145
def Aj6:Hnt:=⟨[(202,(.ls,[]))],[],[]⟩
def AkP:MFn:=AC [] 142
def Aj4:Hnt:=⟨[(145,(.agg AK,[]))],[],[(4,[.bool]),(6,[.ls])]⟩
def AkH:MFn:=AC [] 126
def AjW:Hnt:=⟨[(145,(.agg AK,[])),(184,(.ls,[]))],[],[]⟩
def AkY:MFn:=AC [] 161
def Akd:Hnt:=⟨[(145,(.agg AK,[]))],[],[(4,[.bool]),(7,[.ls])]⟩
def ApW:MFn:=AC [] 64
def Aph:Hnt:=⟨[(142,(.agg AK,[]))],[],[(3,AK),(7,[.bool]),(10,[.ls])]⟩
def AkV:MFn:=AC [] 155
def Aka:Hnt:=⟨[(64,(.int .i64,[])),(201,(.int .i64,[]))],[],[(7,AK),(9,AK),(23,[.ls]),(25,[.ls]),(28,[.ls]),(30,[.ls])]⟩
def AkN:MFn:=AC [] 139
def Aj2:Hnt:=⟨[(145,(.agg AK,[])),(197,(.ls,[])),(198,(.tup [.ls,.bool],[]))],[],[(10,[.bool]),(12,[.bool]),(15,[.bool]),(17,[.ls]),(19,[.ls]),(24,[.ls]),(26,[.ls]),(32,[.bool]),(37,[.ls]),(39,[.ls]),(44,[.bool])]⟩
def AkX:MFn:=AC [] 158
def Akc:Hnt:=⟨[(145,(.agg AK,[])),(212,(.ls,[]))],[],[(6,[.bool]),(8,[.bool]),(11,[.ls]),(13,[.ls])]⟩
def MJ:List (Nat × MFn):=[(145,AkR),(142,AkP),(126,AkH),(161,AkY),(64,ApW),(155,AkV),(139,AkN),(158,AkX)]
variable (A:Ar) (D:Orc)
theorem Aq9(x0:Bool)(x1:Rw):BZ A D As Aj6 (.b (.t (.t (.b (.t .n) (.t .n)))) (.f (.f (.f .n)))) 145 AkR [bv x0,Ψ x1] [] =
 Ae D (ω 202) [Ψ x1] [] [.l,.E] λxs=>
 br x0
 (br x0 (br x0 (br (A.lt 0 ↑(AI xs))
 (br x0 (Θ ((ψ [bv Δ,Ψ xs],[]))) Ξ)
 (br x0 (Θ ((ψ [bv Φ,Ψ xs],[]))) Ξ)) Ξ) Ξ)
 (br x0 Ξ (br x0 Ξ (br x0 Ξ (Θ ((ψ [bv Φ,Ψ xs],[])))))):=by kernel_rfl
theorem Aq7(x0_0:Bool)(x0_1:Rw):BZ A D As Aj4 .n 142 AkP [ψ [bv x0_0,Ψ x0_1]] [] =
 Ae D (ω 145) [bv x0_0,Ψ x0_1] [] [.a,.B,.L,.N,.E] λb xs=>
 Θ ((ψ [bv b,Ψ xs],[])):=by kernel_rfl
theorem AqY(x0:Int):BZ A D As AjW .n 126 AkH [iv x0] [] =
 br (A.lt x0 0)
 (Ae D (ω 184) [AV.v (Value.int Ω (A.add Ω (A.conv Ω (A.sub θ 0 (A.add θ x0 1))) 1))] [] [.l,.E] λxs=>
 Ae D (ω 145) [bv Δ,Ψ xs] [] [.a,.B,.L,.N,.E] λb xs1=>
 Θ ((ψ [bv b,Ψ xs1],[])))
 (Ae D (ω 184) [AV.v (Value.int Ω (A.conv Ω x0))] [] [.l,.E] λxs=>
 Ae D (ω 145) [bv Φ,Ψ xs] [] [.a,.B,.L,.N,.E] λb xs1=>
 Θ ((ψ [bv b,Ψ xs1],[]))):=by kernel_rfl
theorem Ari(x0_0:Bool)(x0_1:Rw):BZ A D As Akd .n 161 AkY [ψ [bv x0_0,Ψ x0_1]] [] =
 br (A.not x0_0)
 (Ae D (ω 145) [bv Δ,Ψ x0_1] [] [.a,.B,.L,.N,.E] λb xs=>
 Θ ((ψ [bv b,Ψ xs],[])))
 (Ae D (ω 145) [bv Φ,Ψ x0_1] [] [.a,.B,.L,.N,.E] λb xs=>
 Θ ((ψ [bv b,Ψ xs],[]))):=by kernel_rfl
theorem e64(x0_0:Bool)(x0_1:Rw):BZ A D As Aph .n 64 ApW [ψ [bv x0_0,Ψ x0_1]] [] =
 Ae D (ω 142) [ψ [bv x0_0,Ψ x0_1]] [] [.a,.B,.L,.N,.E] λb xs=>
 br b
 (Θ ((iv (-1),[])))
 (br (A.lt 0 ↑(AI xs))
 (Θ ((iv 1,[])))
 (Θ ((iv 0,[])))):=by kernel_rfl
theorem Arf(x0_0:Bool)(x0_1:Rw)(x1_0:Bool)(x1_1:Rw):BZ A D As Aka .n 155 AkV [ψ [bv x0_0,Ψ x0_1],ψ [bv x1_0,Ψ x1_1]] [] =
 Ae D (ω 64) [ψ [bv x0_0,Ψ x0_1]] [] [.i,.E] λn=>
 Ae D (ω 64) [ψ [bv x1_0,Ψ x1_1]] [] [.i,.E] λn1=>
 br (A.lt n n1)
 (Θ ((iv (-1),[])))
 (br (A.lt n1 n)
 (Θ ((iv 1,[])))
 (br (A.lt n 0)
 (Ae D (ω 201) [Ψ x1_1,Ψ x0_1] [] [.i,.E] λn2=>
 Θ ((iv n2,[])))
 (Ae D (ω 201) [Ψ x0_1,Ψ x1_1] [] [.i,.E] λn2=>
 Θ ((iv n2,[]))))):=by kernel_rfl
theorem Aq5(x0_0:Bool)(x0_1:Rw)(x1_0:Bool)(x1_1:Rw):BZ A D As Aj2 .n 139 AkN [ψ [bv x0_0,Ψ x0_1],ψ [bv x1_0,Ψ x1_1]] [] =
 br (A.beq x0_0 x1_0)
 (Ae D (ω 197) [Ψ x0_1,Ψ x1_1] [] [.l,.E] λxs=>
 Ae D (ω 145) [bv x0_0,Ψ xs] [] [.a,.B,.L,.N,.E] λb xs1=>
 Θ ((ψ [bv b,Ψ xs1],[])))
 (Ae D (ω 198) [Ψ x0_1,Ψ x1_1] [] [.t,.L,.B,.N,.E] λxs b=>
 br b
 (Ae D (ω 145) [bv x0_0,Ψ xs] [] [.a,.B,.L,.N,.E] λb1 xs1=>
 Θ ((ψ [bv b1,Ψ xs1],[])))
 (Ae D (ω 198) [Ψ x1_1,Ψ x0_1] [] [.t,.L,.B,.N,.E] λxs1 _=>
 Ae D (ω 145) [bv x1_0,Ψ xs1] [] [.a,.B,.L,.N,.E] λb2 xs2=>
 Θ ((ψ [bv b2,Ψ xs2],[])))):=by kernel_rfl
theorem Arh(x0_0:Bool)(x0_1:Rw)(x1_0:Bool)(x1_1:Rw):BZ A D As Akc .n 158 AkX [ψ [bv x0_0,Ψ x0_1],ψ [bv x1_0,Ψ x1_1]] [] =
 br (A.not (A.beq x0_0 x1_0))
 (Ae D (ω 212) [Ψ x0_1,Ψ x1_1] [] [.l,.E] λxs=>
 Ae D (ω 145) [bv Δ,Ψ xs] [] [.a,.B,.L,.N,.E] λb xs1=>
 Θ ((ψ [bv b,Ψ xs1],[])))
 (Ae D (ω 212) [Ψ x0_1,Ψ x1_1] [] [.l,.E] λxs=>
 Ae D (ω 145) [bv Φ,Ψ xs] [] [.a,.B,.L,.N,.E] λb xs1=>
 Θ ((ψ [bv b,Ψ xs1],[]))):=by kernel_rfl
end
section
open Go.RowKit
def AkW:MFn:=AC [] 157
def Akb:Hnt:=⟨[],[],[]⟩
def Ap2:MFn:=AC [] 84
def Apn:Hnt:=⟨[(157,(.bool,[]))],[],[]⟩
def AkL:MFn:=AC [] 137
def Aj0:Hnt:=⟨[(84,(.int .i64,[]))],[],[(6,[.int .i64]),(8,[.int .i64])]⟩
def AkO:MFn:=AC [] 141
def Aj3:Hnt:=⟨[(64,(.int .i64,[]))],[],[(4,AK)]⟩
def AkK:MFn:=LO ι Bz [] Φ Δ 136
def AjZ:Hnt:=⟨[(137,(.int .i64,[])),(196,(.tup [],[.row Δ]))],[],[]⟩
def Mz:MFn:=LO ι Bz [⟨63,(mB 455),[],[],[(1,((mB 199),([],[1000000])))]⟩,⟨63,(mB 71),[],[],[(3,([Δ],([],[1000000])))]⟩,⟨63,(mB 455),[],[],[(5,((mB 199),([],[1000000])))]⟩] Φ Δ 196
def Hh:Hnt:=⟨[(137,(.int .i64,[])),(234,(.tup [],[.row Δ])),(235,(.tup [],[.row Δ]))],[(0,[(1,([.sl 0 3,.int .i64,.fnc 137,.int .i64,.int .i64],[.row Δ]))]),(1,[(3,([.sl 0 3],[.row Δ]))]),(2,[(5,([.sl 0 3,.int .i64,.fnc 137,.int .i64,.int .i64],[.row Δ]))])],[]⟩
def Qv:MFn:=LO ι Bz [⟨53,(mB 271),[],[],[(1,([Δ],([],[1000000])))]⟩,⟨53,(mB 783),[],[],[(3,((mB 271),([],[1000000])))]⟩] Φ Δ 234
def H7:Hnt:=⟨[(137,(.int .i64,[]))],[(0,[(1,([.sl 0 3],[.row Δ]))]),(1,[(3,([.sl 0 3,.int .i64,.int .i64,.fnc 137,.int .i64],[.row Δ]))])],[(25,Bw),(26,Bw),(30,Bw),(31,Bw),(45,Bw),(46,Bw),(49,Bw),(50,Bw),(51,Bw),(52,Bw)]⟩
def Hj:MFn:=LO ι Bz [⟨220,(mB 3091),[],[],[(1,((mB 1027),([],[1000000])))]⟩,⟨220,(mB 9217),[],[],[(3,([Δ],([],[1000000])))]⟩,⟨220,(mB 49173),[],[],[(5,((mB 16389),([],[1000000])))]⟩,⟨220,(mB 147457),[],[],[(7,([Δ],([],[1000000])))]⟩,⟨220,(mB 8126495),[],[],[(9,((mB 1835039),([],[1000000])))]⟩] Φ Δ 235
def CI:Hnt:=⟨[(137,(.int .i64,[])),(235,(.tup [],[.row Δ])),(265,(.tup [],[.row Δ]))],[(0,[(1,([.sl 0 3,.int .i64,.int .i64],[.row Δ]))]),(1,[(3,([.sl 0 3],[.row Δ]))]),(2,[(5,([.sl 0 3,.int .i64,.int .i64],[.row Δ]))]),(3,[(7,([.sl 0 3],[.row Δ]))]),(4,[(9,([.sl 0 3,.int .i64,.int .i64,.int .i64,.fnc 137,.int .i64,.int .i64,.int .i64],[.row Δ]))])],[(43,Bw),(44,Bw),(47,Bw),(48,Bw),(69,Bw),(70,Bw),(73,Bw),(74,Bw),(75,Bw),(76,Bw),(95,Bw),(96,Bw),(99,Bw),(100,Bw),(121,Bw),(122,Bw),(125,Bw),(126,Bw),(127,Bw),(128,Bw),(163,Bw),(164,Bw),(167,Bw),(168,Bw)]⟩
def XC:MFn:=LO ι Bz [⟨58,(mB 3093),[],[],[(1,((mB 1045),([],[1000000])))]⟩] Φ Δ 265
def Qi:Hnt:=⟨[(137,(.int .i64,[])),(275,(.tup [],[.row Δ]))],[(0,[(1,([.sl 0 3,.int .i64,.fnc 137,.int .i64],[.row Δ]))])],[]⟩
def XD:MFn:=LO ι Bz [⟨38,(mB 1039),[],[],[(1,([Δ],([],[1000000])))]⟩] Φ Δ 275
def TI:Hnt:=⟨[(137,(.int .i64,[]))],[(0,[(1,([.sl 0 3],[.row Δ]))])],[(28,Bw),(29,Bw),(34,Bw),(35,Bw),(36,Bw),(37,Bw)]⟩
def Xl:MFn:=LO ι Bz [⟨42,(mB 99),[],[],[(1,((mB 33),([],[1000000])))]⟩] Δ Δ 140
def Od:Hnt:=⟨[(141,(.bool,[])),(199,(.int .i64,[.row Δ]))],[(0,[(1,([.sl 0 3,.int .i64],[.row Δ]))])],[(24,Bw),(25,Bw),(27,Bw),(32,Bw),(33,Bw)]⟩
def Xv:MFn:=LO ι Bz [⟨19,(mB 387),[],[],[(0,((mB 17),([],[1000000]))),(1,([Δ],([],[1000000])))]⟩] Φ Δ 199
def Og:Hnt:=⟨[(141,(.bool,[]))],[(0,[(0,([.sl 0 3,.int .i64],[.row Δ])),(1,([.sl 0 3],[.row Δ]))])],[(14,Bw),(15,Bw)]⟩
def EQ:List (Nat × MFn):=[(157,AkW),(84,Ap2),(137,AkL),(141,AkO),(136,AkK),(196,Mz),(234,Qv),(235,Hj),(265,XC),(275,XD),(140,Xl),(199,Xv)]
variable (A:Ar) (D:Orc)
theorem Arg(x0:Int):BZ A D As Akb .n 157 AkW [iv x0] [] =
 br (A.eq x0 x0)
 (Θ ((bv Φ,[])))
 (Θ ((bv Δ,[]))):=by kernel_rfl
theorem e84(x0 x1:Int):BZ A D As Apn .n 84 Ap2 [iv x0,iv x1] [] =
 Ae D (ω 157) [iv x0] [] [.b,.E] λb=>
 br b
 (Ae D (ω 157) [iv x1] [] [.b,.E] λb1=>
 br b1
 (Θ ((iv 0,[])))
 (Θ ((iv (-1),[]))))
 (Ae D (ω 157) [iv x1] [] [.b,.E] λb1=>
 br b1
 (Θ ((iv 1,[])))
 (br (A.lt x0 x1)
 (Θ ((iv (-1),[])))
 (br (A.lt x1 x0)
 (Θ ((iv 1,[])))
 (Θ ((iv 0,[])))))):=by kernel_rfl
theorem Aq3(x0_0:Int)(x0_1:Bool)(x0_2:Rw)(x1_0:Int)(x1_1:Bool)(x1_2:Rw):BZ A D As Aj0 .n 137 AkL [ψ [iv x0_0,bv x0_1,Ψ x0_2],ψ [iv x1_0,bv x1_1,Ψ x1_2]] [] =
 Ae D (ω 84) [iv x0_0,iv x1_0] [] [.i,.E] λn=>
 Θ ((iv n,[])):=by kernel_rfl
theorem Aq6(x0_0:Int)(x0_1:Bool)(x0_2:Rw):BZ A D As Aj3 .n 141 AkO [ψ [iv x0_0,bv x0_1,Ψ x0_2]] [] =
 Ae D (ω 64) [ψ [bv x0_1,Ψ x0_2]] [] [.i,.E] λn=>
 br (A.eq n 0)
 (Θ ((bv Δ,[])))
 (Θ ((bv Φ,[]))):=by kernel_rfl
theorem Aq2(n0:Nat)(c0:List AV):BZ A D As AjZ .n 136 AkK [χ 0 0 n0 3,AtR (Fn.func 137) [] []] [{ cells:=c0,st:=Δ,ex:=Δ }] =
 Ae D (ω 196) [χ 0 0 n0 3,iv ↑n0,AtR (Fn.func 137) [] []] [δ c0 Δ Δ] [.t,.N,.R,.X,.E] λcs1=>
 Θ ((υ [],[AtH (δ cs1 Δ Δ)])):=by kernel_rfl
theorem Arw(n0:Nat)(c0:List AV)(x1:Int):BZ A D As Hh .n 196 Mz [χ 0 0 n0 3,iv x1,AtR (Fn.func 137) [] []] [{ cells:=c0,st:=Δ,ex:=Δ }] =
 Ae D (AtB 196 0) [χ 0 0 n0 3,iv x1,AtR (Fn.func 137) [] [],iv 20,iv 0,iv 20] [δ c0 Δ Δ] [.t,.C,.x,.X,.Y] λc l o=>
 br (Bn 1 c)
 (dk [.C,.q 0 3,.I,.C,.f 137,.I,.I,.N,.R,.X,.E] [.l l,.o o] λn n1 n2 n3 cs1=>
 Ae D (ω 234) [χ 0 0 n 3,iv n3,iv n1,AtR (Fn.func 137) [] []] [δ cs1 Δ Δ] [.t,.N,.R,.X,.E] λcs3=>
 Ae D (AtB 196 1) [χ 0 0 n 3,iv n1,AtR (Fn.func 137) [] [],iv n2] [δ cs3 Δ Δ] [.t,.C,.x,.X,.Y] λc5 l8 o2=>
 br (Bn 3 c5)
 (dk [.C,.q 0 3,.N,.R,.X,.E] [.l l8,.o o2] λ_ cs5=>
 Θ ((υ [],[AtH (δ cs5 Δ Δ)])))
 (Ξ))
 (Ξ):=by kernel_rfl
theorem AaT(n0:Nat)(c0:List AV)(t1 t6 t7 t8:Int):Dy A D As Hh .n 196 0 (AU Mz 0).fst (AU Mz 0).snd [χ 0 0 n0 3,iv t1,AtR (Fn.func 137) [] [],iv t6,iv t7,iv t8] [{ cells:=c0,st:=Δ,ex:=Δ }] =
 br (A.le t8 t1)
 (Ae D (ω 234) [χ 0 0 n0 3,iv t7,iv t8,AtR (Fn.func 137) [] []] [δ c0 Δ Δ] [.t,.N,.R,.X,.E] λcs1=>
 AG D (AtB 196 0) [χ 0 0 n0 3,iv t1,AtR (Fn.func 137) [] [],iv t6,iv t8,iv (A.add θ t8 t6)] [δ cs1 Δ Δ] λr1 o1=>
 AE 1 [0] (AH.mk [(0,δ cs1 Δ Δ)] 1 Ξ) [0] r1 o1)
 (Θ ((υ [iv 0,χ 0 0 n0 3,iv t1,AtR (Fn.func 137) [] [],iv t6,iv t7],[AtH (δ c0 Δ Δ)]))):=by kernel_rfl
theorem Vl(n0:Nat)(c0:List AV)(t1 t6:Int):Dy A D As Hh .n 196 1 (AU Mz 1).fst (AU Mz 1).snd [χ 0 0 n0 3,iv t1,AtR (Fn.func 137) [] [],iv t6] [{ cells:=c0,st:=Δ,ex:=Δ }] =
 br (A.lt t6 t1)
 (Ae D (AtB 196 2) [χ 0 0 n0 3,iv t1,AtR (Fn.func 137) [] [],iv t6,iv 0,iv (A.mul θ 2 t6)] [δ c0 Δ Δ] [.t,.C,.x,.X,.Y] λc l o=>
 br (Bn 5 c)
 (dk [.C,.q 0 3,.I,.C,.f 137,.I,.I,.N,.R,.X,.E] [.l l,.o o] λn n1 n2 n3 cs1=>
 br (A.lt (A.add θ n3 n2) n1)
 (Ae D (ω 235) [χ 0 0 n 3,iv n3,iv (A.add θ n3 n2),iv n1,AtR (Fn.func 137) [] []] [δ cs1 Δ Δ] [.t,.N,.R,.X,.E] λcs3=>
 AG D (AtB 196 1) [χ 0 0 n 3,iv n1,AtR (Fn.func 137) [] [],iv (A.mul θ n2 2)] [δ cs3 Δ Δ] λr2 o2=>
 AE 1 [0] (AH.mk [(0,δ cs3 Δ Δ)] 1 Ξ) [0] r2 o2)
 (AG D (AtB 196 1) [χ 0 0 n 3,iv n1,AtR (Fn.func 137) [] [],iv (A.mul θ n2 2)] [δ cs1 Δ Δ] λr1 o1=>
 AE 1 [0] (AH.mk [(0,δ cs1 Δ Δ)] 1 Ξ) [0] r1 o1))
 (Ξ))
 (Θ ((υ [iv 2,χ 0 0 n0 3],[AtH (δ c0 Δ Δ)]))):=by kernel_rfl
theorem AaU(n0:Nat)(c0:List AV)(t1 t6 t7 t8:Int):Dy A D As Hh .n 196 2 (AU Mz 2).fst (AU Mz 2).snd [χ 0 0 n0 3,iv t1,AtR (Fn.func 137) [] [],iv t6,iv t7,iv t8] [{ cells:=c0,st:=Δ,ex:=Δ }] =
 br (A.le t8 t1)
 (Ae D (ω 235) [χ 0 0 n0 3,iv t7,iv (A.add θ t7 t6),iv t8,AtR (Fn.func 137) [] []] [δ c0 Δ Δ] [.t,.N,.R,.X,.E] λcs1=>
 AG D (AtB 196 2) [χ 0 0 n0 3,iv t1,AtR (Fn.func 137) [] [],iv t6,iv t8,iv (A.add θ t8 (A.mul θ 2 t6))] [δ cs1 Δ Δ] λr1 o1=>
 AE 1 [0] (AH.mk [(0,δ cs1 Δ Δ)] 1 Ξ) [0] r1 o1)
 (Θ ((υ [iv 4,χ 0 0 n0 3,iv t1,AtR (Fn.func 137) [] [],iv t6,iv t7],[AtH (δ c0 Δ Δ)]))):=by kernel_rfl
theorem AoK(n0:Nat)(c0:List AV)(x1 x2:Int):BZ A D As H7 .n 234 Qv [χ 0 0 n0 3,iv x1,iv x2,AtR (Fn.func 137) [] []] [{ cells:=c0,st:=Δ,ex:=Δ }] =
 Ae D (AtB 234 0) [χ 0 0 n0 3,iv x1,iv x2,AtR (Fn.func 137) [] [],iv (A.add θ x1 1)] [δ c0 Δ Δ] [.t,.C,.x,.X,.Y] λc l o=>
 br (Bn 1 c)
 (dk [.C,.q 0 3,.N,.R,.X,.E] [.l l,.o o] λ_ cs1=>
 Θ ((υ [],[AtH (δ cs1 Δ Δ)])))
 (Ξ):=by kernel_rfl
theorem Vn(n0:Nat)(c0:List AV)(t1 t2 t8:Int):Dy A D As H7 .n 234 0 (AU Qv 0).fst (AU Qv 0).snd [χ 0 0 n0 3,iv t1,iv t2,AtR (Fn.func 137) [] [],iv t8] [{ cells:=c0,st:=Δ,ex:=Δ }] =
 br (A.lt t8 t2)
 (Ae D (AtB 234 1) [χ 0 0 n0 3,iv t1,iv t2,AtR (Fn.func 137) [] [],iv t8,iv t8] [δ c0 Δ Δ] [.t,.C,.x,.X,.Y] λc l o=>
 br (Bn 3 c)
 (dk [.C,.q 0 3,.I,.I,.C,.f 137,.I,.N,.R,.X,.E] [.l l,.o o] λn n1 n2 n3 cs1=>
 AG D (AtB 234 0) [χ 0 0 n 3,iv n1,iv n2,AtR (Fn.func 137) [] [],iv (A.add θ n3 1)] [δ cs1 Δ Δ] λr1 o1=>
 AE 1 [0] (AH.mk [(0,δ cs1 Δ Δ)] 1 Ξ) [0] r1 o1)
 (Ξ))
 (Θ ((υ [iv 0,χ 0 0 n0 3],[AtH (δ c0 Δ Δ)]))):=by kernel_rfl
theorem Vo(n0:Nat)(c0:List AV)(t1 t2 t8 t9:Int):Dy A D As H7 .n 234 1 (AU Qv 1).fst (AU Qv 1).snd [χ 0 0 n0 3,iv t1,iv t2,AtR (Fn.func 137) [] [],iv t8,iv t9] [{ cells:=c0,st:=Δ,ex:=Δ }] =
 br (A.lt t1 t9)
 (unI t9 λi=>
 br (i.blt n0) (EW c0 (0+i*3) 3 λcs=>
 dk [.I,.B,.L,.N] [.l cs] λn b xs=>
 unI (A.sub θ t9 1) λi1=>
 br (i1.blt n0) (EW c0 (0+i1*3) 3 λcs1=>
 dk [.I,.B,.L,.N] [.l cs1] λn1 b1 xs1=>
 Ae D (ω 137) [ψ [iv n,bv b,Ψ xs],ψ [iv n1,bv b1,Ψ xs1]] [] [.i,.E] λn2=>
 br (A.lt n2 0)
 (unI (A.sub θ t9 1) λi2=>
 br (i2.blt n0) (EW c0 (0+i2*3) 3 λcs2=>
 dk [.I,.B,.L,.N] [.l cs2] λn3 b2 xs2=>
 unI t9 λi3=>
 br (i3.blt n0) (EW c0 (0+i3*3) 3 λcs3=>
 dk [.I,.B,.L,.N] [.l cs3] λn4 b3 xs3=>
 unI t9 λi4=>
 br (i4.blt n0) (br ((0+i4*3+3).ble c0.length) (unI (A.sub θ t9 1) λi5=>
 br (i5.blt n0) (br ((0+i5*3+3).ble (AF c0 (0+i4*3) [iv n3,bv b2,Ψ xs2]).length) (AG D (AtB 234 1) [χ 0 0 n0 3,iv t1,iv t2,AtR (Fn.func 137) [] [],iv t8,iv (A.sub θ t9 1)] [δ (AF (AF c0 (0+i4*3) [iv n3,bv b2,Ψ xs2]) (0+i5*3) [iv n4,bv b3,Ψ xs3]) Δ Δ] λr1 o1=>
 AE 1 [0] (AH.mk [(0,δ (AF (AF c0 (0+i4*3) [iv n3,bv b2,Ψ xs2]) (0+i5*3) [iv n4,bv b3,Ψ xs3]) Δ Δ)] 1 Ξ) [0] r1 o1) Ξ) Ξ) Ξ) Ξ) Ξ) Ξ)
 (Θ ((υ [iv 2,χ 0 0 n0 3,iv t1,iv t2,AtR (Fn.func 137) [] [],iv t8],[AtH (δ c0 Δ Δ)])))) Ξ) Ξ)
 (Θ ((υ [iv 2,χ 0 0 n0 3,iv t1,iv t2,AtR (Fn.func 137) [] [],iv t8],[AtH (δ c0 Δ Δ)]))):=by kernel_rfl
theorem S6(n0:Nat)(c0:List AV)(x1 x2 x3:Int):BZ A D As CI .n 235 Hj [χ 0 0 n0 3,iv x1,iv x2,iv x3,AtR (Fn.func 137) [] []] [{ cells:=c0,st:=Δ,ex:=Δ }] =
 br (A.eq (A.sub θ x2 x1) 1)
 (Ae D (AtB 235 0) [χ 0 0 n0 3,iv x1,AtR (Fn.func 137) [] [],iv x2,iv x3] [δ c0 Δ Δ] [.t,.C,.x,.X,.Y] λc l o=>
 br (Bn 1 c)
 (dk [.C,.q 0 3,.I,.I,.N,.R,.X,.E] [.l l,.o o] λn n1 n2 cs1=>
 Ae D (AtB 235 1) [χ 0 0 n 3,iv n2,iv n1] [δ cs1 Δ Δ] [.t,.C,.x,.X,.Y] λc3 l5 o1=>
 br (Bn 3 c3)
 (dk [.C,.q 0 3,.N,.R,.X,.E] [.l l5,.o o1] λ_ cs3=>
 Θ ((υ [],[AtH (δ cs3 Δ Δ)])))
 (Ξ))
 (Ξ))
 (br (A.eq (A.sub θ x3 x2) 1)
 (Ae D (AtB 235 2) [χ 0 0 n0 3,iv x2,AtR (Fn.func 137) [] [],iv x1,iv x2] [δ c0 Δ Δ] [.t,.C,.x,.X,.Y] λc l o=>
 br (Bn 5 c)
 (dk [.C,.q 0 3,.I,.I,.N,.R,.X,.E] [.l l,.o o] λn n1 n2 cs1=>
 Ae D (AtB 235 3) [χ 0 0 n 3,iv n2,iv n1] [δ cs1 Δ Δ] [.t,.C,.x,.X,.Y] λc3 l5 o1=>
 br (Bn 7 c3)
 (dk [.C,.q 0 3,.N,.R,.X,.E] [.l l5,.o o1] λ_ cs3=>
 Θ ((υ [],[AtH (δ cs3 Δ Δ)])))
 (Ξ))
 (Ξ))
 (br (A.lt 1 0)
 (Ξ)
 (br (A.lt (A.conv θ (A.shr Ω (A.conv Ω (A.add θ x1 x3)) 1)) x2)
 (Ae D (AtB 235 4) [χ 0 0 n0 3,iv x1,iv x2,iv x3,AtR (Fn.func 137) [] [],iv (A.conv θ (A.shr Ω (A.conv Ω (A.add θ x1 x3)) 1)),iv (A.add θ (A.conv θ (A.shr Ω (A.conv Ω (A.add θ x1 x3)) 1)) x2),iv (A.sub θ (A.add θ (A.conv θ (A.shr Ω (A.conv Ω (A.add θ x1 x3)) 1)) x2) x3),iv (A.conv θ (A.shr Ω (A.conv Ω (A.add θ x1 x3)) 1)),iv (A.sub θ (A.add θ (A.conv θ (A.shr Ω (A.conv Ω (A.add θ x1 x3)) 1)) x2) 1)] [δ c0 Δ Δ] [.t,.C,.x,.X,.Y] λc l o=>
 br (Bn 9 c)
 (dk [.C,.q 0 3,.I,.I,.I,.C,.f 137,.I,.I,.I,.N,.R,.X,.E] [.l l,.o o] λn n1 n2 n3 n4 n5 n6 cs1=>
 br (A.lt n6 n2)
 (br (A.lt n2 (A.sub θ n5 n6))
 (Ae D (ω 265) [χ 0 0 n 3,iv n6,iv n2,iv (A.sub θ n5 n6),AtR (Fn.func 137) [] []] [δ cs1 Δ Δ] [.t,.N,.R,.X,.E] λcs3=>
 br (A.lt n1 n6)
 (br (A.lt n6 n4)
 (Ae D (ω 235) [χ 0 0 n 3,iv n1,iv n6,iv n4,AtR (Fn.func 137) [] []] [δ cs3 Δ Δ] [.t,.N,.R,.X,.E] λcs5=>
 br (A.lt n4 (A.sub θ n5 n6))
 (br (A.lt (A.sub θ n5 n6) n3)
 (Ae D (ω 235) [χ 0 0 n 3,iv n4,iv (A.sub θ n5 n6),iv n3,AtR (Fn.func 137) [] []] [δ cs5 Δ Δ] [.t,.N,.R,.X,.E] λcs7=>
 Θ ((υ [],[AtH (δ cs7 Δ Δ)])))
 (Θ ((υ [],[AtH (δ cs5 Δ Δ)]))))
 (Θ ((υ [],[AtH (δ cs5 Δ Δ)]))))
 (br (A.lt n4 (A.sub θ n5 n6))
 (br (A.lt (A.sub θ n5 n6) n3)
 (Ae D (ω 235) [χ 0 0 n 3,iv n4,iv (A.sub θ n5 n6),iv n3,AtR (Fn.func 137) [] []] [δ cs3 Δ Δ] [.t,.N,.R,.X,.E] λcs5=>
 Θ ((υ [],[AtH (δ cs5 Δ Δ)])))
 (Θ ((υ [],[AtH (δ cs3 Δ Δ)]))))
 (Θ ((υ [],[AtH (δ cs3 Δ Δ)])))))
 (br (A.lt n4 (A.sub θ n5 n6))
 (br (A.lt (A.sub θ n5 n6) n3)
 (Ae D (ω 235) [χ 0 0 n 3,iv n4,iv (A.sub θ n5 n6),iv n3,AtR (Fn.func 137) [] []] [δ cs3 Δ Δ] [.t,.N,.R,.X,.E] λcs5=>
 Θ ((υ [],[AtH (δ cs5 Δ Δ)])))
 (Θ ((υ [],[AtH (δ cs3 Δ Δ)]))))
 (Θ ((υ [],[AtH (δ cs3 Δ Δ)])))))
 (br (A.lt n1 n6)
 (br (A.lt n6 n4)
 (Ae D (ω 235) [χ 0 0 n 3,iv n1,iv n6,iv n4,AtR (Fn.func 137) [] []] [δ cs1 Δ Δ] [.t,.N,.R,.X,.E] λcs3=>
 br (A.lt n4 (A.sub θ n5 n6))
 (br (A.lt (A.sub θ n5 n6) n3)
 (Ae D (ω 235) [χ 0 0 n 3,iv n4,iv (A.sub θ n5 n6),iv n3,AtR (Fn.func 137) [] []] [δ cs3 Δ Δ] [.t,.N,.R,.X,.E] λcs5=>
 Θ ((υ [],[AtH (δ cs5 Δ Δ)])))
 (Θ ((υ [],[AtH (δ cs3 Δ Δ)]))))
 (Θ ((υ [],[AtH (δ cs3 Δ Δ)]))))
 (br (A.lt n4 (A.sub θ n5 n6))
 (br (A.lt (A.sub θ n5 n6) n3)
 (Ae D (ω 235) [χ 0 0 n 3,iv n4,iv (A.sub θ n5 n6),iv n3,AtR (Fn.func 137) [] []] [δ cs1 Δ Δ] [.t,.N,.R,.X,.E] λcs3=>
 Θ ((υ [],[AtH (δ cs3 Δ Δ)])))
 (Θ ((υ [],[AtH (δ cs1 Δ Δ)]))))
 (Θ ((υ [],[AtH (δ cs1 Δ Δ)])))))
 (br (A.lt n4 (A.sub θ n5 n6))
 (br (A.lt (A.sub θ n5 n6) n3)
 (Ae D (ω 235) [χ 0 0 n 3,iv n4,iv (A.sub θ n5 n6),iv n3,AtR (Fn.func 137) [] []] [δ cs1 Δ Δ] [.t,.N,.R,.X,.E] λcs3=>
 Θ ((υ [],[AtH (δ cs3 Δ Δ)])))
 (Θ ((υ [],[AtH (δ cs1 Δ Δ)]))))
 (Θ ((υ [],[AtH (δ cs1 Δ Δ)]))))))
 (br (A.lt n1 n6)
 (br (A.lt n6 n4)
 (Ae D (ω 235) [χ 0 0 n 3,iv n1,iv n6,iv n4,AtR (Fn.func 137) [] []] [δ cs1 Δ Δ] [.t,.N,.R,.X,.E] λcs3=>
 br (A.lt n4 (A.sub θ n5 n6))
 (br (A.lt (A.sub θ n5 n6) n3)
 (Ae D (ω 235) [χ 0 0 n 3,iv n4,iv (A.sub θ n5 n6),iv n3,AtR (Fn.func 137) [] []] [δ cs3 Δ Δ] [.t,.N,.R,.X,.E] λcs5=>
 Θ ((υ [],[AtH (δ cs5 Δ Δ)])))
 (Θ ((υ [],[AtH (δ cs3 Δ Δ)]))))
 (Θ ((υ [],[AtH (δ cs3 Δ Δ)]))))
 (br (A.lt n4 (A.sub θ n5 n6))
 (br (A.lt (A.sub θ n5 n6) n3)
 (Ae D (ω 235) [χ 0 0 n 3,iv n4,iv (A.sub θ n5 n6),iv n3,AtR (Fn.func 137) [] []] [δ cs1 Δ Δ] [.t,.N,.R,.X,.E] λcs3=>
 Θ ((υ [],[AtH (δ cs3 Δ Δ)])))
 (Θ ((υ [],[AtH (δ cs1 Δ Δ)]))))
 (Θ ((υ [],[AtH (δ cs1 Δ Δ)])))))
 (br (A.lt n4 (A.sub θ n5 n6))
 (br (A.lt (A.sub θ n5 n6) n3)
 (Ae D (ω 235) [χ 0 0 n 3,iv n4,iv (A.sub θ n5 n6),iv n3,AtR (Fn.func 137) [] []] [δ cs1 Δ Δ] [.t,.N,.R,.X,.E] λcs3=>
 Θ ((υ [],[AtH (δ cs3 Δ Δ)])))
 (Θ ((υ [],[AtH (δ cs1 Δ Δ)]))))
 (Θ ((υ [],[AtH (δ cs1 Δ Δ)]))))))
 (Ξ))
 (Ae D (AtB 235 4) [χ 0 0 n0 3,iv x1,iv x2,iv x3,AtR (Fn.func 137) [] [],iv (A.conv θ (A.shr Ω (A.conv Ω (A.add θ x1 x3)) 1)),iv (A.add θ (A.conv θ (A.shr Ω (A.conv Ω (A.add θ x1 x3)) 1)) x2),iv x1,iv x2,iv (A.sub θ (A.add θ (A.conv θ (A.shr Ω (A.conv Ω (A.add θ x1 x3)) 1)) x2) 1)] [δ c0 Δ Δ] [.t,.C,.x,.X,.Y] λc l o=>
 br (Bn 9 c)
 (dk [.C,.q 0 3,.I,.I,.I,.C,.f 137,.I,.I,.I,.N,.R,.X,.E] [.l l,.o o] λn n1 n2 n3 n4 n5 n6 cs1=>
 br (A.lt n6 n2)
 (br (A.lt n2 (A.sub θ n5 n6))
 (Ae D (ω 265) [χ 0 0 n 3,iv n6,iv n2,iv (A.sub θ n5 n6),AtR (Fn.func 137) [] []] [δ cs1 Δ Δ] [.t,.N,.R,.X,.E] λcs3=>
 br (A.lt n1 n6)
 (br (A.lt n6 n4)
 (Ae D (ω 235) [χ 0 0 n 3,iv n1,iv n6,iv n4,AtR (Fn.func 137) [] []] [δ cs3 Δ Δ] [.t,.N,.R,.X,.E] λcs5=>
 br (A.lt n4 (A.sub θ n5 n6))
 (br (A.lt (A.sub θ n5 n6) n3)
 (Ae D (ω 235) [χ 0 0 n 3,iv n4,iv (A.sub θ n5 n6),iv n3,AtR (Fn.func 137) [] []] [δ cs5 Δ Δ] [.t,.N,.R,.X,.E] λcs7=>
 Θ ((υ [],[AtH (δ cs7 Δ Δ)])))
 (Θ ((υ [],[AtH (δ cs5 Δ Δ)]))))
 (Θ ((υ [],[AtH (δ cs5 Δ Δ)]))))
 (br (A.lt n4 (A.sub θ n5 n6))
 (br (A.lt (A.sub θ n5 n6) n3)
 (Ae D (ω 235) [χ 0 0 n 3,iv n4,iv (A.sub θ n5 n6),iv n3,AtR (Fn.func 137) [] []] [δ cs3 Δ Δ] [.t,.N,.R,.X,.E] λcs5=>
 Θ ((υ [],[AtH (δ cs5 Δ Δ)])))
 (Θ ((υ [],[AtH (δ cs3 Δ Δ)]))))
 (Θ ((υ [],[AtH (δ cs3 Δ Δ)])))))
 (br (A.lt n4 (A.sub θ n5 n6))
 (br (A.lt (A.sub θ n5 n6) n3)
 (Ae D (ω 235) [χ 0 0 n 3,iv n4,iv (A.sub θ n5 n6),iv n3,AtR (Fn.func 137) [] []] [δ cs3 Δ Δ] [.t,.N,.R,.X,.E] λcs5=>
 Θ ((υ [],[AtH (δ cs5 Δ Δ)])))
 (Θ ((υ [],[AtH (δ cs3 Δ Δ)]))))
 (Θ ((υ [],[AtH (δ cs3 Δ Δ)])))))
 (br (A.lt n1 n6)
 (br (A.lt n6 n4)
 (Ae D (ω 235) [χ 0 0 n 3,iv n1,iv n6,iv n4,AtR (Fn.func 137) [] []] [δ cs1 Δ Δ] [.t,.N,.R,.X,.E] λcs3=>
 br (A.lt n4 (A.sub θ n5 n6))
 (br (A.lt (A.sub θ n5 n6) n3)
 (Ae D (ω 235) [χ 0 0 n 3,iv n4,iv (A.sub θ n5 n6),iv n3,AtR (Fn.func 137) [] []] [δ cs3 Δ Δ] [.t,.N,.R,.X,.E] λcs5=>
 Θ ((υ [],[AtH (δ cs5 Δ Δ)])))
 (Θ ((υ [],[AtH (δ cs3 Δ Δ)]))))
 (Θ ((υ [],[AtH (δ cs3 Δ Δ)]))))
 (br (A.lt n4 (A.sub θ n5 n6))
 (br (A.lt (A.sub θ n5 n6) n3)
 (Ae D (ω 235) [χ 0 0 n 3,iv n4,iv (A.sub θ n5 n6),iv n3,AtR (Fn.func 137) [] []] [δ cs1 Δ Δ] [.t,.N,.R,.X,.E] λcs3=>
 Θ ((υ [],[AtH (δ cs3 Δ Δ)])))
 (Θ ((υ [],[AtH (δ cs1 Δ Δ)]))))
 (Θ ((υ [],[AtH (δ cs1 Δ Δ)])))))
 (br (A.lt n4 (A.sub θ n5 n6))
 (br (A.lt (A.sub θ n5 n6) n3)
 (Ae D (ω 235) [χ 0 0 n 3,iv n4,iv (A.sub θ n5 n6),iv n3,AtR (Fn.func 137) [] []] [δ cs1 Δ Δ] [.t,.N,.R,.X,.E] λcs3=>
 Θ ((υ [],[AtH (δ cs3 Δ Δ)])))
 (Θ ((υ [],[AtH (δ cs1 Δ Δ)]))))
 (Θ ((υ [],[AtH (δ cs1 Δ Δ)]))))))
 (br (A.lt n1 n6)
 (br (A.lt n6 n4)
 (Ae D (ω 235) [χ 0 0 n 3,iv n1,iv n6,iv n4,AtR (Fn.func 137) [] []] [δ cs1 Δ Δ] [.t,.N,.R,.X,.E] λcs3=>
 br (A.lt n4 (A.sub θ n5 n6))
 (br (A.lt (A.sub θ n5 n6) n3)
 (Ae D (ω 235) [χ 0 0 n 3,iv n4,iv (A.sub θ n5 n6),iv n3,AtR (Fn.func 137) [] []] [δ cs3 Δ Δ] [.t,.N,.R,.X,.E] λcs5=>
 Θ ((υ [],[AtH (δ cs5 Δ Δ)])))
 (Θ ((υ [],[AtH (δ cs3 Δ Δ)]))))
 (Θ ((υ [],[AtH (δ cs3 Δ Δ)]))))
 (br (A.lt n4 (A.sub θ n5 n6))
 (br (A.lt (A.sub θ n5 n6) n3)
 (Ae D (ω 235) [χ 0 0 n 3,iv n4,iv (A.sub θ n5 n6),iv n3,AtR (Fn.func 137) [] []] [δ cs1 Δ Δ] [.t,.N,.R,.X,.E] λcs3=>
 Θ ((υ [],[AtH (δ cs3 Δ Δ)])))
 (Θ ((υ [],[AtH (δ cs1 Δ Δ)]))))
 (Θ ((υ [],[AtH (δ cs1 Δ Δ)])))))
 (br (A.lt n4 (A.sub θ n5 n6))
 (br (A.lt (A.sub θ n5 n6) n3)
 (Ae D (ω 235) [χ 0 0 n 3,iv n4,iv (A.sub θ n5 n6),iv n3,AtR (Fn.func 137) [] []] [δ cs1 Δ Δ] [.t,.N,.R,.X,.E] λcs3=>
 Θ ((υ [],[AtH (δ cs3 Δ Δ)])))
 (Θ ((υ [],[AtH (δ cs1 Δ Δ)]))))
 (Θ ((υ [],[AtH (δ cs1 Δ Δ)]))))))
 (Ξ))))):=by kernel_rfl
theorem Vp(n0:Nat)(c0:List AV)(t1 t10 t11:Int):Dy A D As CI .n 235 0 (AU Hj 0).fst (AU Hj 0).snd [χ 0 0 n0 3,iv t1,AtR (Fn.func 137) [] [],iv t10,iv t11] [{ cells:=c0,st:=Δ,ex:=Δ }] =
 br (A.lt t10 t11)
 (br (A.lt 1 0)
 (Ξ)
 (unI (A.conv θ (A.shr Ω (A.conv Ω (A.add θ t10 t11)) 1)) λi=>
 br (i.blt n0) (EW c0 (0+i*3) 3 λcs=>
 dk [.I,.B,.L,.N] [.l cs] λn b xs=>
 unI t1 λi1=>
 br (i1.blt n0) (EW c0 (0+i1*3) 3 λcs1=>
 dk [.I,.B,.L,.N] [.l cs1] λn1 b1 xs1=>
 Ae D (ω 137) [ψ [iv n,bv b,Ψ xs],ψ [iv n1,bv b1,Ψ xs1]] [] [.i,.E] λn2=>
 br (A.lt n2 0)
 (AG D (AtB 235 0) [χ 0 0 n0 3,iv t1,AtR (Fn.func 137) [] [],iv (A.add θ (A.conv θ (A.shr Ω (A.conv Ω (A.add θ t10 t11)) 1)) 1),iv t11] [δ c0 Δ Δ] λr1 o1=>
 AE 1 [0] (AH.mk [(0,δ c0 Δ Δ)] 1 Ξ) [] r1 o1)
 (AG D (AtB 235 0) [χ 0 0 n0 3,iv t1,AtR (Fn.func 137) [] [],iv t10,iv (A.conv θ (A.shr Ω (A.conv Ω (A.add θ t10 t11)) 1))] [δ c0 Δ Δ] λr1 o1=>
 AE 1 [0] (AH.mk [(0,δ c0 Δ Δ)] 1 Ξ) [] r1 o1)) Ξ) Ξ))
 (Θ ((υ [iv 0,χ 0 0 n0 3,iv t1,iv t10],[AtH (δ c0 Δ Δ)]))):=by kernel_rfl
theorem Aa3(n0:Nat)(c0:List AV)(t10 t13:Int):Dy A D As CI .n 235 1 (AU Hj 1).fst (AU Hj 1).snd [χ 0 0 n0 3,iv t10,iv t13] [{ cells:=c0,st:=Δ,ex:=Δ }] =
 br (A.lt t13 (A.sub θ t10 1))
 (unI (A.add θ t13 1) λi=>
 br (i.blt n0) (EW c0 (0+i*3) 3 λcs=>
 dk [.I,.B,.L,.N] [.l cs] λn b xs=>
 unI t13 λi1=>
 br (i1.blt n0) (EW c0 (0+i1*3) 3 λcs1=>
 dk [.I,.B,.L,.N] [.l cs1] λn1 b1 xs1=>
 unI t13 λi2=>
 br (i2.blt n0) (br ((0+i2*3+3).ble c0.length) (unI (A.add θ t13 1) λi3=>
 br (i3.blt n0) (br ((0+i3*3+3).ble (AF c0 (0+i2*3) [iv n,bv b,Ψ xs]).length) (AG D (AtB 235 1) [χ 0 0 n0 3,iv t10,iv (A.add θ t13 1)] [δ (AF (AF c0 (0+i2*3) [iv n,bv b,Ψ xs]) (0+i3*3) [iv n1,bv b1,Ψ xs1]) Δ Δ] λr o=>
 AE 1 [0] (AH.mk [(0,δ (AF (AF c0 (0+i2*3) [iv n,bv b,Ψ xs]) (0+i3*3) [iv n1,bv b1,Ψ xs1]) Δ Δ)] 1 Ξ) [0] r o) Ξ) Ξ) Ξ) Ξ) Ξ) Ξ)
 (Θ ((υ [iv 2,χ 0 0 n0 3],[AtH (δ c0 Δ Δ)]))):=by kernel_rfl
theorem Vq(n0:Nat)(c0:List AV)(t2 t14 t15:Int):Dy A D As CI .n 235 2 (AU Hj 2).fst (AU Hj 2).snd [χ 0 0 n0 3,iv t2,AtR (Fn.func 137) [] [],iv t14,iv t15] [{ cells:=c0,st:=Δ,ex:=Δ }] =
 br (A.lt t14 t15)
 (br (A.lt 1 0)
 (Ξ)
 (unI t2 λi=>
 br (i.blt n0) (EW c0 (0+i*3) 3 λcs=>
 dk [.I,.B,.L,.N] [.l cs] λn b xs=>
 unI (A.conv θ (A.shr Ω (A.conv Ω (A.add θ t14 t15)) 1)) λi1=>
 br (i1.blt n0) (EW c0 (0+i1*3) 3 λcs1=>
 dk [.I,.B,.L,.N] [.l cs1] λn1 b1 xs1=>
 Ae D (ω 137) [ψ [iv n,bv b,Ψ xs],ψ [iv n1,bv b1,Ψ xs1]] [] [.i,.E] λn2=>
 br (A.lt n2 0)
 (AG D (AtB 235 2) [χ 0 0 n0 3,iv t2,AtR (Fn.func 137) [] [],iv t14,iv (A.conv θ (A.shr Ω (A.conv Ω (A.add θ t14 t15)) 1))] [δ c0 Δ Δ] λr1 o1=>
 AE 1 [0] (AH.mk [(0,δ c0 Δ Δ)] 1 Ξ) [] r1 o1)
 (AG D (AtB 235 2) [χ 0 0 n0 3,iv t2,AtR (Fn.func 137) [] [],iv (A.add θ (A.conv θ (A.shr Ω (A.conv Ω (A.add θ t14 t15)) 1)) 1),iv t15] [δ c0 Δ Δ] λr1 o1=>
 AE 1 [0] (AH.mk [(0,δ c0 Δ Δ)] 1 Ξ) [] r1 o1)) Ξ) Ξ))
 (Θ ((υ [iv 4,χ 0 0 n0 3,iv t2,iv t14],[AtH (δ c0 Δ Δ)]))):=by kernel_rfl
theorem Aa4(n0:Nat)(c0:List AV)(t14 t17:Int):Dy A D As CI .n 235 3 (AU Hj 3).fst (AU Hj 3).snd [χ 0 0 n0 3,iv t14,iv t17] [{ cells:=c0,st:=Δ,ex:=Δ }] =
 br (A.lt t14 t17)
 (unI (A.sub θ t17 1) λi=>
 br (i.blt n0) (EW c0 (0+i*3) 3 λcs=>
 dk [.I,.B,.L,.N] [.l cs] λn b xs=>
 unI t17 λi1=>
 br (i1.blt n0) (EW c0 (0+i1*3) 3 λcs1=>
 dk [.I,.B,.L,.N] [.l cs1] λn1 b1 xs1=>
 unI t17 λi2=>
 br (i2.blt n0) (br ((0+i2*3+3).ble c0.length) (unI (A.sub θ t17 1) λi3=>
 br (i3.blt n0) (br ((0+i3*3+3).ble (AF c0 (0+i2*3) [iv n,bv b,Ψ xs]).length) (AG D (AtB 235 3) [χ 0 0 n0 3,iv t14,iv (A.sub θ t17 1)] [δ (AF (AF c0 (0+i2*3) [iv n,bv b,Ψ xs]) (0+i3*3) [iv n1,bv b1,Ψ xs1]) Δ Δ] λr o=>
 AE 1 [0] (AH.mk [(0,δ (AF (AF c0 (0+i2*3) [iv n,bv b,Ψ xs]) (0+i3*3) [iv n1,bv b1,Ψ xs1]) Δ Δ)] 1 Ξ) [0] r o) Ξ) Ξ) Ξ) Ξ) Ξ) Ξ)
 (Θ ((υ [iv 6,χ 0 0 n0 3],[AtH (δ c0 Δ Δ)]))):=by kernel_rfl
theorem Vr(n0:Nat)(c0:List AV)(t1 t2 t3 t18 t19 t20 t21 t22:Int):Dy A D As CI .n 235 4 (AU Hj 4).fst (AU Hj 4).snd [χ 0 0 n0 3,iv t1,iv t2,iv t3,AtR (Fn.func 137) [] [],iv t18,iv t19,iv t20,iv t21,iv t22] [{ cells:=c0,st:=Δ,ex:=Δ }] =
 br (A.lt t20 t21)
 (br (A.lt 1 0)
 (Ξ)
 (unI (A.sub θ t22 (A.conv θ (A.shr Ω (A.conv Ω (A.add θ t20 t21)) 1))) λi=>
 br (i.blt n0) (EW c0 (0+i*3) 3 λcs=>
 dk [.I,.B,.L,.N] [.l cs] λn b xs=>
 unI (A.conv θ (A.shr Ω (A.conv Ω (A.add θ t20 t21)) 1)) λi1=>
 br (i1.blt n0) (EW c0 (0+i1*3) 3 λcs1=>
 dk [.I,.B,.L,.N] [.l cs1] λn1 b1 xs1=>
 Ae D (ω 137) [ψ [iv n,bv b,Ψ xs],ψ [iv n1,bv b1,Ψ xs1]] [] [.i,.E] λn2=>
 br (A.lt n2 0)
 (AG D (AtB 235 4) [χ 0 0 n0 3,iv t1,iv t2,iv t3,AtR (Fn.func 137) [] [],iv t18,iv t19,iv t20,iv (A.conv θ (A.shr Ω (A.conv Ω (A.add θ t20 t21)) 1)),iv t22] [δ c0 Δ Δ] λr1 o1=>
 AE 1 [0] (AH.mk [(0,δ c0 Δ Δ)] 1 Ξ) [] r1 o1)
 (AG D (AtB 235 4) [χ 0 0 n0 3,iv t1,iv t2,iv t3,AtR (Fn.func 137) [] [],iv t18,iv t19,iv (A.add θ (A.conv θ (A.shr Ω (A.conv Ω (A.add θ t20 t21)) 1)) 1),iv t21,iv t22] [δ c0 Δ Δ] λr1 o1=>
 AE 1 [0] (AH.mk [(0,δ c0 Δ Δ)] 1 Ξ) [] r1 o1)) Ξ) Ξ))
 (Θ ((υ [iv 8,χ 0 0 n0 3,iv t1,iv t2,iv t3,AtR (Fn.func 137) [] [],iv t18,iv t19,iv t20],[AtH (δ c0 Δ Δ)]))):=by kernel_rfl
theorem ArK(n0:Nat)(c0:List AV)(x1 x2 x3:Int):BZ A D As Qi .n 265 XC [χ 0 0 n0 3,iv x1,iv x2,iv x3,AtR (Fn.func 137) [] []] [{ cells:=c0,st:=Δ,ex:=Δ }] =
 Ae D (AtB 265 0) [χ 0 0 n0 3,iv x2,AtR (Fn.func 137) [] [],iv (A.sub θ x2 x1),iv (A.sub θ x3 x2)] [δ c0 Δ Δ] [.t,.C,.x,.X,.Y] λc l o=>
 br (Bn 1 c)
 (dk [.C,.q 0 3,.I,.C,.f 137,.I,.N,.R,.X,.E] [.l l,.o o] λn n1 n2 cs1=>
 Ae D (ω 275) [χ 0 0 n 3,iv (A.sub θ n1 n2),iv n1,iv n2,AtR (Fn.func 137) [] []] [δ cs1 Δ Δ] [.t,.N,.R,.X,.E] λcs3=>
 Θ ((υ [],[AtH (δ cs3 Δ Δ)])))
 (Ξ):=by kernel_rfl
theorem Vs(n0:Nat)(c0:List AV)(t2 t10 t11:Int):Dy A D As Qi .n 265 0 (AU XC 0).fst (AU XC 0).snd [χ 0 0 n0 3,iv t2,AtR (Fn.func 137) [] [],iv t10,iv t11] [{ cells:=c0,st:=Δ,ex:=Δ }] =
 br (A.eq t10 t11)
 (Θ ((υ [iv 0,χ 0 0 n0 3,iv t2,AtR (Fn.func 137) [] [],iv t10],[AtH (δ c0 Δ Δ)])))
 (br (A.lt t11 t10)
 (Ae D (ω 275) [χ 0 0 n0 3,iv (A.sub θ t2 t10),iv t2,iv t11,AtR (Fn.func 137) [] []] [δ c0 Δ Δ] [.t,.N,.R,.X,.E] λcs1=>
 AG D (AtB 265 0) [χ 0 0 n0 3,iv t2,AtR (Fn.func 137) [] [],iv (A.sub θ t10 t11),iv t11] [δ cs1 Δ Δ] λr1 o1=>
 AE 1 [0] (AH.mk [(0,δ cs1 Δ Δ)] 1 Ξ) [0] r1 o1)
 (Ae D (ω 275) [χ 0 0 n0 3,iv (A.sub θ t2 t10),iv (A.sub θ (A.add θ t2 t11) t10),iv t10,AtR (Fn.func 137) [] []] [δ c0 Δ Δ] [.t,.N,.R,.X,.E] λcs1=>
 AG D (AtB 265 0) [χ 0 0 n0 3,iv t2,AtR (Fn.func 137) [] [],iv t10,iv (A.sub θ t11 t10)] [δ cs1 Δ Δ] λr1 o1=>
 AE 1 [0] (AH.mk [(0,δ cs1 Δ Δ)] 1 Ξ) [0] r1 o1)):=by kernel_rfl
theorem ArL(n0:Nat)(c0:List AV)(x1 x2 x3:Int):BZ A D As TI .n 275 XD [χ 0 0 n0 3,iv x1,iv x2,iv x3,AtR (Fn.func 137) [] []] [{ cells:=c0,st:=Δ,ex:=Δ }] =
 Ae D (AtB 275 0) [χ 0 0 n0 3,iv x1,iv x2,iv x3,iv 0] [δ c0 Δ Δ] [.t,.C,.x,.X,.Y] λc l o=>
 br (Bn 1 c)
 (dk [.C,.q 0 3,.N,.R,.X,.E] [.l l,.o o] λ_ cs1=>
 Θ ((υ [],[AtH (δ cs1 Δ Δ)])))
 (Ξ):=by kernel_rfl
theorem Aa7(n0:Nat)(c0:List AV)(t1 t2 t3 t10:Int):Dy A D As TI .n 275 0 (AU XD 0).fst (AU XD 0).snd [χ 0 0 n0 3,iv t1,iv t2,iv t3,iv t10] [{ cells:=c0,st:=Δ,ex:=Δ }] =
 br (A.lt t10 t3)
 (unI (A.add θ t2 t10) λi=>
 br (i.blt n0) (EW c0 (0+i*3) 3 λcs=>
 dk [.I,.B,.L,.N] [.l cs] λn b xs=>
 unI (A.add θ t1 t10) λi1=>
 br (i1.blt n0) (EW c0 (0+i1*3) 3 λcs1=>
 dk [.I,.B,.L,.N] [.l cs1] λn1 b1 xs1=>
 unI (A.add θ t1 t10) λi2=>
 br (i2.blt n0) (br ((0+i2*3+3).ble c0.length) (unI (A.add θ t2 t10) λi3=>
 br (i3.blt n0) (br ((0+i3*3+3).ble (AF c0 (0+i2*3) [iv n,bv b,Ψ xs]).length) (AG D (AtB 275 0) [χ 0 0 n0 3,iv t1,iv t2,iv t3,iv (A.add θ t10 1)] [δ (AF (AF c0 (0+i2*3) [iv n,bv b,Ψ xs]) (0+i3*3) [iv n1,bv b1,Ψ xs1]) Δ Δ] λr o=>
 AE 1 [0] (AH.mk [(0,δ (AF (AF c0 (0+i2*3) [iv n,bv b,Ψ xs]) (0+i3*3) [iv n1,bv b1,Ψ xs1]) Δ Δ)] 1 Ξ) [0] r o) Ξ) Ξ) Ξ) Ξ) Ξ) Ξ)
 (Θ ((υ [iv 0,χ 0 0 n0 3],[AtH (δ c0 Δ Δ)]))):=by kernel_rfl
theorem Aoz(n0:Nat)(c0:List AV):BZ A D As Od .n 140 Xl [χ 0 0 n0 3,AtR (Fn.func 141) [] []] [{ cells:=c0,st:=Δ,ex:=Δ }] =
 Ae D (ω 199) [χ 0 0 n0 3,AtR (Fn.func 141) [] []] [δ c0 Δ Δ] [.i,.R,.X,.E] λn cs=>
 br (A.eq n (-1))
 (Θ ((χ 0 0 n0 3,[AtH (δ cs Δ Δ)])))
 (Ae D (AtB 140 0) [χ 0 0 n0 3,AtR (Fn.func 141) [] [],iv n,iv (A.add θ n 1)] [δ cs Δ Δ] [.t,.C,.x,.X,.Y] λc1 l1 o1=>
 br (Bn 1 c1)
 (dk [.C,.q 0 3,.I,.N,.R,.X,.E] [.l l1,.o o1] λn1 n2 cs2=>
 unI n2 λi=>
 br (Jf i n1 n1) (br ((0+i*3+(n1-i)*3).ble cs2.length) (unI n2 λi1=>
 br (Jf 0 i1 n1) (Θ ((χ 0 0 i1 3,[AtH (δ (AF cs2 (0+i*3) (BS [iv 0,bv Φ,AV.v (Value.slice Ξ 0 0)] ((n1-i)*3))) Δ Δ)]))) Ξ) Ξ) Ξ)
 (Ξ)):=by kernel_rfl
theorem Vk(n0:Nat)(c0:List AV)(t5 t6:Int):Dy A D As Od .n 140 0 (AU Xl 0).fst (AU Xl 0).snd [χ 0 0 n0 3,AtR (Fn.func 141) [] [],iv t5,iv t6] [{ cells:=c0,st:=Δ,ex:=Δ }] =
 br (A.lt t6 ↑n0)
 (unI t6 λi=>
 br (i.blt n0) (EW c0 (0+i*3) 3 λcs=>
 dk [.I,.B,.L,.N] [.l cs] λn b xs=>
 Ae D (ω 141) [ψ [iv n,bv b,Ψ xs]] [] [.b,.E] λb1=>
 br b1
 (AG D (AtB 140 0) [χ 0 0 n0 3,AtR (Fn.func 141) [] [],iv t5,iv (A.add θ t6 1)] [δ c0 Δ Δ] λr1 o1=>
 AE 1 [0] (AH.mk [(1,bk [iv n,bv b,Ψ xs]),(0,δ c0 Δ Δ)] 2 Ξ) [] r1 o1)
 (unI t5 λi1=>
 br (i1.blt n0) (br ((0+i1*3+3).ble c0.length) (AG D (AtB 140 0) [χ 0 0 n0 3,AtR (Fn.func 141) [] [],iv (A.add θ t5 1),iv (A.add θ t6 1)] [δ (AF c0 (0+i1*3) [iv n,bv b,Ψ xs]) Δ Δ] λr1 o1=>
 AE 1 [0] (AH.mk [(0,δ (AF c0 (0+i1*3) [iv n,bv b,Ψ xs]) Δ Δ),(1,bk [iv n,bv b,Ψ xs])] 2 Ξ) [0] r1 o1) Ξ) Ξ)) Ξ)
 (Θ ((υ [iv 0,χ 0 0 n0 3,iv t5],[AtH (δ c0 Δ Δ)]))):=by kernel_rfl
theorem Arz(n0:Nat)(c0:List AV):BZ A D As Og .n 199 Xv [χ 0 0 n0 3,AtR (Fn.func 141) [] []] [{ cells:=c0,st:=Δ,ex:=Δ }] =
 Ae D (AtB 199 0) [χ 0 0 n0 3,AtR (Fn.func 141) [] [],iv ↑n0,iv 0] [δ c0 Δ Δ] [.t,.C,.x,.X,.Y] λc l o=>
 br (Bn 0 c)
 (dk [.C,.q 0 3,.I,.N,.R,.X,.E] [.l l,.o o] λ_ n1 cs1=>
 Θ ((iv n1,[AtH (δ cs1 Δ Δ)])))
 (br (Bn 1 c)
 (dk [.C,.q 0 3,.N,.R,.X,.E] [.l l,.o o] λ_ cs1=>
 Θ ((iv (-1),[AtH (δ cs1 Δ Δ)])))
 (Ξ)):=by kernel_rfl
theorem Rr(n0:Nat)(c0:List AV)(t7 t8:Int):Dy A D As Og .n 199 0 (AU Xv 0).fst (AU Xv 0).snd [χ 0 0 n0 3,AtR (Fn.func 141) [] [],iv t7,iv t8] [{ cells:=c0,st:=Δ,ex:=Δ }] =
 br (A.lt t8 t7)
 (unI t8 λi=>
 br (i.blt n0) (EW c0 (0+i*3) 3 λcs=>
 dk [.I,.B,.L,.N] [.l cs] λn b xs=>
 Ae D (ω 141) [ψ [iv n,bv b,Ψ xs]] [] [.b,.E] λb1=>
 br b1
 (Θ ((υ [bv Δ,χ 0 0 n0 3,iv t8],[AtH (δ c0 Δ Δ)])))
 (AG D (AtB 199 0) [χ 0 0 n0 3,AtR (Fn.func 141) [] [],iv t7,iv (A.add θ t8 1)] [δ c0 Δ Δ] λr1 o1=>
 AE 1 [0] (AH.mk [(0,δ c0 Δ Δ)] 1 Ξ) [] r1 o1)) Ξ)
 (Θ ((υ [iv 0,χ 0 0 n0 3],[AtH (δ c0 Δ Δ)]))):=by kernel_rfl
end
section
open Go.RowKit
def AkM:MFn:=AC [] 138
def Aj1:Hnt:=⟨[(145,(.agg AK,[]))],[],[(4,[.bool]),(6,[.ls])]⟩
def Afa:MFn:=AC [⟨74,(mB 917524),[(1000004,3)],[2,17],[(1,((mB 20),([],[])))]⟩] 62
def AbK:Hnt:=⟨[(135,(.sl 0 3,[.row Δ])),(136,(.tup [],[.row Δ])),(138,(.agg AK,[])),(139,(.agg AK,[])),(140,(.sl 0 3,[.row Δ]))],[(0,[(1,([.ptr 0 0,.ptr 1 0],[.box Br,.box [.sl 3 3,.bool,.ls],.del,.row Δ]))])],[(9,[.ls]),(14,AK),(21,Bw),(22,Bw),(24,[.int .i64]),(27,[.ls]),(34,[.ls]),(36,Bw),(38,[.int .i64]),(40,[.int .i64]),(44,[.ls]),(47,[.ls]),(49,Bw),(51,AK),(53,AK),(55,Bw),(58,[.ls]),(60,[.int .i64]),(62,AK),(70,[.ls]),(73,Br)]⟩
def GD:List (Nat × MFn):=[(138,AkM),(62,Afa)]
variable (A:Ar) (D:Orc)
theorem Aq4(x0_0:Bool)(x0_1:Rw):BZ A D As Aj1 .n 138 AkM [ψ [bv x0_0,Ψ x0_1]] [] =
 Ae D (ω 145) [bv x0_0,Ψ x0_1] [] [.a,.B,.L,.N,.E] λb xs=>
 Θ ((ψ [bv b,Ψ xs],[])):=by kernel_rfl
theorem e62(x0_0:Rw)(x0_1:Bool)(x0_2:Rw):BZ A D As AbK .n 62 Afa [ψ [Ψ x0_0,bv x0_1,Ψ x0_2]] [] =
 Ae D (ω 135) [Ψ x0_0] [] [.q 0 3,.R,.X,.E] λn cs=>
 Ae D (ω 136) [χ 0 0 n 3,AtR (Fn.func 137) [] []] [δ cs Δ Δ] [.t,.N,.R,.X,.E] λcs2=>
 Ae D (ω 138) [ψ [bv x0_1,Ψ x0_2]] [] [.a,.B,.L,.N,.E] λb xs=>
 br ((0+n*3).ble cs2.length) (AG D (AtB 62 0) [AtA 0 0,AtA 1 0,Ψ (Bh n 3 (ο (n*3) cs2)),iv ↑n,iv 0] [bk [Ψ [],bv Φ,Ψ []],bk [χ 2 0 0 3,bv b,Ψ xs],δ [] Δ Δ] λr3 o3=>
 dk [.t,.C,.x,.X] [.v r3] λc2 l4=>
 br (Bn 1 c2)
 (dk [.P 0 0,.P 1 0,.N,.T,.L,.B,.L,.N,.T,.C,.q 3 3,.B,.L,.N,.D,.R,.X,.E] [.l l4,.o o3] λ_ _ _ n1 b2 xs3 cs7=>
 Ae D (ω 140) [χ 0 0 n1 3,AtR (Fn.func 141) [] []] [δ cs7 Δ Δ] [.q 0 3,.R,.X,.E] λn2 cs8=>
 br ((0+n2*3).ble cs8.length) (Θ ((ψ [Ψ (Bh n2 3 (ο (n2*3) cs8)),bv b2,Ψ xs3],[]))) Ξ)
 (Ξ)) Ξ:=by kernel_rfl
theorem AjH(r0:Rw)(r1:Bool)(r2:Rw)(n4:Nat)(k1:Bool)(k2:Rw)(c4:List AV)(t17:Rw)(t18 t19:Int):Dy A D As AbK .n 62 0 (AU Afa 0).fst (AU Afa 0).snd [AtA 0 0,AtA 1 0,Ψ t17,iv t18,iv t19] [bk [Ψ r0,bv r1,Ψ r2],bk [χ 2 0 n4 3,bv k1,Ψ k2],{ cells:=c4,st:=Δ,ex:=Δ }] =
 br (A.lt t19 t18)
 (unI t19 λi=>
 BC t17 i λcs=>
 dk [.I,.B,.L,.N] [.l cs] λn b xs=>
 br (A.lt n 0)
 (AG D (AtB 62 0) [AtA 0 0,AtA 1 0,Ψ t17,iv t18,iv (A.add θ t19 1)] [bk [Ψ r0,bv r1,Ψ r2],bk [χ 2 0 n4 3,bv k1,Ψ k2],δ c4 Δ Δ] λr o=>
 AE 3 [0,1,2] (AH.mk [(0,bk [Ψ r0,bv r1,Ψ r2]),(3,bk [iv n,bv b,Ψ xs]),(1,bk [χ 2 0 n4 3,bv k1,Ψ k2]),(2,δ c4 Δ Δ)] 4 Ξ) [0] r o)
 (br (A.le 0 (A.sub θ (↑n4) 1))
 (unI (A.sub θ (↑n4) 1) λi1=>
 br (i1.blt n4) (EW c4 (0+i1*3+0) 1 λcs1=>
 dk [.I,.N] [.l cs1] λn1=>
 br (A.eq n1 n)
 (unI (A.sub θ (↑n4) 1) λi2=>
 br (i2.blt n4) (EW c4 (0+i2*3+1) 2 λcs2=>
 dk [.B,.L,.N] [.l cs2] λb1 xs1=>
 Ae D (ω 139) [ψ [bv b1,Ψ xs1],ψ [bv b,Ψ xs]] [] [.a,.B,.L,.N,.E] λb2 xs2=>
 unI (A.sub θ (↑n4) 1) λi3=>
 br (i3.blt n4) (br ((0+i3*3+1+2).ble c4.length) (AG D (AtB 62 0) [AtA 0 0,AtA 1 0,Ψ t17,iv t18,iv (A.add θ t19 1)] [bk [Ψ r0,bv r1,Ψ r2],bk [χ 2 0 n4 3,bv k1,Ψ k2],δ (AF c4 (0+i3*3+1) [bv b2,Ψ xs2]) Δ Δ] λr3 o1=>
 AE 3 [0,1,2] (AH.mk [(0,bk [Ψ r0,bv r1,Ψ r2]),(2,δ (AF c4 (0+i3*3+1) [bv b2,Ψ xs2]) Δ Δ),(3,bk [iv n,bv b,Ψ xs]),(1,bk [χ 2 0 n4 3,bv k1,Ψ k2])] 4 Ξ) [2,0] r3 o1) Ξ) Ξ) Ξ)
 (Ae D (ω 138) [ψ [bv b,Ψ xs]] [] [.a,.B,.L,.N,.E] λb1 xs1=>
 br (Bf (n4+1) 40) (br ((0+n4*3).ble c4.length) (AG D (AtB 62 0) [AtA 0 0,AtA 1 0,Ψ t17,iv t18,iv (A.add θ t19 1)] [bk [Ψ r0,bv r1,Ψ r2],bk [χ 2 0 (n4+1) 3,bv k1,Ψ k2],δ (AtD 0 (ο (0+n4*3) c4)++[iv n,bv b1,Ψ xs1]) Δ Δ] λr3 o1=>
 AE 3 [0,1,5] (AH.mk [(0,bk [Ψ r0,bv r1,Ψ r2]),(1,bk [χ 5 0 (n4+1) 3,bv k1,Ψ k2]),(5,δ (AtD 0 (ο (0+n4*3) c4)++[iv n,bv b1,Ψ xs1]) Δ Δ),(4,δ [iv n,bv b1,Ψ xs1] Δ Δ),(3,bk [iv n,bv b,Ψ xs])] 6 Ξ) [2,1,0] r3 o1) Ξ) Ξ)) Ξ)
 (Ae D (ω 138) [ψ [bv b,Ψ xs]] [] [.a,.B,.L,.N,.E] λb1 xs1=>
 br (Bf (n4+1) 40) (br ((0+n4*3).ble c4.length) (AG D (AtB 62 0) [AtA 0 0,AtA 1 0,Ψ t17,iv t18,iv (A.add θ t19 1)] [bk [Ψ r0,bv r1,Ψ r2],bk [χ 2 0 (n4+1) 3,bv k1,Ψ k2],δ (AtD 0 (ο (0+n4*3) c4)++[iv n,bv b1,Ψ xs1]) Δ Δ] λr3 o1=>
 AE 3 [0,1,5] (AH.mk [(0,bk [Ψ r0,bv r1,Ψ r2]),(1,bk [χ 5 0 (n4+1) 3,bv k1,Ψ k2]),(5,δ (AtD 0 (ο (0+n4*3) c4)++[iv n,bv b1,Ψ xs1]) Δ Δ),(4,δ [iv n,bv b1,Ψ xs1] Δ Δ),(3,bk [iv n,bv b,Ψ xs])] 6 Ξ) [2,1,0] r3 o1) Ξ) Ξ)))
 (Θ ((υ [iv 0,AtA 0 0,AtA 1 0],[AtH (bk [Ψ r0,bv r1,Ψ r2]),AtH (bk [χ 3 0 n4 3,bv k1,Ψ k2]),BO.del,AtH (δ c4 Δ Δ)]))):=by kernel_rfl
end
section
open Go.RowKit
def Xy:MFn:=AC [⟨25,[Δ,Δ],[],[],[(1,([Δ],([],[])))]⟩] 205
def Qh:Hnt:=⟨[(144,(.tup [.ls,.ls,.int .i64],[])),(202,(.ls,[]))],[(0,[(1,([.ls],[]))])],[]⟩
def AkS:MFn:=AC [] 146
def Aj7:Hnt:=⟨[(139,(.agg AK,[])),(161,(.agg AK,[]))],[],[(5,AK),(6,AK)]⟩
def ApX:MFn:=AC [] 66
def Api:Hnt:=⟨[(126,(.agg AK,[])),(139,(.agg AK,[])),(142,(.agg AK,[])),(144,(.tup [.ls,.ls,.int .i64],[])),(145,(.agg AK,[])),(146,(.agg AK,[]))],[],[(9,AK),(11,AK),(15,[.ls]),(17,[.ls]),(28,[.bool]),(30,[.bool]),(35,[.bool]),(39,[.bool]),(41,[.bool]),(48,AK),(51,AK),(52,AK),(54,AK),(55,AK)]⟩
def AkQ:MFn:=AC [] 143
def Aj5:Hnt:=⟨[(64,(.int .i64,[])),(66,(.tup [.agg AK,.agg AK,.int .i64],[]))],[],[(10,AK),(11,AK),(22,AK),(26,AK)]⟩
def AkT:MFn:=AC [] 147
def Aj8:Hnt:=⟨[(145,(.agg AK,[])),(205,(.ls,[]))],[],[(6,[.ls]),(8,[.ls])]⟩
def QN:List (Nat × MFn):=[(205,Xy),(146,AkS),(66,ApX),(143,AkQ),(147,AkT)]
variable (A:Ar) (D:Orc)
theorem ArD(x0 x1:Rw):BZ A D As Qh .n 205 Xy [Ψ x0,Ψ x1] [] =
 Ae D (ω 202) [Ψ x0] [] [.l,.E] λxs=>
 Ae D (ω 202) [Ψ x1] [] [.l,.E] λxs1=>
 Ae D (AtB 205 0) [Ψ xs,Ψ xs1] [] [.t,.C,.x,.X,.Y] λc l o2=>
 br (Bn 1 c)
 (dk [.L,.N,.E] [.l l,.o o2] λxs2=>
 Θ ((Ψ xs2,[])))
 (Ξ):=by kernel_rfl
theorem Vm(t0 t1:Rw):Dy A D As Qh .n 205 0 (AU Xy 0).fst (AU Xy 0).snd [Ψ t0,Ψ t1] [] =
 br (A.lt 0 ↑(AI t1))
 (Ae D (ω 144) [Ψ t0,Ψ t1] [] [.t,.L,.L,.I,.N,.E] λ_ xs1 _=>
 AG D (AtB 205 0) [Ψ t1,Ψ xs1] [] λr1 o1=>
 AE 0 [] (AH.mk [] 0 Ξ) [] r1 o1)
 (Θ ((υ [iv 0,Ψ t0],[]))):=by kernel_rfl
theorem Ara(x0_0:Bool)(x0_1:Rw)(x1_0:Bool)(x1_1:Rw):BZ A D As Aj7 .n 146 AkS [ψ [bv x0_0,Ψ x0_1],ψ [bv x1_0,Ψ x1_1]] [] =
 Ae D (ω 161) [ψ [bv x1_0,Ψ x1_1]] [] [.a,.B,.L,.N,.E] λb xs=>
 Ae D (ω 139) [ψ [bv x0_0,Ψ x0_1],ψ [bv b,Ψ xs]] [] [.a,.B,.L,.N,.E] λb1 xs1=>
 Θ ((ψ [bv b1,Ψ xs1],[])):=by kernel_rfl
theorem e66(x0_0:Bool)(x0_1:Rw)(x1_0:Bool)(x1_1:Rw):BZ A D As Api (.b (.b .n (.b .n (.b (.t .n) (.f .n)))) .n) 66 ApX [ψ [bv x0_0,Ψ x0_1],ψ [bv x1_0,Ψ x1_1]] [] =
 Ae D (ω 142) [ψ [bv x0_0,Ψ x0_1]] [] [.a,.B,.L,.N,.E] λb xs=>
 Ae D (ω 142) [ψ [bv x1_0,Ψ x1_1]] [] [.a,.B,.L,.N,.E] λb1 xs1=>
 Ae D (ω 144) [Ψ xs,Ψ xs1] [] [.t,.L,.L,.I,.N,.E] λxs2 xs3 n=>
 br (A.eq n 0)
 (br (A.not (A.beq b b1))
 (Ae D (ω 145) [bv Δ,Ψ xs2] [] [.a,.B,.L,.N,.E] λb2 xs4=>
 Ae D (ω 145) [bv b,Ψ xs3] [] [.a,.B,.L,.N,.E] λb3 xs5=>
 br (A.not (A.beq b b1)) (br (A.lt 0 ↑(AI xs3))
 (Ae D (ω 126) [iv 1] [] [.a,.B,.L,.N,.E] λb4 xs6=>
 Ae D (ω 146) [ψ [bv b2,Ψ xs4],ψ [bv b4,Ψ xs6]] [] [.a,.B,.L,.N,.E] λb5 xs7=>
 Ae D (ω 139) [ψ [bv b3,Ψ xs5],ψ [bv b1,Ψ xs1]] [] [.a,.B,.L,.N,.E] λb6 xs8=>
 Θ ((υ [ψ [bv b5,Ψ xs7],ψ [bv b6,Ψ xs8],iv 0],[])))
 (Θ ((υ [ψ [bv b2,Ψ xs4],ψ [bv b3,Ψ xs5],iv 0],[])))) Ξ)
 (Ae D (ω 145) [bv Φ,Ψ xs2] [] [.a,.B,.L,.N,.E] λb2 xs4=>
 Ae D (ω 145) [bv b,Ψ xs3] [] [.a,.B,.L,.N,.E] λb3 xs5=>
 br (A.not (A.beq b b1)) Ξ (Θ ((υ [ψ [bv b2,Ψ xs4],ψ [bv b3,Ψ xs5],iv 0],[])))))
 (Θ ((υ [ψ [bv Φ,Ψ []],ψ [bv Φ,Ψ []],iv n],[]))):=by kernel_rfl
theorem Aq8(x0_0:Bool)(x0_1:Rw)(x1_0:Bool)(x1_1:Rw):BZ A D As Aj5 .n 143 AkQ [ψ [bv x0_0,Ψ x0_1],ψ [bv x1_0,Ψ x1_1]] [] =
 Ae D (ω 66) [ψ [bv x0_0,Ψ x0_1],ψ [bv x1_0,Ψ x1_1]] [] [.t,.A,.B,.L,.N,.A,.B,.L,.N,.I,.N,.E] λb xs b1 xs1 n=>
 br (A.eq n 0)
 (Ae D (ω 64) [ψ [bv b1,Ψ xs1]] [] [.i,.E] λn1=>
 br (A.eq n1 0)
 (Θ ((υ [ψ [bv b,Ψ xs],iv 0],[])))
 (Θ ((υ [ψ [bv Φ,Ψ []],iv 1],[]))))
 (Θ ((υ [ψ [bv Φ,Ψ []],iv n],[]))):=by kernel_rfl
theorem Arb(x0_0:Bool)(x0_1:Rw)(x1_0:Bool)(x1_1:Rw):BZ A D As Aj8 .n 147 AkT [ψ [bv x0_0,Ψ x0_1],ψ [bv x1_0,Ψ x1_1]] [] =
 Ae D (ω 205) [Ψ x0_1,Ψ x1_1] [] [.l,.E] λxs=>
 Ae D (ω 145) [bv Φ,Ψ xs] [] [.a,.B,.L,.N,.E] λb xs1=>
 Θ ((ψ [bv b,Ψ xs1],[])):=by kernel_rfl
end
