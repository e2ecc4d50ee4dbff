/- Functions of the program -/
import Derived.Test.YtpncilciembjdaaGreatDoorJAU
set_option linter.all false
open Bool renaming true->U
open List renaming drop->Atg,take->ε
open Option renaming none->Θ,some->Δ
namespace Go.Proofs.YtpncilciembjdaaGreatDoor
noncomputable section
open ABlk renaming mk->Ψ
open AV renaming agg->ξ,fn->Att,ls->Φ,ptr->ψ,sl->π,tup->Ath
open BO renaming set->Atb
open IntKind renaming i64->Ω
open Key renaming fn->ω,lp->ο
open Tryz renaming prog->ζ
section
open Go.RowKit
def XZ:List (Nat × Nat):=[(67,0),(62,0),(135,0),(136,0),(196,0),(234,0),(235,0),(265,0),(275,0),(140,0),(199,0)]
def Wz:MFn:=JP ζ Bn [⟨74,(mB 917524),[(1000004,3)],[2,17],[(1,((mB 20),([],[1000000])))]⟩] U false 62
def NF:Hnt:=⟨[(135,(.sl 0 3,[.row U])),(136,(.tup [],[.row U])),(138,(.agg Bv,[])),(139,(.agg Bv,[])),(140,(.sl 0 3,[.row U]))],[(0,[(1,([.ptr 0 0,.ptr 1 0],[.box Bx,.box [.sl 3 3,.bool,.ls],.del,.row U]))])],[(9,[.ls]),(14,Bv),(21,Bz),(22,Bz),(24,[.int .i64]),(27,[.ls]),(34,[.ls]),(36,Bz),(38,[.int .i64]),(40,[.int .i64]),(44,[.ls]),(47,[.ls]),(49,Bz),(51,Bv),(53,Bv),(55,Bz),(58,[.ls]),(60,[.int .i64]),(62,Bv),(70,[.ls]),(73,Bx)]⟩
def Apa:MFn:=AE [⟨21,(mB 3596),[],[2,3,9],[(1,((mB 12),([],[1000000])))]⟩] 67
def Ao9:MFn:=AE [⟨49,(mB 1835068),[],[2,3,5],[(1,((mB 60),([],[])))]⟩] 65
def WV:List (Nat × MFn):=[(62,Wz),(67,Apa),(65,Ao9)]
variable (A:Ar) (D:Orc)
theorem Aoi(x0:Rw)(x1:Bool)(x2:Rw):BZ A D XZ NF .n 62 Wz [ξ [Φ x0,bv x1,Φ x2]] [] =
 Ag D (ω 135) [Φ x0] [] [.q 0 3,.R,.X,.E] λn cs=>
 Ag D (ω 136) [π 0 0 n 3,Att (Fn.func 137) [] []] [Ψ cs U U] [.t,.N,.R,.X,.E] λcs2=>
 Ag D (ω 138) [ξ [bv x1,Φ x2]] [] [.a,.B,.L,.N,.E] λb xs=>
 br ((0+n*3).ble cs2.length) (AT D (ο 62 0) [ψ 0 0,ψ 1 0,Φ (Bk n 3 (ε (n*3) cs2)),iv ↑n,iv 0] [bk [Φ [],bv false,Φ []],bk [π 2 0 0 3,bv b,Φ xs],Ψ [] U U] λr3 o3=>
 dk [.t,.C,.x,.X] [.v r3] λc2 l4=>
 br (Bg 1 c2)
 (dk [.P 0 0,.P 1 0,.N,.T,.L,.B,.L,.N,.T,.C,.q 3 3,.B,.L,.N,.D,.R,.X,.E] [.l l4,.o o3] λ_ _ _ n1 b2 xs3 cs7=>
 Ag D (ω 140) [π 0 0 n1 3,Att (Fn.func 141) [] []] [Ψ cs7 U U] [.q 0 3,.R,.X,.E] λn2 cs8=>
 Δ ((ξ [π 0 0 n2 3,bv b2,Φ xs3],[Atb (Ψ cs8 U U)])))
 (Θ)) Θ:=by kernel_rfl
theorem V2(r0:Rw)(r1:Bool)(r2:Rw)(n4:Nat)(k1:Bool)(k2:Rw)(c4:Aa)(t17:Rw)(t18 t19:Int):C2 A D XZ NF .n 62 0 (AN Wz 0).fst (AN Wz 0).snd [ψ 0 0,ψ 1 0,Φ t17,iv t18,iv t19] [bk [Φ r0,bv r1,Φ r2],bk [π 2 0 n4 3,bv k1,Φ k2],{ cells:=c4,st:=U,ex:=U }] =
 br (A.lt t19 t18)
 (unI t19 λi=>
 Bh t17 i λcs=>
 dk [.I,.B,.L,.N] [.l cs] λn b xs=>
 br (A.lt n 0)
 (AT D (ο 62 0) [ψ 0 0,ψ 1 0,Φ t17,iv t18,iv (A.add Ω t19 1)] [bk [Φ r0,bv r1,Φ r2],bk [π 2 0 n4 3,bv k1,Φ k2],Ψ c4 U U] λr o=>
 AI 3 [0,1,2] (AH.mk [(0,bk [Φ r0,bv r1,Φ r2]),(3,bk [iv n,bv b,Φ xs]),(1,bk [π 2 0 n4 3,bv k1,Φ k2]),(2,Ψ c4 U U)] 4 Θ) [0] r o)
 (br (A.le 0 (A.sub Ω (↑n4) 1))
 (unI (A.sub Ω (↑n4) 1) λi1=>
 br (i1.blt n4) (EX c4 (0+i1*3+0) 1 λcs1=>
 dk [.I,.N] [.l cs1] λn1=>
 br (A.eq n1 n)
 (unI (A.sub Ω (↑n4) 1) λi2=>
 br (i2.blt n4) (EX c4 (0+i2*3+1) 2 λcs2=>
 dk [.B,.L,.N] [.l cs2] λb1 xs1=>
 Ag D (ω 139) [ξ [bv b1,Φ xs1],ξ [bv b,Φ xs]] [] [.a,.B,.L,.N,.E] λb2 xs2=>
 unI (A.sub Ω (↑n4) 1) λi3=>
 br (i3.blt n4) (br ((0+i3*3+1+2).ble c4.length) (AT D (ο 62 0) [ψ 0 0,ψ 1 0,Φ t17,iv t18,iv (A.add Ω t19 1)] [bk [Φ r0,bv r1,Φ r2],bk [π 2 0 n4 3,bv k1,Φ k2],Ψ (AG c4 (0+i3*3+1) [bv b2,Φ xs2]) U U] λr3 o1=>
 AI 3 [0,1,2] (AH.mk [(0,bk [Φ r0,bv r1,Φ r2]),(2,Ψ (AG c4 (0+i3*3+1) [bv b2,Φ xs2]) U U),(3,bk [iv n,bv b,Φ xs]),(1,bk [π 2 0 n4 3,bv k1,Φ k2])] 4 Θ) [2,0] r3 o1) Θ) Θ) Θ)
 (Ag D (ω 138) [ξ [bv b,Φ xs]] [] [.a,.B,.L,.N,.E] λb1 xs1=>
 br (Bo (n4+1) 40) (br ((0+n4*3).ble c4.length) (AT D (ο 62 0) [ψ 0 0,ψ 1 0,Φ t17,iv t18,iv (A.add Ω t19 1)] [bk [Φ r0,bv r1,Φ r2],bk [π 2 0 (n4+1) 3,bv k1,Φ k2],Ψ (Atg 0 (ε (0+n4*3) c4)++[iv n,bv b1,Φ xs1]) U U] λr3 o1=>
 AI 3 [0,1,5] (AH.mk [(0,bk [Φ r0,bv r1,Φ r2]),(1,bk [π 5 0 (n4+1) 3,bv k1,Φ k2]),(5,Ψ (Atg 0 (ε (0+n4*3) c4)++[iv n,bv b1,Φ xs1]) U U),(4,Ψ [iv n,bv b1,Φ xs1] U U),(3,bk [iv n,bv b,Φ xs])] 6 Θ) [2,1,0] r3 o1) Θ) Θ)) Θ)
 (Ag D (ω 138) [ξ [bv b,Φ xs]] [] [.a,.B,.L,.N,.E] λb1 xs1=>
 br (Bo (n4+1) 40) (br ((0+n4*3).ble c4.length) (AT D (ο 62 0) [ψ 0 0,ψ 1 0,Φ t17,iv t18,iv (A.add Ω t19 1)] [bk [Φ r0,bv r1,Φ r2],bk [π 2 0 (n4+1) 3,bv k1,Φ k2],Ψ (Atg 0 (ε (0+n4*3) c4)++[iv n,bv b1,Φ xs1]) U U] λr3 o1=>
 AI 3 [0,1,5] (AH.mk [(0,bk [Φ r0,bv r1,Φ r2]),(1,bk [π 5 0 (n4+1) 3,bv k1,Φ k2]),(5,Ψ (Atg 0 (ε (0+n4*3) c4)++[iv n,bv b1,Φ xs1]) U U),(4,Ψ [iv n,bv b1,Φ xs1] U U),(3,bk [iv n,bv b,Φ xs])] 6 Θ) [2,1,0] r3 o1) Θ) Θ)))
 (Δ ((Ath [iv 0,ψ 0 0,ψ 1 0],[Atb (bk [Φ r0,bv r1,Φ r2]),Atb (bk [π 3 0 n4 3,bv k1,Φ k2]),BO.del,Atb (Ψ c4 U U)]))):=by kernel_rfl
end
open Go.RowKit
def Rn:List (List (Nat × MFn)):=[WV]
def Uz:List (Nat × DF):=[(135,Gg 3 40),(145,(AB Ah BN).ask (.fn 145)),(161,(AB Ah BN).ask (.fn 161)),(64,(AB Ah BN).ask (.fn 64)),(126,(AB Ah BN).ask (.fn 126)),(155,(AB Ah BN).ask (.fn 155)),(139,(AB Ah BN).ask (.fn 139)),(158,(AB Ah BN).ask (.fn 158)),(138,(AB Ah BN).ask (.fn 138)),(136,(AB Ah BN).ask (.fn 136)),(140,(AB Ah BN).ask (.fn 140))]
def On:Seat:=CU XZ Rn.flatten Uz
def VJ:Orc:=AB Ah On
set_option maxRecDepth 100000 in
theorem AnK:Dp ζ Bn Rn:=by
 repeat' first|exact trivial|refine⟨⟨_,_,_,rfl⟩,by kernel_rfl,?_⟩|refine⟨?_,?_⟩
theorem AnW:(Da Rn&&Fk Rn.flatten Uz)=U:=by kernel_rfl
theorem AoU:Knows XZ WV VJ:=BD AnW (i:=0) rfl
section
variable {args:Aa} {bs:List ABlk} {r:AV × List BO}
theorem Y6(h:(Gg 3 40) args bs=Δ r):VJ.ask (.fn 135) args bs=Δ r:=AF rfl h
theorem Adk(h:((AB Ah BN).ask (.fn 145)) args bs=Δ r):VJ.ask (.fn 145) args bs=Δ r:=AF rfl h
theorem AiU(h:((AB Ah BN).ask (.fn 161)) args bs=Δ r):VJ.ask (.fn 161) args bs=Δ r:=AF rfl h
theorem Adl(h:((AB Ah BN).ask (.fn 64)) args bs=Δ r):VJ.ask (.fn 64) args bs=Δ r:=AF rfl h
theorem Ani(h:((AB Ah BN).ask (.fn 126)) args bs=Δ r):VJ.ask (.fn 126) args bs=Δ r:=AF rfl h
theorem AiS(h:((AB Ah BN).ask (.fn 155)) args bs=Δ r):VJ.ask (.fn 155) args bs=Δ r:=AF rfl h
theorem AiR(h:((AB Ah BN).ask (.fn 139)) args bs=Δ r):VJ.ask (.fn 139) args bs=Δ r:=AF rfl h
theorem AiT(h:((AB Ah BN).ask (.fn 158)) args bs=Δ r):VJ.ask (.fn 158) args bs=Δ r:=AF rfl h
theorem Y7(h:((AB Ah BN).ask (.fn 138)) args bs=Δ r):VJ.ask (.fn 138) args bs=Δ r:=AF rfl h
theorem Adh(h:((AB Ah BN).ask (.fn 136)) args bs=Δ r):VJ.ask (.fn 136) args bs=Δ r:=AF rfl h
theorem AiG(h:((AB Ah BN).ask (.fn 140)) args bs=Δ r):VJ.ask (.fn 140) args bs=Δ r:=AF rfl h
end
theorem YD(h:Dr ζ Uz):SeatOk ζ Bn On:=Cx GW Cv AnK h
section
open Go.RowKit
def Abs:MFn:=AE [] 195
def AaM:Hnt:=⟨[],[],[(5,[.int .i64]),(6,[.int .i64])]⟩
def QK:MFn:=AE [⟨19,(mB 387),[],[],[(0,((mB 16),([],[]))),(1,([],([],[])))]⟩] 199
def I1:Hnt:=⟨[(195,(.bool,[.keep]))],[(0,[(0,([.int .i64],[.keep,.keep])),(1,([],[.keep,.keep]))])],[(14,Bz),(15,Bz)]⟩
def QI:MFn:=JP ζ Bn [⟨42,(mB 99),[],[],[(1,((mB 33),([],[1000000])))]⟩] U U 140
def I0:Hnt:=⟨[(195,(.bool,[.keep])),(199,(.int .i64,[.keep,.keep]))],[(0,[(1,([.sl 0 3,.int .i64],[.row U,.keep]))])],[(24,Bz),(25,Bz),(27,Bz),(32,Bz),(33,Bz)]⟩
def AcH:List (Nat × MFn):=[(195,Abs),(199,QK),(140,QI)]
variable (A:Ar) (D:Orc)
theorem Aoc(x0:Int)(x1:Bool)(x2:Rw)(b0:Int):BZ A D Aq AaM .n 195 Abs [ξ [iv x0,bv x1,Φ x2],ψ 0 0] [bk [iv b0]] =
 br (A.lt (A.sub Ω 2147483647 b0) x0)
 (Δ ((bv U,[BO.keep])))
 (Δ ((bv false,[BO.keep]))):=by kernel_rfl
theorem Aod(n0:Nat)(c0:Aa)(b0:Int):BZ A D Aq I1 .n 199 QK [π 0 0 n0 3,Att (Fn.func 195) [] [ψ 1 0]] [{ cells:=c0,st:=U,ex:=U },bk [iv b0]] =
 Ag D (ο 199 0) [π 0 0 n0 3,Att (Fn.func 195) [] [ψ 1 0],iv ↑n0,iv 0] [Ψ c0 U U,bk [iv b0]] [.t,.C,.x,.X,.Y] λc l o=>
 br (Bg 0 c)
 (dk [.I,.N,.K,.K,.E] [.l l,.o o] λn=>
 Δ ((iv n,[BO.keep,BO.keep])))
 (br (Bg 1 c)
 (dk [.N,.K,.K,.E,.w] [.l l,.o o] λ_=>
 Δ ((iv (-1),[BO.keep,BO.keep])))
 (Θ)):=by kernel_rfl
theorem Mz(n0:Nat)(c0:Aa)(b0 t7 t8:Int):C2 A D Aq I1 .n 199 0 (AN QK 0).fst (AN QK 0).snd [π 0 0 n0 3,Att (Fn.func 195) [] [ψ 1 0],iv t7,iv t8] [{ cells:=c0,st:=U,ex:=U },bk [iv b0]] =
 br (A.lt t8 t7)
 (unI t8 λi=>
 br (i.blt n0) (EX c0 (0+i*3) 3 λcs=>
 dk [.I,.B,.L,.N] [.l cs] λn b xs=>
 Ag D (ω 195) [ξ [iv n,bv b,Φ xs],ψ 0 0] [bk [iv b0]] [.b,.K,.E] λb1=>
 br b1
 (Δ ((Ath [bv U,iv t8],[BO.keep,BO.keep])))
 (AT D (ο 199 0) [π 0 0 n0 3,Att (Fn.func 195) [] [ψ 1 0],iv t7,iv (A.add Ω t8 1)] [Ψ c0 U U,bk [iv b0]] λr1 o1=>
 AI 2 [0,1] (AH.mk [(0,Ψ c0 U U),(1,bk [iv b0])] 2 Θ) [] r1 o1)) Θ)
 (Δ ((Ath [iv 0],[BO.keep,BO.keep]))):=by kernel_rfl
theorem Ai4(n0:Nat)(c0:Aa)(b0:Int):BZ A D Aq I0 .n 140 QI [π 0 0 n0 3,Att (Fn.func 195) [] [ψ 1 0]] [{ cells:=c0,st:=U,ex:=U },bk [iv b0]] =
 Ag D (ω 199) [π 0 0 n0 3,Att (Fn.func 195) [] [ψ 1 0]] [Ψ c0 U U,bk [iv b0]] [.i,.K,.K,.E] λn=>
 br (A.eq n (-1))
 (Δ ((π 0 0 n0 3,[Atb (Ψ c0 U U),Atb (bk [iv b0])])))
 (Ag D (ο 140 0) [π 0 0 n0 3,Att (Fn.func 195) [] [ψ 1 0],iv n,iv (A.add Ω n 1)] [Ψ c0 U U,bk [iv b0]] [.t,.C,.x,.X,.Y] λc2 l2 o1=>
 br (Bg 1 c2)
 (dk [.C,.q 0 3,.I,.N,.R,.X,.K,.E] [.l l2,.o o1] λn1 n2 cs1=>
 unI n2 λi=>
 br (I4 i n1 n1) (br ((0+i*3+(n1-i)*3).ble cs1.length) (unI n2 λi1=>
 br (I4 0 i1 n1) (Δ ((π 0 0 i1 3,[Atb (Ψ (AG cs1 (0+i*3) (B5 [iv 0,bv false,AV.v (Value.slice Θ 0 0)] ((n1-i)*3))) U U),Atb (bk [iv b0])]))) Θ) Θ) Θ)
 (Θ)):=by kernel_rfl
theorem Qp(n0:Nat)(c0:Aa)(b0 t5 t6:Int):C2 A D Aq I0 .n 140 0 (AN QI 0).fst (AN QI 0).snd [π 0 0 n0 3,Att (Fn.func 195) [] [ψ 1 0],iv t5,iv t6] [{ cells:=c0,st:=U,ex:=U },bk [iv b0]] =
 br (A.lt t6 ↑n0)
 (unI t6 λi=>
 br (i.blt n0) (EX c0 (0+i*3) 3 λcs=>
 dk [.I,.B,.L,.N] [.l cs] λn b xs=>
 Ag D (ω 195) [ξ [iv n,bv b,Φ xs],ψ 0 0] [bk [iv b0]] [.b,.K,.E] λb1=>
 br b1
 (AT D (ο 140 0) [π 0 0 n0 3,Att (Fn.func 195) [] [ψ 1 0],iv t5,iv (A.add Ω t6 1)] [Ψ c0 U U,bk [iv b0]] λr1 o1=>
 AI 2 [0,1] (AH.mk [(2,bk [iv n,bv b,Φ xs]),(0,Ψ c0 U U),(1,bk [iv b0])] 3 Θ) [] r1 o1)
 (unI t5 λi1=>
 br (i1.blt n0) (br ((0+i1*3+3).ble c0.length) (AT D (ο 140 0) [π 0 0 n0 3,Att (Fn.func 195) [] [ψ 1 0],iv (A.add Ω t5 1),iv (A.add Ω t6 1)] [Ψ (AG c0 (0+i1*3) [iv n,bv b,Φ xs]) U U,bk [iv b0]] λr1 o1=>
 AI 2 [0,1] (AH.mk [(0,Ψ (AG c0 (0+i1*3) [iv n,bv b,Φ xs]) U U),(2,bk [iv n,bv b,Φ xs]),(1,bk [iv b0])] 3 Θ) [0] r1 o1) Θ) Θ)) Θ)
 (Δ ((Ath [iv 0,π 0 0 n0 3,iv t5],[Atb (Ψ c0 U U),BO.keep]))):=by kernel_rfl
end
