/- A seat of D: tables of f -/
import Derived.Test.YtpncilciembjdaaGreatDoorJAV
set_option linter.all false
open Bool renaming true->U
open List renaming take->ε
open Option renaming some->Δ
namespace Go.Proofs.YtpncilciembjdaaGreatDoor
noncomputable section
open ABlk renaming mk->Ψ
open AV renaming agg->ξ,ls->Φ,ptr->ψ,sl->π
open BO renaming set->Atb
open IntKind renaming i64->Ω
open Key renaming fn->ω
open Tryz renaming prog->ζ
open Go.RowKit
def Rc:List (List (Nat × MFn)):=[AcH]
def Uq:List (Nat × DF):=[]
def Oi:Seat:=CU Aq Rc.flatten Uq
def DM0:Orc:=AB Ah Oi
set_option maxRecDepth 100000 in
theorem Anx:Dp ζ Bn Rc:=by
 repeat' first|exact trivial|refine⟨⟨_,_,_,rfl⟩,by kernel_rfl,?_⟩|refine⟨?_,?_⟩
theorem AnP:(Da Rc&&Fk Rc.flatten Uq)=U:=by kernel_rfl
theorem AjW:Knows Aq AcH DM0:=BD AnP (i:=0) rfl
theorem Yt(h:Dr ζ Uq):SeatOk ζ Bn Oi:=Cx GW Cv Anx h
section
open Go.RowKit
def QH:MFn:=AE [⟨36,(mB 1572920),[],[4],[(1,((mB 48),([],[3])))]⟩] 134
def Nx:Hnt:=⟨[(62,(.agg [.sl 0 3,.bool,.ls],[.row U])),(140,(.sl 0 3,[.row U,.box [.int .i64]]))],[(0,[(1,([.ptr 1 0,.ptr 2 0],[.del,.box Bx,.box [.sl 4 3,.bool,.ls],.del,.row U]))])],[(7,[.int .i64]),(10,Bx),(13,[.ls]),(18,[.ls]),(24,[.ls]),(26,Bz),(28,[.int .i64]),(29,[.int .i64]),(31,Bz),(34,Bx)]⟩
def Aku:MFn:=AE [] 61
def AjS:Hnt:=⟨[(134,(.agg Bx,[]))],[],[(6,Bx),(10,[.bool])]⟩
def AcI:List (Nat × MFn):=[(134,QH),(61,Aku)]
variable (A:Ar) (D:Orc)
theorem An8(x0_0:Rw)(x0_1:Bool)(x0_2:Rw)(x1:Int):BZ A D Aq Nx .n 134 QH [ξ [Φ x0_0,bv x0_1,Φ x0_2],iv x1] [] =
 Ag D (ω 62) [ξ [Φ x0_0,bv x0_1,Φ x0_2]] [] [.a,.C,.q 0 3,.B,.L,.N,.R,.X,.E] λn b xs cs1=>
 Ag D (ω 140) [π 0 0 n 3,AV.fn (Fn.func 195) [] [ψ 1 0]] [Ψ cs1 U U,bk [iv (A.min (A.max x1 (-2147483648)) 2147483647)]] [.q 0 3,.R,.X,.T,.I,.N,.E] λn1 cs2 n2=>
 Ag D (Key.lp 134 0) [ψ 0 0,ψ 1 0,ψ 2 0,iv ↑n1,iv 0] [bk [iv n2],bk [Φ [],bv false,Φ []],bk [π 3 0 n1 3,bv b,Φ xs],Ψ cs2 U U] [.t,.C,.x,.X,.Y] λc4 l7 o2=>
 br (Bg 1 c4)
 (dk [.P 1 0,.P 2 0,.N,.D,.T,.L,.B,.L,.N,.T,.C,.q 4 3,.B,.L,.N,.D,.R,.X,.E] [.l l7,.o o2] λ_ _ _ n3 b2 xs3 cs7=>
 br ((0+n3*3).ble cs7.length) (AT D (ω 62) [ξ [Φ (Bk n3 3 (ε (n3*3) cs7)),bv b2,Φ xs3]] [] λr3 o3=>
 dk [.a,.C,.q 0 3,.B,.L,.N,.R,.X,.E] [.v r3,.o o3] λn4 b3 xs4 cs9=>
 br ((0+n4*3).ble cs9.length) (Δ ((ξ [Φ (Bk n4 3 (ε (n4*3) cs9)),bv b3,Φ xs4],[]))) none) none)
 (none):=by kernel_rfl
theorem VW(b0:Int)(r0:Rw)(r1:Bool)(r2:Rw)(n0:Nat)(k1:Bool)(k2:Rw)(c0:Aa)(t19 t20:Int):C2 A D Aq Nx .n 134 0 (AN QH 0).fst (AN QH 0).snd [ψ 0 0,ψ 1 0,ψ 2 0,iv t19,iv t20] [bk [iv b0],bk [Φ r0,bv r1,Φ r2],bk [π 3 0 n0 3,bv k1,Φ k2],{ cells:=c0,st:=U,ex:=U }] =
 br (A.lt t20 t19)
 (unI t20 λi=>
 br (i.blt n0) (EX c0 (0+i*3+0) 1 λcs=>
 dk [.I,.N] [.l cs] λn=>
 unI t20 λi1=>
 br (i1.blt n0) (br ((0+i1*3+0+1).ble c0.length) (AT D (Key.lp 134 0) [ψ 0 0,ψ 1 0,ψ 2 0,iv t19,iv (A.add Ω t20 1)] [bk [iv b0],bk [Φ r0,bv r1,Φ r2],bk [π 3 0 n0 3,bv k1,Φ k2],Ψ (AG c0 (0+i1*3+0) [iv (A.add Ω n b0)]) U U] λr o=>
 AI 4 [0,1,2,3] (AH.mk [(1,bk [Φ r0,bv r1,Φ r2]),(3,Ψ (AG c0 (0+i1*3+0) [iv (A.add Ω n b0)]) U U),(0,bk [iv b0]),(2,bk [π 3 0 n0 3,bv k1,Φ k2])] 4 none) [3,1] r o) none) none) none)
 (Δ ((AV.tup [iv 0,ψ 1 0,ψ 2 0],[BO.del,Atb (bk [Φ r0,bv r1,Φ r2]),Atb (bk [π 4 0 n0 3,bv k1,Φ k2]),BO.del,Atb (Ψ c0 U U)]))):=by kernel_rfl
theorem Ara(x0_0:Rw)(x0_1:Bool)(x0_2:Rw)(x0_3:Bool)(x1:Int):BZ A D Aq AjS .n 61 Aku [ξ [Φ x0_0,bv x0_1,Φ x0_2,bv x0_3],iv x1] [] =
 Ag D (ω 134) [ξ [Φ x0_0,bv x0_1,Φ x0_2],iv x1] [] [.a,.L,.B,.L,.N,.E] λxs b xs1=>
 Δ ((ξ [Φ xs,bv b,Φ xs1,bv x0_3],[])):=by kernel_rfl
end
def Rd:List (List (Nat × MFn)):=[AcI]
def Ur:List (Nat × DF):=[(62,(AB Ah On).ask (.fn 62)),(140,(AB Ah Oi).ask (.fn 140))]
def Oj:Seat:=CU Aq Rd.flatten Ur
def DM1:Orc:=AB Ah Oj
set_option maxRecDepth 100000 in
theorem Anz:Dp ζ Bn Rd:=by
 repeat' first|exact trivial|refine⟨⟨_,_,_,rfl⟩,by kernel_rfl,?_⟩|refine⟨?_,?_⟩
theorem AnQ:(Da Rd&&Fk Rd.flatten Ur)=U:=by kernel_rfl
theorem AoK:Knows Aq AcI DM1:=BD AnQ (i:=0) rfl
section
variable {args:Aa} {bs:List ABlk} {r:AV × List BO}
theorem Adf(h:((AB Ah On).ask (.fn 62)) args bs=Δ r):DM1.ask (.fn 62) args bs=Δ r:=AF rfl h
theorem Ane(h:((AB Ah Oi).ask (.fn 140)) args bs=Δ r):DM1.ask (.fn 140) args bs=Δ r:=AF rfl h
end
theorem Yu(h:Dr ζ Ur):SeatOk ζ Bn Oj:=Cx GW Cv Anz h
section
open Go.RowKit
def Abm:MFn:=AE [] 115
def AaJ:Hnt:=⟨[(61,(.agg Er,[]))],[],[(4,Er),(5,[.int .i64])]⟩
def Akt:MFn:=AE [] 45
def AjR:Hnt:=⟨[(112,(.agg AL,[.keep]))],[],[(5,AL)]⟩
def WS:List (Nat × MFn):=[(115,Abm),(45,Akt)]
variable (A:Ar) (D:Orc)
theorem An5(x0:Rw)(x1:Bool)(x2:Rw)(x3:Bool)(c0:Int):BZ A D Aq AaJ .n 115 Abm [ξ [Φ x0,bv x1,Φ x2,bv x3],ψ 0 0] [bk [iv c0]] =
 Ag D (ω 61) [ξ [Φ x0,bv x1,Φ x2,bv x3],iv c0] [] [.a,.L,.B,.L,.B,.N,.E] λxs b xs1 b1=>
 Δ ((ξ [Φ xs,bv b,Φ xs1,bv b1],[BO.keep])):=by kernel_rfl
theorem Aq9(x0_0:Int)(x0_1:Rw)(x0_2:Bool)(x0_3:Rw)(x0_4:Bool)(x0_5:Rw)(x1:Int):BZ A D Aq AjR .n 45 Akt [ξ [iv x0_0,Φ x0_1,bv x0_2,Φ x0_3,bv x0_4,Φ x0_5],iv x1] [] =
 Ag D (ω 112) [ξ [iv x0_0,Φ x0_1,bv x0_2,Φ x0_3,bv x0_4,Φ x0_5],AV.fn (Fn.func 115) [] [ψ 0 0]] [bk [iv x1]] [.a,.I,.L,.B,.L,.B,.L,.N,.K,.E] λn xs b xs1 b1 xs2=>
 Δ ((ξ [iv n,Φ xs,bv b,Φ xs1,bv b1,Φ xs2],[])):=by kernel_rfl
end
def Rj:List (List (Nat × MFn)):=[Ma,WS]
def Ux:List (Nat × DF):=[(107,(AB Ah Jf).ask (.fn 107)),(61,(AB Ah Oj).ask (.fn 61))]
def Om:Seat:=CU Aq Rj.flatten Ux
def DP7:Orc:=AB Ah Om
set_option maxRecDepth 100000 in
theorem AnF:Dp ζ Bn Rj:=by
 repeat' first|exact trivial|refine⟨⟨_,_,_,rfl⟩,by kernel_rfl,?_⟩|refine⟨?_,?_⟩
theorem Ai1:(Da Rj&&Fk Rj.flatten Ux)=U:=by kernel_rfl
theorem AoN:Knows Aq Ma DP7:=BD Ai1 (i:=0) rfl
theorem AoO:Knows Aq WS DP7:=BD Ai1 (i:=1) rfl
section
variable {args:Aa} {bs:List ABlk} {r:AV × List BO}
theorem TP(h:((AB Ah Jf).ask (.fn 107)) args bs=Δ r):DP7.ask (.fn 107) args bs=Δ r:=AF rfl h
theorem AiM(h:((AB Ah Oj).ask (.fn 61)) args bs=Δ r):DP7.ask (.fn 61) args bs=Δ r:=AF rfl h
end
theorem YA(h:Dr ζ Ux):SeatOk ζ Bn Om:=Cx GW Cv AnF h
