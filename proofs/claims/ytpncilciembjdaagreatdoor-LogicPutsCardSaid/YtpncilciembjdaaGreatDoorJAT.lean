/- Functions of the program -/
import Derived.Test.YtpncilciembjdaaGreatDoorJAM
set_option linter.all false
open Bool renaming false->Ξ,true->U
open List renaming take->ε
open Option renaming none->Θ,some->Δ
namespace Go.Proofs.YtpncilciembjdaaGreatDoor
noncomputable section
open ABlk renaming mk->Ψ
open AV renaming agg->ξ,fn->Att,ls->Φ,ptr->ψ,sl->π,tup->Ath,v->Ati
open BO renaming set->Atb
open IntKind renaming i64->Ω
open Key renaming fn->ω,lp->ο
open Go.RowKit
def Abl:MFn:=AE [] 113
def AaI:Hnt:=⟨[(59,(.agg Er,[]))],[],[(5,Er),(6,[.ls]),(7,[.ls])]⟩
def D9:MFn:=AE [⟨35,(mB 3670066),[],[],[(1,((mB 48),([],[])))]⟩] 112
def JE:Hnt:=⟨[(107,(.agg [.int .i64,.cst (.slice Θ 0 0),.bool,.cst (.slice Θ 0 0),.bool,.sl 0 6],[.row U])),(112,(.agg AL,[.keep,.keep])),(113,(.agg Er,[.keep,.keep]))],[(0,[(1,([.ptr 2 0,.ptr 3 0],[.keep,.keep,.box [.int .i64,.cst (.slice Θ 0 0),.bool,.cst (.slice Θ 0 0),.bool,.cst (.slice Θ 0 0)],.box [.int .i64,.cst (.slice Θ 0 0),.bool,.cst (.slice Θ 0 0),.bool,.sl 5 6],.del,.row U]))])],[(8,AL),(11,[.int .i64]),(15,Er),(19,[.ls]),(24,AL),(25,AL),(27,[.ls]),(29,AL),(32,AL),(34,AL)]⟩
def Gp:Hnt:=⟨[(107,(.agg AL,[])),(112,(.agg AL,[.keep,.keep])),(113,(.agg Er,[.keep,.keep]))],[(0,[(1,([.ptr 2 0,.ptr 3 0],[.keep,.keep,.box [.int .i64,.cst (.slice Θ 0 0),.bool,.cst (.slice Θ 0 0),.bool,.cst (.slice Θ 0 0)],.box AL]))])],[(8,AL),(11,[.int .i64]),(15,Er),(19,[.ls]),(24,AL),(25,AL),(27,[.ls]),(29,AL),(32,AL),(34,AL)]⟩
def JF:Hnt:=⟨[(107,(.agg [.int .i64,.cst (.slice Θ 0 0),.bool,.cst (.slice Θ 0 0),.bool,.sl 0 6],[.row U])),(112,(.agg AL,[.keep])),(115,(.agg Er,[.keep]))],[(0,[(1,([.ptr 1 0,.ptr 2 0],[.keep,.box [.int .i64,.cst (.slice Θ 0 0),.bool,.cst (.slice Θ 0 0),.bool,.cst (.slice Θ 0 0)],.box [.int .i64,.cst (.slice Θ 0 0),.bool,.cst (.slice Θ 0 0),.bool,.sl 4 6],.del,.row U]))])],[(8,AL),(11,[.int .i64]),(15,Er),(19,[.ls]),(24,AL),(25,AL),(27,[.ls]),(29,AL),(32,AL),(34,AL)]⟩
def Gq:Hnt:=⟨[(107,(.agg AL,[])),(112,(.agg AL,[.keep])),(115,(.agg Er,[.keep]))],[(0,[(1,([.ptr 1 0,.ptr 2 0],[.keep,.box [.int .i64,.cst (.slice Θ 0 0),.bool,.cst (.slice Θ 0 0),.bool,.cst (.slice Θ 0 0)],.box AL]))])],[(8,AL),(11,[.int .i64]),(15,Er),(19,[.ls]),(24,AL),(25,AL),(27,[.ls]),(29,AL),(32,AL),(34,AL)]⟩
def Aks:MFn:=AE [] 43
def AjQ:Hnt:=⟨[(112,(.agg AL,[.keep,.keep]))],[],[(7,AL)]⟩
def Ma:List (Nat × MFn):=[(113,Abl),(112,D9),(43,Aks)]
variable (A:Ar) (D:Orc)
theorem An3(x0:Rw)(x1:Bool)(x2:Rw)(x3:Bool)(c0 c1:Rw):BZ A D Aq AaI .n 113 Abl [ξ [Φ x0,bv x1,Φ x2,bv x3],ψ 0 0,ψ 1 0] [bk [Φ c0],bk [Φ c1]] =
 Ag D (ω 59) [ξ [Φ x0,bv x1,Φ x2,bv x3],Φ c0,Φ c1] [] [.a,.L,.B,.L,.B,.N,.E] λxs b xs1 b1=>
 Δ ((ξ [Φ xs,bv b,Φ xs1,bv b1],[BO.keep,BO.keep])):=by kernel_rfl
theorem Ak9(x0:Int)(x1:Rw)(x2:Bool)(x3:Rw)(x4:Bool)(x5 c0 c1:Rw):BZ A D Aq JE .n 112 D9 [ξ [iv x0,Φ x1,bv x2,Φ x3,bv x4,Φ x5],Att (Fn.func 113) [] [ψ 0 0,ψ 1 0]] [bk [Φ c0],bk [Φ c1]] =
 Ag D (ω 107) [ξ [iv x0,Φ x1,bv x2,Φ x3,bv x4,Φ x5]] [] [.a,.I,.C,.c (Value.slice Θ 0 0),.B,.C,.c (Value.slice Θ 0 0),.B,.C,.q 0 6,.N,.R,.X,.E] λn b b1 n1 cs1=>
 br (A.eq n 2)
 (Ag D (ω 113) [ξ [Φ [],bv b,Φ [],bv b1],ψ 0 0,ψ 1 0] [bk [Φ c0],bk [Φ c1]] [.a,.L,.B,.L,.B,.N,.K,.K,.E] λxs b2 xs1 b3=>
 Ag D (ο 112 0) [Att (Fn.func 113) [] [ψ 0 0,ψ 1 0],ψ 2 0,ψ 3 0,π 4 0 n1 6,iv ↑n1,iv 0] [bk [Φ c0],bk [Φ c1],bk [iv 0,Ati (Value.slice Θ 0 0),bv Ξ,Ati (Value.slice Θ 0 0),bv Ξ,Ati (Value.slice Θ 0 0)],bk [iv n,Φ xs,bv b2,Φ xs1,bv b3,π 4 0 n1 6],Ψ cs1 U U] [.t,.C,.x,.X,.Y] λc7 l13 o2=>
 br (Bg 1 c7)
 (dk [.P 2 0,.P 3 0,.N,.K,.K,.T,.I,.C,.c (Value.slice Θ 0 0),.B,.C,.c (Value.slice Θ 0 0),.B,.C,.c (Value.slice Θ 0 0),.N,.T,.I,.C,.c (Value.slice Θ 0 0),.B,.C,.c (Value.slice Θ 0 0),.B,.C,.q 5 6,.N,.D,.R,.X,.Y] [.l l13,.o o2] λ_ _ _ n3 b6 b7 n4 cs6 l33=>
 CW l33<|
 br ((0+n4*6).ble cs6.length) (Δ ((ξ [iv n3,Φ [],bv b6,Φ [],bv b7,Φ (Bk n4 6 (ε (n4*6) cs6))],[BO.keep,BO.keep]))) Θ)
 (Θ))
 (Ag D (ο 112 0) [Att (Fn.func 113) [] [ψ 0 0,ψ 1 0],ψ 2 0,ψ 3 0,π 4 0 n1 6,iv ↑n1,iv 0] [bk [Φ c0],bk [Φ c1],bk [iv 0,Ati (Value.slice Θ 0 0),bv Ξ,Ati (Value.slice Θ 0 0),bv Ξ,Ati (Value.slice Θ 0 0)],bk [iv n,Ati (Value.slice Θ 0 0),bv b,Ati (Value.slice Θ 0 0),bv b1,π 4 0 n1 6],Ψ cs1 U U] [.t,.C,.x,.X,.Y] λc5 l7 o1=>
 br (Bg 1 c5)
 (dk [.P 2 0,.P 3 0,.N,.K,.K,.T,.I,.C,.c (Value.slice Θ 0 0),.B,.C,.c (Value.slice Θ 0 0),.B,.C,.c (Value.slice Θ 0 0),.N,.T,.I,.C,.c (Value.slice Θ 0 0),.B,.C,.c (Value.slice Θ 0 0),.B,.C,.q 5 6,.N,.D,.R,.X,.Y] [.l l7,.o o1] λ_ _ _ n3 b4 b5 n4 cs5 l27=>
 CW l27<|
 br ((0+n4*6).ble cs5.length) (Δ ((ξ [iv n3,Φ [],bv b4,Φ [],bv b5,Φ (Bk n4 6 (ε (n4*6) cs5))],[BO.keep,BO.keep]))) Θ)
 (Θ)):=by kernel_rfl
theorem RX(c0 c1:Rw)(r0:Int)(r2 r4:Bool)(k0:Int)(k2 k4:Bool)(n0:Nat)(c9:Aa)(t20 t21:Int):C2 A D Aq JE .n 112 0 (AN D9 0).fst (AN D9 0).snd [Att (Fn.func 113) [] [ψ 0 0,ψ 1 0],ψ 2 0,ψ 3 0,π 4 0 n0 6,iv t20,iv t21] [bk [Φ c0],bk [Φ c1],bk [iv r0,Ati (Value.slice Θ 0 0),bv r2,Ati (Value.slice Θ 0 0),bv r4,Ati (Value.slice Θ 0 0)],bk [iv k0,Ati (Value.slice Θ 0 0),bv k2,Ati (Value.slice Θ 0 0),bv k4,π 4 0 n0 6],{ cells:=c9,st:=U,ex:=U }] =
 br (A.lt t21 t20)
 (unI t21 λi=>
 br (i.blt n0) (EX c9 (0+i*6) 6 λcs=>
 dk [.I,.L,.B,.L,.B,.L,.N] [.l cs] λn xs b xs1 b1 xs2=>
 Ag D (ω 112) [ξ [iv n,Φ xs,bv b,Φ xs1,bv b1,Φ xs2],Att (Fn.func 113) [] [ψ 0 0,ψ 1 0]] [bk [Φ c0],bk [Φ c1]] [.a,.I,.L,.B,.L,.B,.L,.N,.K,.K,.E] λn1 xs3 b2 xs4 b3 xs5=>
 unI t21 λi1=>
 br (i1.blt n0) (br ((0+i1*6+6).ble c9.length) (AT D (ο 112 0) [Att (Fn.func 113) [] [ψ 0 0,ψ 1 0],ψ 2 0,ψ 3 0,π 4 0 n0 6,iv t20,iv (A.add Ω t21 1)] [bk [Φ c0],bk [Φ c1],bk [iv r0,Ati (Value.slice Θ 0 0),bv r2,Ati (Value.slice Θ 0 0),bv r4,Ati (Value.slice Θ 0 0)],bk [iv k0,Ati (Value.slice Θ 0 0),bv k2,Ati (Value.slice Θ 0 0),bv k4,π 4 0 n0 6],Ψ (AG c9 (0+i1*6) [iv n1,Φ xs3,bv b2,Φ xs4,bv b3,Φ xs5]) U U] λr1 o1=>
 AI 5 [0,1,2,3,4] (AH.mk [(4,Ψ (AG c9 (0+i1*6) [iv n1,Φ xs3,bv b2,Φ xs4,bv b3,Φ xs5]) U U),(5,bk [iv n,Φ xs,bv b,Φ xs1,bv b1,Φ xs2]),(0,bk [Φ c0]),(1,bk [Φ c1]),(2,bk [iv r0,Ati (Value.slice Θ 0 0),bv r2,Ati (Value.slice Θ 0 0),bv r4,Ati (Value.slice Θ 0 0)]),(3,bk [iv k0,Ati (Value.slice Θ 0 0),bv k2,Ati (Value.slice Θ 0 0),bv k4,π 4 0 n0 6])] 6 Θ) [4] r1 o1) Θ) Θ) Θ)
 (Δ ((Ath [iv 0,ψ 2 0,ψ 3 0],[BO.keep,BO.keep,Atb (bk [iv r0,Ati (Value.slice Θ 0 0),bv r2,Ati (Value.slice Θ 0 0),bv r4,Ati (Value.slice Θ 0 0)]),Atb (bk [iv k0,Ati (Value.slice Θ 0 0),bv k2,Ati (Value.slice Θ 0 0),bv k4,π 5 0 n0 6]),BO.del,Atb (Ψ c9 U U)]))):=by kernel_rfl
theorem Ug(x0:Int)(x1:Rw)(x2:Bool)(x3:Rw)(x4:Bool)(x5 c0 c1:Rw):BZ A D Aq Gp .n 112 D9 [ξ [iv x0,Φ x1,bv x2,Φ x3,bv x4,Φ x5],Att (Fn.func 113) [] [ψ 0 0,ψ 1 0]] [bk [Φ c0],bk [Φ c1]] =
 Ag D (ω 107) [ξ [iv x0,Φ x1,bv x2,Φ x3,bv x4,Φ x5]] [] [.a,.I,.L,.B,.L,.B,.L,.N,.E] λn xs b xs1 b1 xs2=>
 br (A.eq n 2)
 (Ag D (ω 113) [ξ [Φ xs,bv b,Φ xs1,bv b1],ψ 0 0,ψ 1 0] [bk [Φ c0],bk [Φ c1]] [.a,.L,.B,.L,.B,.N,.K,.K,.E] λxs3 b2 xs4 b3=>
 Ag D (ο 112 0) [Att (Fn.func 113) [] [ψ 0 0,ψ 1 0],ψ 2 0,ψ 3 0,Φ xs2,iv ↑(Bb xs2),iv 0] [bk [Φ c0],bk [Φ c1],bk [iv 0,Ati (Value.slice Θ 0 0),bv Ξ,Ati (Value.slice Θ 0 0),bv Ξ,Ati (Value.slice Θ 0 0)],bk [iv n,Φ xs3,bv b2,Φ xs4,bv b3,Φ xs2]] [.t,.C,.x,.X,.Y] λc3 l12 o2=>
 br (Bg 1 c3)
 (dk [.P 2 0,.P 3 0,.N,.K,.K,.T,.I,.C,.c (Value.slice Θ 0 0),.B,.C,.c (Value.slice Θ 0 0),.B,.C,.c (Value.slice Θ 0 0),.N,.T,.I,.L,.B,.L,.B,.L,.N,.E] [.l l12,.o o2] λ_ _ _ n2 xs5 b6 xs6 b7 xs7=>
 Δ ((ξ [iv n2,Φ xs5,bv b6,Φ xs6,bv b7,Φ xs7],[BO.keep,BO.keep])))
 (Θ))
 (Ag D (ο 112 0) [Att (Fn.func 113) [] [ψ 0 0,ψ 1 0],ψ 2 0,ψ 3 0,Φ xs2,iv ↑(Bb xs2),iv 0] [bk [Φ c0],bk [Φ c1],bk [iv 0,Ati (Value.slice Θ 0 0),bv Ξ,Ati (Value.slice Θ 0 0),bv Ξ,Ati (Value.slice Θ 0 0)],bk [iv n,Φ xs,bv b,Φ xs1,bv b1,Φ xs2]] [.t,.C,.x,.X,.Y] λc l6 o1=>
 br (Bg 1 c)
 (dk [.P 2 0,.P 3 0,.N,.K,.K,.T,.I,.C,.c (Value.slice Θ 0 0),.B,.C,.c (Value.slice Θ 0 0),.B,.C,.c (Value.slice Θ 0 0),.N,.T,.I,.L,.B,.L,.B,.L,.N,.E] [.l l6,.o o1] λ_ _ _ n2 xs3 b4 xs4 b5 xs5=>
 Δ ((ξ [iv n2,Φ xs3,bv b4,Φ xs4,bv b5,Φ xs5],[BO.keep,BO.keep])))
 (Θ)):=by kernel_rfl
theorem RY(c0 c1:Rw)(r0:Int)(r2 r4:Bool)(k0:Int)(k1:Rw)(k2:Bool)(k3:Rw)(k4:Bool)(k5:Rw)(t20 t21:Int):C2 A D Aq Gp .n 112 0 (AN D9 0).fst (AN D9 0).snd [Att (Fn.func 113) [] [ψ 0 0,ψ 1 0],ψ 2 0,ψ 3 0,Φ k5,iv t20,iv t21] [bk [Φ c0],bk [Φ c1],bk [iv r0,Ati (Value.slice Θ 0 0),bv r2,Ati (Value.slice Θ 0 0),bv r4,Ati (Value.slice Θ 0 0)],bk [iv k0,Φ k1,bv k2,Φ k3,bv k4,Φ k5]] =
 br (A.lt t21 t20)
 (unI t21 λi=>
 Bh k5 i λcs=>
 dk [.I,.L,.B,.L,.B,.L,.N] [.l cs] λn xs b xs1 b1 xs2=>
 Ag D (ω 112) [ξ [iv n,Φ xs,bv b,Φ xs1,bv b1,Φ xs2],Att (Fn.func 113) [] [ψ 0 0,ψ 1 0]] [bk [Φ c0],bk [Φ c1]] [.a,.I,.L,.B,.L,.B,.L,.N,.K,.K,.E] λ_ _ _ _ _ _=>
 unI t21 λi1=>
 Bh k5 i1 λcs2=>
 dk [.I,.L,.B,.L,.B,.L,.N] [.l cs2] λ_ _ _ _ _ _=>
 Θ)
 (Δ ((Ath [iv 0,ψ 2 0,ψ 3 0],[BO.keep,BO.keep,Atb (bk [iv r0,Ati (Value.slice Θ 0 0),bv r2,Ati (Value.slice Θ 0 0),bv r4,Ati (Value.slice Θ 0 0)]),Atb (bk [iv k0,Φ k1,bv k2,Φ k3,bv k4,Φ k5])]))):=by kernel_rfl
theorem Ala(x0:Int)(x1:Rw)(x2:Bool)(x3:Rw)(x4:Bool)(x5:Rw)(c0:Int):BZ A D Aq JF .n 112 D9 [ξ [iv x0,Φ x1,bv x2,Φ x3,bv x4,Φ x5],Att (Fn.func 115) [] [ψ 0 0]] [bk [iv c0]] =
 Ag D (ω 107) [ξ [iv x0,Φ x1,bv x2,Φ x3,bv x4,Φ x5]] [] [.a,.I,.C,.c (Value.slice Θ 0 0),.B,.C,.c (Value.slice Θ 0 0),.B,.C,.q 0 6,.N,.R,.X,.E] λn b b1 n1 cs1=>
 br (A.eq n 2)
 (Ag D (ω 115) [ξ [Φ [],bv b,Φ [],bv b1],ψ 0 0] [bk [iv c0]] [.a,.L,.B,.L,.B,.N,.K,.E] λxs b2 xs1 b3=>
 Ag D (ο 112 0) [Att (Fn.func 115) [] [ψ 0 0],ψ 1 0,ψ 2 0,π 3 0 n1 6,iv ↑n1,iv 0] [bk [iv c0],bk [iv 0,Ati (Value.slice Θ 0 0),bv Ξ,Ati (Value.slice Θ 0 0),bv Ξ,Ati (Value.slice Θ 0 0)],bk [iv n,Φ xs,bv b2,Φ xs1,bv b3,π 3 0 n1 6],Ψ cs1 U U] [.t,.C,.x,.X,.Y] λc5 l12 o2=>
 br (Bg 1 c5)
 (dk [.P 1 0,.P 2 0,.N,.K,.T,.I,.C,.c (Value.slice Θ 0 0),.B,.C,.c (Value.slice Θ 0 0),.B,.C,.c (Value.slice Θ 0 0),.N,.T,.I,.C,.c (Value.slice Θ 0 0),.B,.C,.c (Value.slice Θ 0 0),.B,.C,.q 4 6,.N,.D,.R,.X,.E] [.l l12,.o o2] λ_ _ _ n3 b6 b7 n4 cs6=>
 br ((0+n4*6).ble cs6.length) (Δ ((ξ [iv n3,Φ [],bv b6,Φ [],bv b7,Φ (Bk n4 6 (ε (n4*6) cs6))],[BO.keep]))) Θ)
 (Θ))
 (Ag D (ο 112 0) [Att (Fn.func 115) [] [ψ 0 0],ψ 1 0,ψ 2 0,π 3 0 n1 6,iv ↑n1,iv 0] [bk [iv c0],bk [iv 0,Ati (Value.slice Θ 0 0),bv Ξ,Ati (Value.slice Θ 0 0),bv Ξ,Ati (Value.slice Θ 0 0)],bk [iv n,Ati (Value.slice Θ 0 0),bv b,Ati (Value.slice Θ 0 0),bv b1,π 3 0 n1 6],Ψ cs1 U U] [.t,.C,.x,.X,.Y] λc4 l7 o1=>
 br (Bg 1 c4)
 (dk [.P 1 0,.P 2 0,.N,.K,.T,.I,.C,.c (Value.slice Θ 0 0),.B,.C,.c (Value.slice Θ 0 0),.B,.C,.c (Value.slice Θ 0 0),.N,.T,.I,.C,.c (Value.slice Θ 0 0),.B,.C,.c (Value.slice Θ 0 0),.B,.C,.q 4 6,.N,.D,.R,.X,.E] [.l l7,.o o1] λ_ _ _ n3 b4 b5 n4 cs5=>
 br ((0+n4*6).ble cs5.length) (Δ ((ξ [iv n3,Φ [],bv b4,Φ [],bv b5,Φ (Bk n4 6 (ε (n4*6) cs5))],[BO.keep]))) Θ)
 (Θ)):=by kernel_rfl
theorem RZ(c0 r0:Int)(r2 r4:Bool)(k0:Int)(k2 k4:Bool)(n0:Nat)(c9:Aa)(t20 t21:Int):C2 A D Aq JF .n 112 0 (AN D9 0).fst (AN D9 0).snd [Att (Fn.func 115) [] [ψ 0 0],ψ 1 0,ψ 2 0,π 3 0 n0 6,iv t20,iv t21] [bk [iv c0],bk [iv r0,Ati (Value.slice Θ 0 0),bv r2,Ati (Value.slice Θ 0 0),bv r4,Ati (Value.slice Θ 0 0)],bk [iv k0,Ati (Value.slice Θ 0 0),bv k2,Ati (Value.slice Θ 0 0),bv k4,π 3 0 n0 6],{ cells:=c9,st:=U,ex:=U }] =
 br (A.lt t21 t20)
 (unI t21 λi=>
 br (i.blt n0) (EX c9 (0+i*6) 6 λcs=>
 dk [.I,.L,.B,.L,.B,.L,.N] [.l cs] λn xs b xs1 b1 xs2=>
 Ag D (ω 112) [ξ [iv n,Φ xs,bv b,Φ xs1,bv b1,Φ xs2],Att (Fn.func 115) [] [ψ 0 0]] [bk [iv c0]] [.a,.I,.L,.B,.L,.B,.L,.N,.K,.E] λn1 xs3 b2 xs4 b3 xs5=>
 unI t21 λi1=>
 br (i1.blt n0) (br ((0+i1*6+6).ble c9.length) (AT D (ο 112 0) [Att (Fn.func 115) [] [ψ 0 0],ψ 1 0,ψ 2 0,π 3 0 n0 6,iv t20,iv (A.add Ω t21 1)] [bk [iv c0],bk [iv r0,Ati (Value.slice Θ 0 0),bv r2,Ati (Value.slice Θ 0 0),bv r4,Ati (Value.slice Θ 0 0)],bk [iv k0,Ati (Value.slice Θ 0 0),bv k2,Ati (Value.slice Θ 0 0),bv k4,π 3 0 n0 6],Ψ (AG c9 (0+i1*6) [iv n1,Φ xs3,bv b2,Φ xs4,bv b3,Φ xs5]) U U] λr1 o1=>
 AI 4 [0,1,2,3] (AH.mk [(3,Ψ (AG c9 (0+i1*6) [iv n1,Φ xs3,bv b2,Φ xs4,bv b3,Φ xs5]) U U),(4,bk [iv n,Φ xs,bv b,Φ xs1,bv b1,Φ xs2]),(0,bk [iv c0]),(1,bk [iv r0,Ati (Value.slice Θ 0 0),bv r2,Ati (Value.slice Θ 0 0),bv r4,Ati (Value.slice Θ 0 0)]),(2,bk [iv k0,Ati (Value.slice Θ 0 0),bv k2,Ati (Value.slice Θ 0 0),bv k4,π 3 0 n0 6])] 5 Θ) [3] r1 o1) Θ) Θ) Θ)
 (Δ ((Ath [iv 0,ψ 1 0,ψ 2 0],[BO.keep,Atb (bk [iv r0,Ati (Value.slice Θ 0 0),bv r2,Ati (Value.slice Θ 0 0),bv r4,Ati (Value.slice Θ 0 0)]),Atb (bk [iv k0,Ati (Value.slice Θ 0 0),bv k2,Ati (Value.slice Θ 0 0),bv k4,π 4 0 n0 6]),BO.del,Atb (Ψ c9 U U)]))):=by kernel_rfl
theorem Uh(x0:Int)(x1:Rw)(x2:Bool)(x3:Rw)(x4:Bool)(x5:Rw)(c0:Int):BZ A D Aq Gq .n 112 D9 [ξ [iv x0,Φ x1,bv x2,Φ x3,bv x4,Φ x5],Att (Fn.func 115) [] [ψ 0 0]] [bk [iv c0]] =
 Ag D (ω 107) [ξ [iv x0,Φ x1,bv x2,Φ x3,bv x4,Φ x5]] [] [.a,.I,.L,.B,.L,.B,.L,.N,.E] λn xs b xs1 b1 xs2=>
 br (A.eq n 2)
 (Ag D (ω 115) [ξ [Φ xs,bv b,Φ xs1,bv b1],ψ 0 0] [bk [iv c0]] [.a,.L,.B,.L,.B,.N,.K,.E] λxs3 b2 xs4 b3=>
 Ag D (ο 112 0) [Att (Fn.func 115) [] [ψ 0 0],ψ 1 0,ψ 2 0,Φ xs2,iv ↑(Bb xs2),iv 0] [bk [iv c0],bk [iv 0,Ati (Value.slice Θ 0 0),bv Ξ,Ati (Value.slice Θ 0 0),bv Ξ,Ati (Value.slice Θ 0 0)],bk [iv n,Φ xs3,bv b2,Φ xs4,bv b3,Φ xs2]] [.t,.C,.x,.X,.Y] λc1 l11 o2=>
 br (Bg 1 c1)
 (dk [.P 1 0,.P 2 0,.N,.K,.T,.I,.C,.c (Value.slice Θ 0 0),.B,.C,.c (Value.slice Θ 0 0),.B,.C,.c (Value.slice Θ 0 0),.N,.T,.I,.L,.B,.L,.B,.L,.N,.E] [.l l11,.o o2] λ_ _ _ n2 xs5 b6 xs6 b7 xs7=>
 Δ ((ξ [iv n2,Φ xs5,bv b6,Φ xs6,bv b7,Φ xs7],[BO.keep])))
 (Θ))
 (Ag D (ο 112 0) [Att (Fn.func 115) [] [ψ 0 0],ψ 1 0,ψ 2 0,Φ xs2,iv ↑(Bb xs2),iv 0] [bk [iv c0],bk [iv 0,Ati (Value.slice Θ 0 0),bv Ξ,Ati (Value.slice Θ 0 0),bv Ξ,Ati (Value.slice Θ 0 0)],bk [iv n,Φ xs,bv b,Φ xs1,bv b1,Φ xs2]] [.t,.C,.x,.X,.Y] λc l6 o1=>
 br (Bg 1 c)
 (dk [.P 1 0,.P 2 0,.N,.K,.T,.I,.C,.c (Value.slice Θ 0 0),.B,.C,.c (Value.slice Θ 0 0),.B,.C,.c (Value.slice Θ 0 0),.N,.T,.I,.L,.B,.L,.B,.L,.N,.E] [.l l6,.o o1] λ_ _ _ n2 xs3 b4 xs4 b5 xs5=>
 Δ ((ξ [iv n2,Φ xs3,bv b4,Φ xs4,bv b5,Φ xs5],[BO.keep])))
 (Θ)):=by kernel_rfl
theorem R0(c0 r0:Int)(r2 r4:Bool)(k0:Int)(k1:Rw)(k2:Bool)(k3:Rw)(k4:Bool)(k5:Rw)(t20 t21:Int):C2 A D Aq Gq .n 112 0 (AN D9 0).fst (AN D9 0).snd [Att (Fn.func 115) [] [ψ 0 0],ψ 1 0,ψ 2 0,Φ k5,iv t20,iv t21] [bk [iv c0],bk [iv r0,Ati (Value.slice Θ 0 0),bv r2,Ati (Value.slice Θ 0 0),bv r4,Ati (Value.slice Θ 0 0)],bk [iv k0,Φ k1,bv k2,Φ k3,bv k4,Φ k5]] =
 br (A.lt t21 t20)
 (unI t21 λi=>
 Bh k5 i λcs=>
 dk [.I,.L,.B,.L,.B,.L,.N] [.l cs] λn xs b xs1 b1 xs2=>
 Ag D (ω 112) [ξ [iv n,Φ xs,bv b,Φ xs1,bv b1,Φ xs2],Att (Fn.func 115) [] [ψ 0 0]] [bk [iv c0]] [.a,.I,.L,.B,.L,.B,.L,.N,.K,.E] λ_ _ _ _ _ _=>
 unI t21 λi1=>
 Bh k5 i1 λcs2=>
 dk [.I,.L,.B,.L,.B,.L,.N] [.l cs2] λ_ _ _ _ _ _=>
 Θ)
 (Δ ((Ath [iv 0,ψ 1 0,ψ 2 0],[BO.keep,Atb (bk [iv r0,Ati (Value.slice Θ 0 0),bv r2,Ati (Value.slice Θ 0 0),bv r4,Ati (Value.slice Θ 0 0)]),Atb (bk [iv k0,Φ k1,bv k2,Φ k3,bv k4,Φ k5])]))):=by kernel_rfl
theorem Aq8(x0_0:Int)(x0_1:Rw)(x0_2:Bool)(x0_3:Rw)(x0_4:Bool)(x0_5 x1 x2:Rw):BZ A D Aq AjQ .n 43 Aks [ξ [iv x0_0,Φ x0_1,bv x0_2,Φ x0_3,bv x0_4,Φ x0_5],Φ x1,Φ x2] [] =
 Ag D (ω 112) [ξ [iv x0_0,Φ x0_1,bv x0_2,Φ x0_3,bv x0_4,Φ x0_5],Att (Fn.func 113) [] [ψ 0 0,ψ 1 0]] [bk [Φ x1],bk [Φ x2]] [.a,.I,.L,.B,.L,.B,.L,.N,.K,.K,.E] λn xs b xs1 b1 xs2=>
 Δ ((ξ [iv n,Φ xs,bv b,Φ xs1,bv b1,Φ xs2],[])):=by kernel_rfl
