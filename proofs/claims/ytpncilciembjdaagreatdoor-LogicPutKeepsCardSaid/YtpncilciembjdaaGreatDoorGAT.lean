/- Functions of the program -/
import Derived.Test.YtpncilciembjdaaGreatDoorGAM
set_option linter.all false
open Bool renaming false->Ξ,true->U
open List renaming take->Aqj
open Option renaming none->Θ
namespace Go.Proofs.YtpncilciembjdaaGreatDoor
noncomputable section
open ABlk renaming mk->Ω
open AV renaming agg->ψ,fn->Aqx,ls->Φ,ptr->υ,sl->κ,v->AqC
open BO renaming set->Aqu
open Key renaming fn->φ,lp->Aqn
open Go.RowKit
def Z4:MFn:=Au [] 113
def Zx:Hnt:=⟨[(59,(.agg GG,[]))],[],[(5,GG),(6,[.ls]),(7,[.ls])]⟩
def I2:MFn:=Au [⟨35,(mB 3670066),[],[],[(1,((mB 48),([],[])))]⟩] 112
def Jv:Hnt:=⟨[(107,(.agg [.int .i64,.cst (.slice Θ 0 0),.bool,.cst (.slice Θ 0 0),.bool,.sl 0 6],[.row U])),(112,(.agg Bg,[.keep,.keep])),(113,(.agg GG,[.keep,.keep]))],[(0,[(1,([.ptr 2 0,.ptr 3 0],[.keep,.keep,.box [.int .i64,.cst (.slice Θ 0 0),.bool,.cst (.slice Θ 0 0),.bool,.cst (.slice Θ 0 0)],.box [.int .i64,.cst (.slice Θ 0 0),.bool,.cst (.slice Θ 0 0),.bool,.sl 5 6],.del,.row U]))])],[(8,Bg),(11,[.int .i64]),(15,GG),(19,[.ls]),(24,Bg),(25,Bg),(27,[.ls]),(29,Bg),(32,Bg),(34,Bg)]⟩
def F9:Hnt:=⟨[(107,(.agg Bg,[])),(112,(.agg Bg,[.keep,.keep])),(113,(.agg GG,[.keep,.keep]))],[(0,[(1,([.ptr 2 0,.ptr 3 0],[.keep,.keep,.box [.int .i64,.cst (.slice Θ 0 0),.bool,.cst (.slice Θ 0 0),.bool,.cst (.slice Θ 0 0)],.box Bg]))])],[(8,Bg),(11,[.int .i64]),(15,GG),(19,[.ls]),(24,Bg),(25,Bg),(27,[.ls]),(29,Bg),(32,Bg),(34,Bg)]⟩
def Aiu:MFn:=Au [] 43
def AhU:Hnt:=⟨[(112,(.agg Bg,[.keep,.keep]))],[],[(7,Bg)]⟩
def VY:List (Nat × MFn):=[(113,Z4),(112,I2),(43,Aiu)]
variable (A:Ar) (D:Orc)
theorem AlF(x0:Rw)(x1:Bool)(x2:Rw)(x3:Bool)(c0 c1:Rw):BZ A D Al Zx .n 113 Z4 [ψ [Φ x0,bv x1,Φ x2,bv x3],υ 0 0,υ 1 0] [bk [Φ c0],bk [Φ c1]] =
 Ad D (φ 59) [ψ [Φ x0,bv x1,Φ x2,bv x3],Φ c0,Φ c1] [] [.a,.L,.B,.L,.B,.N,.E] λxs b xs1 b1=>
 some ((ψ [Φ xs,bv b,Φ xs1,bv b1],[BO.keep,BO.keep])):=by kernel_rfl
theorem Ai9(x0:Int)(x1:Rw)(x2:Bool)(x3:Rw)(x4:Bool)(x5 c0 c1:Rw):BZ A D Al Jv .n 112 I2 [ψ [iv x0,Φ x1,bv x2,Φ x3,bv x4,Φ x5],Aqx (Fn.func 113) [] [υ 0 0,υ 1 0]] [bk [Φ c0],bk [Φ c1]] =
 Ad D (φ 107) [ψ [iv x0,Φ x1,bv x2,Φ x3,bv x4,Φ x5]] [] [.a,.I,.C,.c (Value.slice Θ 0 0),.B,.C,.c (Value.slice Θ 0 0),.B,.C,.q 0 6,.N,.R,.X,.E] λn b b1 n1 cs1=>
 br (A.eq n 2)
 (Ad D (φ 113) [ψ [Φ [],bv b,Φ [],bv b1],υ 0 0,υ 1 0] [bk [Φ c0],bk [Φ c1]] [.a,.L,.B,.L,.B,.N,.K,.K,.E] λxs b2 xs1 b3=>
 Ad D (Aqn 112 0) [Aqx (Fn.func 113) [] [υ 0 0,υ 1 0],υ 2 0,υ 3 0,κ 4 0 n1 6,iv ↑n1,iv 0] [bk [Φ c0],bk [Φ c1],bk [iv 0,AqC (Value.slice Θ 0 0),bv Ξ,AqC (Value.slice Θ 0 0),bv Ξ,AqC (Value.slice Θ 0 0)],bk [iv n,Φ xs,bv b2,Φ xs1,bv b3,κ 4 0 n1 6],Ω cs1 U U] [.t,.C,.x,.X,.Y] λc7 l13 o2=>
 br (Bf 1 c7)
 (dk [.P 2 0,.P 3 0,.N,.K,.K,.T,.I,.C,.c (Value.slice Θ 0 0),.B,.C,.c (Value.slice Θ 0 0),.B,.C,.c (Value.slice Θ 0 0),.N,.T,.I,.C,.c (Value.slice Θ 0 0),.B,.C,.c (Value.slice Θ 0 0),.B,.C,.q 5 6,.N,.D,.R,.X,.Y] [.l l13,.o o2] λ_ _ _ n3 b6 b7 n4 cs6 l33=>
 CD l33<|
 br ((0+n4*6).ble cs6.length) (some ((ψ [iv n3,Φ [],bv b6,Φ [],bv b7,Φ (Bl n4 6 (Aqj (n4*6) cs6))],[BO.keep,BO.keep]))) Θ)
 (Θ))
 (Ad D (Aqn 112 0) [Aqx (Fn.func 113) [] [υ 0 0,υ 1 0],υ 2 0,υ 3 0,κ 4 0 n1 6,iv ↑n1,iv 0] [bk [Φ c0],bk [Φ c1],bk [iv 0,AqC (Value.slice Θ 0 0),bv Ξ,AqC (Value.slice Θ 0 0),bv Ξ,AqC (Value.slice Θ 0 0)],bk [iv n,AqC (Value.slice Θ 0 0),bv b,AqC (Value.slice Θ 0 0),bv b1,κ 4 0 n1 6],Ω cs1 U U] [.t,.C,.x,.X,.Y] λc5 l7 o1=>
 br (Bf 1 c5)
 (dk [.P 2 0,.P 3 0,.N,.K,.K,.T,.I,.C,.c (Value.slice Θ 0 0),.B,.C,.c (Value.slice Θ 0 0),.B,.C,.c (Value.slice Θ 0 0),.N,.T,.I,.C,.c (Value.slice Θ 0 0),.B,.C,.c (Value.slice Θ 0 0),.B,.C,.q 5 6,.N,.D,.R,.X,.Y] [.l l7,.o o1] λ_ _ _ n3 b4 b5 n4 cs5 l27=>
 CD l27<|
 br ((0+n4*6).ble cs5.length) (some ((ψ [iv n3,Φ [],bv b4,Φ [],bv b5,Φ (Bl n4 6 (Aqj (n4*6) cs5))],[BO.keep,BO.keep]))) Θ)
 (Θ)):=by kernel_rfl
theorem Ry(c0 c1:Rw)(r0:Int)(r2 r4:Bool)(k0:Int)(k2 k4:Bool)(n0:Nat)(c9:List AV)(t20 t21:Int):Dl A D Al Jv .n 112 0 (AL I2 0).fst (AL I2 0).snd [Aqx (Fn.func 113) [] [υ 0 0,υ 1 0],υ 2 0,υ 3 0,κ 4 0 n0 6,iv t20,iv t21] [bk [Φ c0],bk [Φ c1],bk [iv r0,AqC (Value.slice Θ 0 0),bv r2,AqC (Value.slice Θ 0 0),bv r4,AqC (Value.slice Θ 0 0)],bk [iv k0,AqC (Value.slice Θ 0 0),bv k2,AqC (Value.slice Θ 0 0),bv k4,κ 4 0 n0 6],{ cells:=c9,st:=U,ex:=U }] =
 br (A.lt t21 t20)
 (unI t21 λi=>
 br (i.blt n0) (Io c9 (0+i*6) 6 λcs=>
 dk [.I,.L,.B,.L,.B,.L,.N] [.l cs] λn xs b xs1 b1 xs2=>
 Ad D (φ 112) [ψ [iv n,Φ xs,bv b,Φ xs1,bv b1,Φ xs2],Aqx (Fn.func 113) [] [υ 0 0,υ 1 0]] [bk [Φ c0],bk [Φ c1]] [.a,.I,.L,.B,.L,.B,.L,.N,.K,.K,.E] λn1 xs3 b2 xs4 b3 xs5=>
 unI t21 λi1=>
 br (i1.blt n0) (br ((0+i1*6+6).ble c9.length) (AG D (Aqn 112 0) [Aqx (Fn.func 113) [] [υ 0 0,υ 1 0],υ 2 0,υ 3 0,κ 4 0 n0 6,iv t20,iv (A.add IntKind.i64 t21 1)] [bk [Φ c0],bk [Φ c1],bk [iv r0,AqC (Value.slice Θ 0 0),bv r2,AqC (Value.slice Θ 0 0),bv r4,AqC (Value.slice Θ 0 0)],bk [iv k0,AqC (Value.slice Θ 0 0),bv k2,AqC (Value.slice Θ 0 0),bv k4,κ 4 0 n0 6],Ω (AI c9 (0+i1*6) [iv n1,Φ xs3,bv b2,Φ xs4,bv b3,Φ xs5]) U U] λr1 o1=>
 AF 5 [0,1,2,3,4] (AH.mk [(4,Ω (AI c9 (0+i1*6) [iv n1,Φ xs3,bv b2,Φ xs4,bv b3,Φ xs5]) U U),(5,bk [iv n,Φ xs,bv b,Φ xs1,bv b1,Φ xs2]),(0,bk [Φ c0]),(1,bk [Φ c1]),(2,bk [iv r0,AqC (Value.slice Θ 0 0),bv r2,AqC (Value.slice Θ 0 0),bv r4,AqC (Value.slice Θ 0 0)]),(3,bk [iv k0,AqC (Value.slice Θ 0 0),bv k2,AqC (Value.slice Θ 0 0),bv k4,κ 4 0 n0 6])] 6 Θ) [4] r1 o1) Θ) Θ) Θ)
 (some ((AV.tup [iv 0,υ 2 0,υ 3 0],[BO.keep,BO.keep,Aqu (bk [iv r0,AqC (Value.slice Θ 0 0),bv r2,AqC (Value.slice Θ 0 0),bv r4,AqC (Value.slice Θ 0 0)]),Aqu (bk [iv k0,AqC (Value.slice Θ 0 0),bv k2,AqC (Value.slice Θ 0 0),bv k4,κ 5 0 n0 6]),BO.del,Aqu (Ω c9 U U)]))):=by kernel_rfl
theorem TG(x0:Int)(x1:Rw)(x2:Bool)(x3:Rw)(x4:Bool)(x5 c0 c1:Rw):BZ A D Al F9 .n 112 I2 [ψ [iv x0,Φ x1,bv x2,Φ x3,bv x4,Φ x5],Aqx (Fn.func 113) [] [υ 0 0,υ 1 0]] [bk [Φ c0],bk [Φ c1]] =
 Ad D (φ 107) [ψ [iv x0,Φ x1,bv x2,Φ x3,bv x4,Φ x5]] [] [.a,.I,.L,.B,.L,.B,.L,.N,.E] λn xs b xs1 b1 xs2=>
 br (A.eq n 2)
 (Ad D (φ 113) [ψ [Φ xs,bv b,Φ xs1,bv b1],υ 0 0,υ 1 0] [bk [Φ c0],bk [Φ c1]] [.a,.L,.B,.L,.B,.N,.K,.K,.E] λxs3 b2 xs4 b3=>
 Ad D (Aqn 112 0) [Aqx (Fn.func 113) [] [υ 0 0,υ 1 0],υ 2 0,υ 3 0,Φ xs2,iv ↑(AP xs2),iv 0] [bk [Φ c0],bk [Φ c1],bk [iv 0,AqC (Value.slice Θ 0 0),bv Ξ,AqC (Value.slice Θ 0 0),bv Ξ,AqC (Value.slice Θ 0 0)],bk [iv n,Φ xs3,bv b2,Φ xs4,bv b3,Φ xs2]] [.t,.C,.x,.X,.Y] λc3 l12 o2=>
 br (Bf 1 c3)
 (dk [.P 2 0,.P 3 0,.N,.K,.K,.T,.I,.C,.c (Value.slice Θ 0 0),.B,.C,.c (Value.slice Θ 0 0),.B,.C,.c (Value.slice Θ 0 0),.N,.T,.I,.L,.B,.L,.B,.L,.N,.E] [.l l12,.o o2] λ_ _ _ n2 xs5 b6 xs6 b7 xs7=>
 some ((ψ [iv n2,Φ xs5,bv b6,Φ xs6,bv b7,Φ xs7],[BO.keep,BO.keep])))
 (Θ))
 (Ad D (Aqn 112 0) [Aqx (Fn.func 113) [] [υ 0 0,υ 1 0],υ 2 0,υ 3 0,Φ xs2,iv ↑(AP xs2),iv 0] [bk [Φ c0],bk [Φ c1],bk [iv 0,AqC (Value.slice Θ 0 0),bv Ξ,AqC (Value.slice Θ 0 0),bv Ξ,AqC (Value.slice Θ 0 0)],bk [iv n,Φ xs,bv b,Φ xs1,bv b1,Φ xs2]] [.t,.C,.x,.X,.Y] λc l6 o1=>
 br (Bf 1 c)
 (dk [.P 2 0,.P 3 0,.N,.K,.K,.T,.I,.C,.c (Value.slice Θ 0 0),.B,.C,.c (Value.slice Θ 0 0),.B,.C,.c (Value.slice Θ 0 0),.N,.T,.I,.L,.B,.L,.B,.L,.N,.E] [.l l6,.o o1] λ_ _ _ n2 xs3 b4 xs4 b5 xs5=>
 some ((ψ [iv n2,Φ xs3,bv b4,Φ xs4,bv b5,Φ xs5],[BO.keep,BO.keep])))
 (Θ)):=by kernel_rfl
theorem Rz(c0 c1:Rw)(r0:Int)(r2 r4:Bool)(k0:Int)(k1:Rw)(k2:Bool)(k3:Rw)(k4:Bool)(k5:Rw)(t20 t21:Int):Dl A D Al F9 .n 112 0 (AL I2 0).fst (AL I2 0).snd [Aqx (Fn.func 113) [] [υ 0 0,υ 1 0],υ 2 0,υ 3 0,Φ k5,iv t20,iv t21] [bk [Φ c0],bk [Φ c1],bk [iv r0,AqC (Value.slice Θ 0 0),bv r2,AqC (Value.slice Θ 0 0),bv r4,AqC (Value.slice Θ 0 0)],bk [iv k0,Φ k1,bv k2,Φ k3,bv k4,Φ k5]] =
 br (A.lt t21 t20)
 (unI t21 λi=>
 Bh k5 i λcs=>
 dk [.I,.L,.B,.L,.B,.L,.N] [.l cs] λn xs b xs1 b1 xs2=>
 Ad D (φ 112) [ψ [iv n,Φ xs,bv b,Φ xs1,bv b1,Φ xs2],Aqx (Fn.func 113) [] [υ 0 0,υ 1 0]] [bk [Φ c0],bk [Φ c1]] [.a,.I,.L,.B,.L,.B,.L,.N,.K,.K,.E] λ_ _ _ _ _ _=>
 unI t21 λi1=>
 Bh k5 i1 λcs2=>
 dk [.I,.L,.B,.L,.B,.L,.N] [.l cs2] λ_ _ _ _ _ _=>
 Θ)
 (some ((AV.tup [iv 0,υ 2 0,υ 3 0],[BO.keep,BO.keep,Aqu (bk [iv r0,AqC (Value.slice Θ 0 0),bv r2,AqC (Value.slice Θ 0 0),bv r4,AqC (Value.slice Θ 0 0)]),Aqu (bk [iv k0,Φ k1,bv k2,Φ k3,bv k4,Φ k5])]))):=by kernel_rfl
theorem Aor(x0_0:Int)(x0_1:Rw)(x0_2:Bool)(x0_3:Rw)(x0_4:Bool)(x0_5 x1 x2:Rw):BZ A D Al AhU .n 43 Aiu [ψ [iv x0_0,Φ x0_1,bv x0_2,Φ x0_3,bv x0_4,Φ x0_5],Φ x1,Φ x2] [] =
 Ad D (φ 112) [ψ [iv x0_0,Φ x0_1,bv x0_2,Φ x0_3,bv x0_4,Φ x0_5],Aqx (Fn.func 113) [] [υ 0 0,υ 1 0]] [bk [Φ x1],bk [Φ x2]] [.a,.I,.L,.B,.L,.B,.L,.N,.K,.K,.E] λn xs b xs1 b1 xs2=>
 some ((ψ [iv n,Φ xs,bv b,Φ xs1,bv b1,Φ xs2],[])):=by kernel_rfl
