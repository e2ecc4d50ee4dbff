/- A seat of D: tables of f -/
import Derived.Test.YtpncilciembjdaaGreatDoorDAY
set_option linter.all false
open Bool renaming true->Δ
open Option renaming none->Ξ,some->Θ
namespace Go.Proofs.YtpncilciembjdaaGreatDoor
noncomputable section
open ABlk renaming mk->θ
open AV renaming fn->Ap9,ls->Ψ,sl->γ,tup->ε,v->Ap8
open BO renaming set->ApX
open IntKind renaming i64->δ,u64->Ω
open Key renaming fn->ψ,lp->ApW
open Tryz renaming prog->υ
open Go.RowKit
def Sg:List (List (Nat × MFn)):=[GY,IY,DY,Fj,KE]
def Vo:List (Nat × DF):=[(236,C8 1 (Bo 1 4)),(135,C8 3 (Bo 3 40)),(262,C8 3 (EP 40))]
def LF:Seat:=EI Av Sg.flatten Vo
def Z9:Orc:=AD Ad LF
set_option maxRecDepth 100000 in
theorem Alr:Fu υ Bn Sg:=by
 repeat' first|exact trivial|refine⟨⟨_,_,_,rfl⟩,by kernel_rfl,?_⟩|refine⟨?_,?_⟩
theorem SJ:(D7 Sg&&HD Sg.flatten Vo)=Δ:=by kernel_rfl
theorem Amw:Knows Av GY Z9:=Be SJ (i:=0) rfl
theorem AmI:Knows Av IY Z9:=Be SJ (i:=1) rfl
theorem AmB:Knows Av DY Z9:=Be SJ (i:=2) rfl
theorem AmF:Knows Av Fj Z9:=Be SJ (i:=3) rfl
theorem Amv:Knows Av KE Z9:=Be SJ (i:=4) rfl
section
variable {args:List AV} {bs:List ABlk} {r:AV × List BO}
theorem ZQ(h:(C8 1 (Bo 1 4)) args bs=Θ r):Z9.ask (.fn 236) args bs=Θ r:=AA rfl h
theorem ZU(h:(C8 3 (Bo 3 40)) args bs=Θ r):Z9.ask (.fn 135) args bs=Θ r:=AA rfl h
theorem Ads(h:(C8 3 (EP 40)) args bs=Θ r):Z9.ask (.fn 262) args bs=Θ r:=AA rfl h
end
theorem Zj(h:Fv υ Vo):SeatOk υ Bn LF:=DX Og DP Alr h
section
open Go.RowKit
def HM:List (Nat × Nat):=[(90,0),(163,0),(214,0)]
def Ab4:MFn:=MU υ Bn [] false Δ 90
def Aii:Hnt:=⟨[(25,(.int .i64,[])),(163,(.tup [],[.row Δ])),(164,(.int .i64,[]))],[],[]⟩
def Abr:Hnt:=⟨[(25,(.int .i64,[])),(163,(.tup [],[])),(164,(.int .i64,[]))],[],[]⟩
def Jp:MFn:=MU υ Bn [⟨148,(mB 3103),[],[],[(0,([Δ],([],[1000000])))]⟩] false Δ 163
def Rl:Hnt:=⟨[(25,(.int .i64,[])),(163,(.tup [],[.row Δ])),(214,(.tup [],[.row Δ])),(215,(.any,[])),(216,(.any,[])),(217,(.tup [.int .i64,.int .i64],[])),(218,(.any,[])),(219,(.bool,[])),(220,(.int .i64,[])),(221,(.tup [.int .i64,.bool],[]))],[(0,[(0,([.sl 0 4],[.row Δ]))])],[(88,Bx),(89,Bx),(92,Bx),(93,Bx)]⟩
def MN:Hnt:=⟨[(25,(.int .i64,[])),(163,(.tup [],[.row Δ])),(214,(.tup [],[])),(215,(.any,[])),(216,(.any,[])),(217,(.tup [.int .i64,.int .i64],[])),(218,(.any,[])),(219,(.bool,[])),(220,(.int .i64,[])),(221,(.tup [.int .i64,.bool],[]))],[(0,[(0,([.cst (.slice Ξ 0 0)],[]))])],[(88,Bx),(89,Bx),(92,Bx),(93,Bx)]⟩
def GK:MFn:=MU υ Bn [⟨53,(mB 271),[],[],[(1,([Δ],([],[1000000])))]⟩,⟨53,(mB 783),[],[],[(3,((mB 271),([],[1000000])))]⟩] false Δ 214
def Fc:Hnt:=⟨[(25,(.int .i64,[]))],[(0,[(1,([.sl 0 4],[.row Δ]))]),(1,[(3,([.sl 0 4,.int .i64,.int .i64,.fnc 25,.int .i64],[.row Δ]))])],[(25,Bx),(26,Bx),(30,Bx),(31,Bx),(45,Bx),(46,Bx),(49,Bx),(50,Bx),(51,Bx),(52,Bx)]⟩
def MP:Hnt:=⟨[(25,(.int .i64,[]))],[(0,[(1,([.cst (.slice Ξ 0 0)],[]))]),(1,[(3,([.cst (.slice Ξ 0 0),.int .i64,.int .i64,.fnc 25,.int .i64],[]))])],[(25,Bx),(26,Bx),(30,Bx),(31,Bx),(45,Bx),(46,Bx),(49,Bx),(50,Bx),(51,Bx),(52,Bx)]⟩
def AbY:MFn:=AY [] 164
def Abi:Hnt:=⟨[(222,(.int .i64,[])),(223,(.int .i64,[]))],[],[]⟩
def Ab2:MFn:=AY [] 223
def K8:Hnt:=⟨[],[],[]⟩
def XS:List (Nat × MFn):=[(90,Ab4),(163,Jp),(214,GK),(164,AbY),(223,Ab2)]
variable (A:Ar) (D:Orc)
theorem Aoy(n0:Nat)(c0:List AV):Cm A D HM Aii .n 90 Ab4 [γ 0 0 n0 4,Ap9 (Fn.func 25) [] []] [{ cells:=c0,st:=Δ,ex:=Δ }] =
 Af D (ψ 164) [Ap8 (Value.int Ω (A.conv Ω ↑n0))] [] [.i,.E] λn=>
 Af D (ψ 163) [γ 0 0 n0 4,iv 0,iv ↑n0,iv n,Ap9 (Fn.func 25) [] []] [θ c0 Δ Δ] [.t,.N,.R,.X,.E] λcs1=>
 Θ ((ε [],[ApX (θ cs1 Δ Δ)])):=by kernel_rfl
theorem Al4:Cm A D HM Abr .n 90 Ab4 [Ap8 (Value.slice Ξ 0 0),Ap9 (Fn.func 25) [] []] [] =
 Af D (ψ 164) [Ap8 (Value.int Ω (A.conv Ω 0))] [] [.i,.E] λn=>
 Af D (ψ 163) [Ap8 (Value.slice Ξ 0 0),iv 0,iv 0,iv n,Ap9 (Fn.func 25) [] []] [] [.t,.N,.E,.w] λ_=>
 Θ ((ε [],[])):=by kernel_rfl
theorem AlJ(n0:Nat)(c0:List AV)(x1 x2 x3:Int):Cm A D HM Rl .n 163 Jp [γ 0 0 n0 4,iv x1,iv x2,iv x3,Ap9 (Fn.func 25) [] []] [{ cells:=c0,st:=Δ,ex:=Δ }] =
 Af D (ApW 163 0) [γ 0 0 n0 4,iv x1,iv x2,iv x3,Ap9 (Fn.func 25) [] [],bv Δ,bv Δ] [θ c0 Δ Δ] [.t,.C,.x,.X,.Y] λc l o=>
 br (Bp 0 c)
 (dk [.C,.q 0 4,.N,.R,.X,.E] [.l l,.o o] λ_ cs1=>
 Θ ((ε [],[ApX (θ cs1 Δ Δ)])))
 (Ξ):=by kernel_rfl
theorem Ad7(n0:Nat)(c0:List AV)(t1 t2 t3:Int)(t10 t11:Bool):D2 A D HM Rl (.t .n) 163 0 (AW Jp 0).fst (AW Jp 0).snd [γ 0 0 n0 4,iv t1,iv t2,iv t3,Ap9 (Fn.func 25) [] [],bv t10,bv t11] [{ cells:=c0,st:=Δ,ex:=Δ }] =
 br (A.le (A.sub δ t2 t1) 12) (AK D (ψ 214) [γ 0 0 n0 4,iv t1,iv t2,Ap9 (Fn.func 25) [] []] [θ c0 Δ Δ] λr o=>
 dk [.t,.N,.R,.X,.E] [.v r,.o o] λcs1=>
 Θ ((ε [bv Δ,γ 0 0 n0 4],[ApX (θ cs1 Δ Δ)]))) Ξ:=by kernel_rfl
theorem AjC(x1 x2 x3:Int):Cm A D HM MN .n 163 Jp [Ap8 (Value.slice Ξ 0 0),iv x1,iv x2,iv x3,Ap9 (Fn.func 25) [] []] [] =
 Af D (ApW 163 0) [Ap8 (Value.slice Ξ 0 0),iv x1,iv x2,iv x3,Ap9 (Fn.func 25) [] [],bv Δ,bv Δ] [] [.t,.C,.x,.X,.Y] λc l o=>
 br (Bp 0 c)
 (dk [.C,.c (Value.slice Ξ 0 0),.N,.E,.w] [.l l,.o o] λ_=>
 Θ ((ε [],[])))
 (Ξ):=by kernel_rfl
theorem AaD(t1 t2 t3:Int)(t10 t11:Bool):D2 A D HM MN (.t .n) 163 0 (AW Jp 0).fst (AW Jp 0).snd [Ap8 (Value.slice Ξ 0 0),iv t1,iv t2,iv t3,Ap9 (Fn.func 25) [] [],bv t10,bv t11] [] =
 br (A.le (A.sub δ t2 t1) 12) (AK D (ψ 214) [Ap8 (Value.slice Ξ 0 0),iv t1,iv t2,Ap9 (Fn.func 25) [] []] [] λr o=>
 dk [.t,.N,.E,.w] [.v r,.o o] λ_=>
 Θ ((ε [bv Δ,Ap8 (Value.slice Ξ 0 0)],[]))) Ξ:=by kernel_rfl
theorem AhI(n0:Nat)(c0:List AV)(x1 x2:Int):Cm A D HM Fc .n 214 GK [γ 0 0 n0 4,iv x1,iv x2,Ap9 (Fn.func 25) [] []] [{ cells:=c0,st:=Δ,ex:=Δ }] =
 Af D (ApW 214 0) [γ 0 0 n0 4,iv x1,iv x2,Ap9 (Fn.func 25) [] [],iv (A.add δ x1 1)] [θ c0 Δ Δ] [.t,.C,.x,.X,.Y] λc l o=>
 br (Bp 1 c)
 (dk [.C,.q 0 4,.N,.R,.X,.E] [.l l,.o o] λ_ cs1=>
 Θ ((ε [],[ApX (θ cs1 Δ Δ)])))
 (Ξ):=by kernel_rfl
theorem Rb(n0:Nat)(c0:List AV)(t1 t2 t8:Int):D2 A D HM Fc .n 214 0 (AW GK 0).fst (AW GK 0).snd [γ 0 0 n0 4,iv t1,iv t2,Ap9 (Fn.func 25) [] [],iv t8] [{ cells:=c0,st:=Δ,ex:=Δ }] =
 br (A.lt t8 t2)
 (Af D (ApW 214 1) [γ 0 0 n0 4,iv t1,iv t2,Ap9 (Fn.func 25) [] [],iv t8,iv t8] [θ c0 Δ Δ] [.t,.C,.x,.X,.Y] λc l o=>
 br (Bp 3 c)
 (dk [.C,.q 0 4,.I,.I,.C,.f 25,.I,.N,.R,.X,.E] [.l l,.o o] λn n1 n2 n3 cs1=>
 AK D (ApW 214 0) [γ 0 0 n 4,iv n1,iv n2,Ap9 (Fn.func 25) [] [],iv (A.add δ n3 1)] [θ cs1 Δ Δ] λr1 o1=>
 AF 1 [0] (AH.mk [(0,θ cs1 Δ Δ)] 1 Ξ) [0] r1 o1)
 (Ξ))
 (Θ ((ε [iv 0,γ 0 0 n0 4],[ApX (θ c0 Δ Δ)]))):=by kernel_rfl
theorem Rc(n0:Nat)(c0:List AV)(t1 t2 t8 t9:Int):D2 A D HM Fc .n 214 1 (AW GK 1).fst (AW GK 1).snd [γ 0 0 n0 4,iv t1,iv t2,Ap9 (Fn.func 25) [] [],iv t8,iv t9] [{ cells:=c0,st:=Δ,ex:=Δ }] =
 br (A.lt t1 t9)
 (unI t9 λi=>
 br (i.blt n0) (EZ c0 (0+i*4) 4 λcs=>
 dk [.L,.B,.L,.B,.N] [.l cs] λxs b xs1 b1=>
 unI (A.sub δ t9 1) λi1=>
 br (i1.blt n0) (EZ c0 (0+i1*4) 4 λcs1=>
 dk [.L,.B,.L,.B,.N] [.l cs1] λxs2 b2 xs3 b3=>
 Af D (ψ 25) [AV.agg [Ψ xs,bv b,Ψ xs1,bv b1],AV.agg [Ψ xs2,bv b2,Ψ xs3,bv b3]] [] [.i,.E] λn=>
 br (A.lt n 0)
 (unI (A.sub δ t9 1) λi2=>
 br (i2.blt n0) (EZ c0 (0+i2*4) 4 λcs2=>
 dk [.L,.B,.L,.B,.N] [.l cs2] λxs4 b4 xs5 b5=>
 unI t9 λi3=>
 br (i3.blt n0) (EZ c0 (0+i3*4) 4 λcs3=>
 dk [.L,.B,.L,.B,.N] [.l cs3] λxs6 b6 xs7 b7=>
 unI t9 λi4=>
 br (i4.blt n0) (br ((0+i4*4+4).ble c0.length) (unI (A.sub δ t9 1) λi5=>
 br (i5.blt n0) (br ((0+i5*4+4).ble (Ay c0 (0+i4*4) [Ψ xs4,bv b4,Ψ xs5,bv b5]).length) (AK D (ApW 214 1) [γ 0 0 n0 4,iv t1,iv t2,Ap9 (Fn.func 25) [] [],iv t8,iv (A.sub δ t9 1)] [θ (Ay (Ay c0 (0+i4*4) [Ψ xs4,bv b4,Ψ xs5,bv b5]) (0+i5*4) [Ψ xs6,bv b6,Ψ xs7,bv b7]) Δ Δ] λr1 o1=>
 AF 1 [0] (AH.mk [(0,θ (Ay (Ay c0 (0+i4*4) [Ψ xs4,bv b4,Ψ xs5,bv b5]) (0+i5*4) [Ψ xs6,bv b6,Ψ xs7,bv b7]) Δ Δ)] 1 Ξ) [0] r1 o1) Ξ) Ξ) Ξ) Ξ) Ξ) Ξ)
 (Θ ((ε [iv 2,γ 0 0 n0 4,iv t1,iv t2,Ap9 (Fn.func 25) [] [],iv t8],[ApX (θ c0 Δ Δ)])))) Ξ) Ξ)
 (Θ ((ε [iv 2,γ 0 0 n0 4,iv t1,iv t2,Ap9 (Fn.func 25) [] [],iv t8],[ApX (θ c0 Δ Δ)]))):=by kernel_rfl
theorem AjD(x1 x2:Int):Cm A D HM MP .n 214 GK [Ap8 (Value.slice Ξ 0 0),iv x1,iv x2,Ap9 (Fn.func 25) [] []] [] =
 Af D (ApW 214 0) [Ap8 (Value.slice Ξ 0 0),iv x1,iv x2,Ap9 (Fn.func 25) [] [],iv (A.add δ x1 1)] [] [.t,.C,.x,.X,.Y] λc l o=>
 br (Bp 1 c)
 (dk [.C,.c (Value.slice Ξ 0 0),.N,.E,.w] [.l l,.o o] λ_=>
 Θ ((ε [],[])))
 (Ξ):=by kernel_rfl
theorem AaK(t1 t2 t8:Int):D2 A D HM MP .n 214 0 (AW GK 0).fst (AW GK 0).snd [Ap8 (Value.slice Ξ 0 0),iv t1,iv t2,Ap9 (Fn.func 25) [] [],iv t8] [] =
 br (A.lt t8 t2)
 (Af D (ApW 214 1) [Ap8 (Value.slice Ξ 0 0),iv t1,iv t2,Ap9 (Fn.func 25) [] [],iv t8,iv t8] [] [.t,.C,.x,.X,.Y] λc l o=>
 br (Bp 3 c)
 (dk [.C,.c (Value.slice Ξ 0 0),.I,.I,.C,.f 25,.I,.N,.E] [.l l,.o o] λn n1 n2=>
 AK D (ApW 214 0) [Ap8 (Value.slice Ξ 0 0),iv n,iv n1,Ap9 (Fn.func 25) [] [],iv (A.add δ n2 1)] [] λr1 o1=>
 AF 0 [] (AH.mk [] 0 Ξ) [] r1 o1)
 (Ξ))
 (Θ ((ε [iv 0,Ap8 (Value.slice Ξ 0 0)],[]))):=by kernel_rfl
theorem AlK(x0:Int):Cm A D HM Abi .n 164 AbY [Ap8 (Value.int Ω x0)] [] =
 Af D (ψ 223) [Ap8 (Value.int Ω x0)] [] [.i,.E] λn=>
 Θ ((iv n,[])):=by kernel_rfl
theorem S5(x0:Int):Cm A D HM K8 (.f (.f (.f (.f (.f (.f .n)))))) 223 Ab2 [Ap8 (Value.int Ω x0)] [] =
 br (A.le 4294967296 x0) Ξ (br (A.le 65536 x0) Ξ (br (A.le 256 x0) Ξ (unI (A.conv IntKind.u8 x0) λi=>
 br (i.blt (A.slen (C2 [0,1,2,2,3,3,3,3,4,4,4,4,4,4,4,4,5,5,5,5,5,5,5,5,5,5,5,5,5,5,5,5,6,6,6,6,6,6,6,6,6,6,6,6,6,6,6,6,6,6,6,6,6,6,6,6,6,6,6,6,6,6,6,6,7,7,7,7,7,7,7,7,7,7,7,7,7,7,7,7,7,7,7,7,7,7,7,7,7,7,7,7,7,7,7,7,7,7,7,7,7,7,7,7,7,7,7,7,7,7,7,7,7,7,7,7,7,7,7,7,7,7,7,7,7,7,7,7,8,8,8,8,8,8,8,8,8,8,8,8,8,8,8,8,8,8,8,8,8,8,8,8,8,8,8,8,8,8,8,8,8,8,8,8,8,8,8,8,8,8,8,8,8,8,8,8,8,8,8,8,8,8,8,8,8,8,8,8,8,8,8,8,8,8,8,8,8,8,8,8,8,8,8,8,8,8,8,8,8,8,8,8,8,8,8,8,8,8,8,8,8,8,8,8,8,8,8,8,8,8,8,8,8,8,8,8,8,8,8,8,8,8,8,8,8,8,8,8,8,8,8,8,8,8,8,8]))) (Θ ((iv (A.add δ 0 (A.conv δ (A.sat (C2 [0,1,2,2,3,3,3,3,4,4,4,4,4,4,4,4,5,5,5,5,5,5,5,5,5,5,5,5,5,5,5,5,6,6,6,6,6,6,6,6,6,6,6,6,6,6,6,6,6,6,6,6,6,6,6,6,6,6,6,6,6,6,6,6,7,7,7,7,7,7,7,7,7,7,7,7,7,7,7,7,7,7,7,7,7,7,7,7,7,7,7,7,7,7,7,7,7,7,7,7,7,7,7,7,7,7,7,7,7,7,7,7,7,7,7,7,7,7,7,7,7,7,7,7,7,7,7,7,8,8,8,8,8,8,8,8,8,8,8,8,8,8,8,8,8,8,8,8,8,8,8,8,8,8,8,8,8,8,8,8,8,8,8,8,8,8,8,8,8,8,8,8,8,8,8,8,8,8,8,8,8,8,8,8,8,8,8,8,8,8,8,8,8,8,8,8,8,8,8,8,8,8,8,8,8,8,8,8,8,8,8,8,8,8,8,8,8,8,8,8,8,8,8,8,8,8,8,8,8,8,8,8,8,8,8,8,8,8,8,8,8,8,8,8,8,8,8,8,8,8,8,8,8,8,8,8]) i))),[]))) Ξ))):=by kernel_rfl
end
