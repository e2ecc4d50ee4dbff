/- Functions of the program -/
import Derived.Test.YtmbfbclboenajaaGreatFAM
set_option linter.all false
open Bool renaming true->Δ
open Option renaming none->Ξ,some->Θ
namespace Go.Proofs.YtmbfbclboenajaaGreat
noncomputable section
open ABlk renaming mk->θ
open AV renaming fn->Arb,ls->Ψ,sl->χ,tup->γ,v->Aq0
open BO renaming set->AqV
open IntKind renaming i64->δ,u64->Ω
open Key renaming fn->ω,lp->ι
open Tryz renaming prog->Aq1
open Go.RowKit
def Ij:List (Nat × Nat):=[(15,0),(43,0),(79,0)]
def AcM:MFn:=PN Aq1 BP [] false Δ 15
def AhN:Hnt:=⟨[(16,(.int .i64,[])),(43,(.tup [],[.row Δ])),(44,(.int .i64,[]))],[],[]⟩
def AbW:Hnt:=⟨[(16,(.int .i64,[])),(43,(.tup [],[])),(44,(.int .i64,[]))],[],[]⟩
def OR:MFn:=PN Aq1 BP [⟨148,(mB 3103),[],[],[(0,([Δ],([],[1000000])))]⟩] false Δ 43
def XC:Hnt:=⟨[(16,(.int .i64,[])),(43,(.tup [],[.row Δ])),(79,(.tup [],[.row Δ])),(80,(.any,[])),(81,(.any,[])),(82,(.tup [.int .i64,.int .i64],[])),(83,(.any,[])),(84,(.bool,[])),(85,(.int .i64,[])),(86,(.tup [.int .i64,.bool],[]))],[(0,[(0,([.sl 0 4],[.row Δ]))])],[(88,B1),(89,B1),(92,B1),(93,B1)]⟩
def R0:Hnt:=⟨[(16,(.int .i64,[])),(43,(.tup [],[.row Δ])),(79,(.tup [],[])),(80,(.any,[])),(81,(.any,[])),(82,(.tup [.int .i64,.int .i64],[])),(83,(.any,[])),(84,(.bool,[])),(85,(.int .i64,[])),(86,(.tup [.int .i64,.bool],[]))],[(0,[(0,([.cst (.slice Ξ 0 0)],[]))])],[(88,B1),(89,B1),(92,B1),(93,B1)]⟩
def KN:MFn:=PN Aq1 BP [⟨53,(mB 271),[],[],[(1,([Δ],([],[1000000])))]⟩,⟨53,(mB 783),[],[],[(3,((mB 271),([],[1000000])))]⟩] false Δ 79
def HT:Hnt:=⟨[(16,(.int .i64,[]))],[(0,[(1,([.sl 0 4],[.row Δ]))]),(1,[(3,([.sl 0 4,.int .i64,.int .i64,.fnc 16,.int .i64],[.row Δ]))])],[(25,B1),(26,B1),(30,B1),(31,B1),(45,B1),(46,B1),(49,B1),(50,B1),(51,B1),(52,B1)]⟩
def R1:Hnt:=⟨[(16,(.int .i64,[]))],[(0,[(1,([.cst (.slice Ξ 0 0)],[]))]),(1,[(3,([.cst (.slice Ξ 0 0),.int .i64,.int .i64,.fnc 16,.int .i64],[]))])],[(25,B1),(26,B1),(30,B1),(31,B1),(45,B1),(46,B1),(49,B1),(50,B1),(51,B1),(52,B1)]⟩
def Aic:MFn:=BI [] 44
def AhO:Hnt:=⟨[(87,(.int .i64,[])),(88,(.int .i64,[]))],[],[]⟩
def Aig:MFn:=BI [] 88
def Qy:Hnt:=⟨[],[],[]⟩
def Yw:List (Nat × MFn):=[(15,AcM),(43,OR),(79,KN),(44,Aic),(88,Aig)]
variable (A:Ar) (D:Orc)
theorem AoT(n0:Nat)(c0:List AV):BN A D Ij AhN .n 15 AcM [χ 0 0 n0 4,Arb (Fn.func 16) [] []] [{ cells:=c0,st:=Δ,ex:=Δ }] =
 Ae D (ω 44) [Aq0 (Value.int Ω (A.conv Ω ↑n0))] [] [.i,.E] λn=>
 Ae D (ω 43) [χ 0 0 n0 4,iv 0,iv ↑n0,iv n,Arb (Fn.func 16) [] []] [θ c0 Δ Δ] [.t,.N,.R,.X,.E] λcs1=>
 Θ ((γ [],[AqV (θ cs1 Δ Δ)])):=by kernel_rfl
theorem Ak7:BN A D Ij AbW .n 15 AcM [Aq0 (Value.slice Ξ 0 0),Arb (Fn.func 16) [] []] [] =
 Ae D (ω 44) [Aq0 (Value.int Ω (A.conv Ω 0))] [] [.i,.E] λn=>
 Ae D (ω 43) [Aq0 (Value.slice Ξ 0 0),iv 0,iv 0,iv n,Arb (Fn.func 16) [] []] [] [.t,.N,.E,.w] λ_=>
 Θ ((γ [],[])):=by kernel_rfl
theorem AoW(n0:Nat)(c0:List AV)(x1 x2 x3:Int):BN A D Ij XC .n 43 OR [χ 0 0 n0 4,iv x1,iv x2,iv x3,Arb (Fn.func 16) [] []] [{ cells:=c0,st:=Δ,ex:=Δ }] =
 Ae D (ι 43 0) [χ 0 0 n0 4,iv x1,iv x2,iv x3,Arb (Fn.func 16) [] [],bv Δ,bv Δ] [θ c0 Δ Δ] [.t,.C,.x,.X,.Y] λc l o=>
 br (Bm 0 c)
 (dk [.C,.q 0 4,.N,.R,.X,.E] [.l l,.o o] λ_ cs1=>
 Θ ((γ [],[AqV (θ cs1 Δ Δ)])))
 (Ξ):=by kernel_rfl
theorem Ai2(n0:Nat)(c0:List AV)(t1 t2 t3:Int)(t10 t11:Bool):CS A D Ij XC (.t .n) 43 0 (AJ OR 0).fst (AJ OR 0).snd [χ 0 0 n0 4,iv t1,iv t2,iv t3,Arb (Fn.func 16) [] [],bv t10,bv t11] [{ cells:=c0,st:=Δ,ex:=Δ }] =
 br (A.le (A.sub δ t2 t1) 12) (AA D (ω 79) [χ 0 0 n0 4,iv t1,iv t2,Arb (Fn.func 16) [] []] [θ c0 Δ Δ] λr o=>
 dk [.t,.N,.R,.X,.E] [.v r,.o o] λcs1=>
 Θ ((γ [bv Δ,χ 0 0 n0 4],[AqV (θ cs1 Δ Δ)]))) Ξ:=by kernel_rfl
theorem Alb(x1 x2 x3:Int):BN A D Ij R0 .n 43 OR [Aq0 (Value.slice Ξ 0 0),iv x1,iv x2,iv x3,Arb (Fn.func 16) [] []] [] =
 Ae D (ι 43 0) [Aq0 (Value.slice Ξ 0 0),iv x1,iv x2,iv x3,Arb (Fn.func 16) [] [],bv Δ,bv Δ] [] [.t,.C,.x,.X,.Y] λc l o=>
 br (Bm 0 c)
 (dk [.C,.c (Value.slice Ξ 0 0),.N,.E,.w] [.l l,.o o] λ_=>
 Θ ((γ [],[])))
 (Ξ):=by kernel_rfl
theorem AeS(t1 t2 t3:Int)(t10 t11:Bool):CS A D Ij R0 (.t .n) 43 0 (AJ OR 0).fst (AJ OR 0).snd [Aq0 (Value.slice Ξ 0 0),iv t1,iv t2,iv t3,Arb (Fn.func 16) [] [],bv t10,bv t11] [] =
 br (A.le (A.sub δ t2 t1) 12) (AA D (ω 79) [Aq0 (Value.slice Ξ 0 0),iv t1,iv t2,Arb (Fn.func 16) [] []] [] λr o=>
 dk [.t,.N,.E,.w] [.v r,.o o] λ_=>
 Θ ((γ [bv Δ,Aq0 (Value.slice Ξ 0 0)],[]))) Ξ:=by kernel_rfl
theorem Ale(n0:Nat)(c0:List AV)(x1 x2:Int):BN A D Ij HT .n 79 KN [χ 0 0 n0 4,iv x1,iv x2,Arb (Fn.func 16) [] []] [{ cells:=c0,st:=Δ,ex:=Δ }] =
 Ae D (ι 79 0) [χ 0 0 n0 4,iv x1,iv x2,Arb (Fn.func 16) [] [],iv (A.add δ x1 1)] [θ c0 Δ Δ] [.t,.C,.x,.X,.Y] λc l o=>
 br (Bm 1 c)
 (dk [.C,.q 0 4,.N,.R,.X,.E] [.l l,.o o] λ_ cs1=>
 Θ ((γ [],[AqV (θ cs1 Δ Δ)])))
 (Ξ):=by kernel_rfl
theorem VT(n0:Nat)(c0:List AV)(t1 t2 t8:Int):CS A D Ij HT .n 79 0 (AJ KN 0).fst (AJ KN 0).snd [χ 0 0 n0 4,iv t1,iv t2,Arb (Fn.func 16) [] [],iv t8] [{ cells:=c0,st:=Δ,ex:=Δ }] =
 br (A.lt t8 t2)
 (Ae D (ι 79 1) [χ 0 0 n0 4,iv t1,iv t2,Arb (Fn.func 16) [] [],iv t8,iv t8] [θ c0 Δ Δ] [.t,.C,.x,.X,.Y] λc l o=>
 br (Bm 3 c)
 (dk [.C,.q 0 4,.I,.I,.C,.f 16,.I,.N,.R,.X,.E] [.l l,.o o] λn n1 n2 n3 cs1=>
 AA D (ι 79 0) [χ 0 0 n 4,iv n1,iv n2,Arb (Fn.func 16) [] [],iv (A.add δ n3 1)] [θ cs1 Δ Δ] λr1 o1=>
 As 1 [0] (AH.mk [(0,θ cs1 Δ Δ)] 1 Ξ) [0] r1 o1)
 (Ξ))
 (Θ ((γ [iv 0,χ 0 0 n0 4],[AqV (θ c0 Δ Δ)]))):=by kernel_rfl
theorem VU(n0:Nat)(c0:List AV)(t1 t2 t8 t9:Int):CS A D Ij HT .n 79 1 (AJ KN 1).fst (AJ KN 1).snd [χ 0 0 n0 4,iv t1,iv t2,Arb (Fn.func 16) [] [],iv t8,iv t9] [{ cells:=c0,st:=Δ,ex:=Δ }] =
 br (A.lt t1 t9)
 (unI t9 λi=>
 br (i.blt n0) (EX c0 (0+i*4) 4 λcs=>
 dk [.L,.B,.L,.B,.N] [.l cs] λxs b xs1 b1=>
 unI (A.sub δ t9 1) λi1=>
 br (i1.blt n0) (EX c0 (0+i1*4) 4 λcs1=>
 dk [.L,.B,.L,.B,.N] [.l cs1] λxs2 b2 xs3 b3=>
 Ae D (ω 16) [AV.agg [Ψ xs,bv b,Ψ xs1,bv b1],AV.agg [Ψ xs2,bv b2,Ψ xs3,bv b3]] [] [.i,.E] λn=>
 br (A.lt n 0)
 (unI (A.sub δ t9 1) λi2=>
 br (i2.blt n0) (EX c0 (0+i2*4) 4 λcs2=>
 dk [.L,.B,.L,.B,.N] [.l cs2] λxs4 b4 xs5 b5=>
 unI t9 λi3=>
 br (i3.blt n0) (EX c0 (0+i3*4) 4 λcs3=>
 dk [.L,.B,.L,.B,.N] [.l cs3] λxs6 b6 xs7 b7=>
 unI t9 λi4=>
 br (i4.blt n0) (br ((0+i4*4+4).ble c0.length) (unI (A.sub δ t9 1) λi5=>
 br (i5.blt n0) (br ((0+i5*4+4).ble (AI c0 (0+i4*4) [Ψ xs4,bv b4,Ψ xs5,bv b5]).length) (AA D (ι 79 1) [χ 0 0 n0 4,iv t1,iv t2,Arb (Fn.func 16) [] [],iv t8,iv (A.sub δ t9 1)] [θ (AI (AI c0 (0+i4*4) [Ψ xs4,bv b4,Ψ xs5,bv b5]) (0+i5*4) [Ψ xs6,bv b6,Ψ xs7,bv b7]) Δ Δ] λr1 o1=>
 As 1 [0] (AH.mk [(0,θ (AI (AI c0 (0+i4*4) [Ψ xs4,bv b4,Ψ xs5,bv b5]) (0+i5*4) [Ψ xs6,bv b6,Ψ xs7,bv b7]) Δ Δ)] 1 Ξ) [0] r1 o1) Ξ) Ξ) Ξ) Ξ) Ξ) Ξ)
 (Θ ((γ [iv 2,χ 0 0 n0 4,iv t1,iv t2,Arb (Fn.func 16) [] [],iv t8],[AqV (θ c0 Δ Δ)])))) Ξ) Ξ)
 (Θ ((γ [iv 2,χ 0 0 n0 4,iv t1,iv t2,Arb (Fn.func 16) [] [],iv t8],[AqV (θ c0 Δ Δ)]))):=by kernel_rfl
theorem Alf(x1 x2:Int):BN A D Ij R1 .n 79 KN [Aq0 (Value.slice Ξ 0 0),iv x1,iv x2,Arb (Fn.func 16) [] []] [] =
 Ae D (ι 79 0) [Aq0 (Value.slice Ξ 0 0),iv x1,iv x2,Arb (Fn.func 16) [] [],iv (A.add δ x1 1)] [] [.t,.C,.x,.X,.Y] λc l o=>
 br (Bm 1 c)
 (dk [.C,.c (Value.slice Ξ 0 0),.N,.E,.w] [.l l,.o o] λ_=>
 Θ ((γ [],[])))
 (Ξ):=by kernel_rfl
theorem AeT(t1 t2 t8:Int):CS A D Ij R1 .n 79 0 (AJ KN 0).fst (AJ KN 0).snd [Aq0 (Value.slice Ξ 0 0),iv t1,iv t2,Arb (Fn.func 16) [] [],iv t8] [] =
 br (A.lt t8 t2)
 (Ae D (ι 79 1) [Aq0 (Value.slice Ξ 0 0),iv t1,iv t2,Arb (Fn.func 16) [] [],iv t8,iv t8] [] [.t,.C,.x,.X,.Y] λc l o=>
 br (Bm 3 c)
 (dk [.C,.c (Value.slice Ξ 0 0),.I,.I,.C,.f 16,.I,.N,.E] [.l l,.o o] λn n1 n2=>
 AA D (ι 79 0) [Aq0 (Value.slice Ξ 0 0),iv n,iv n1,Arb (Fn.func 16) [] [],iv (A.add δ n2 1)] [] λr1 o1=>
 As 0 [] (AH.mk [] 0 Ξ) [] r1 o1)
 (Ξ))
 (Θ ((γ [iv 0,Aq0 (Value.slice Ξ 0 0)],[]))):=by kernel_rfl
theorem AoX(x0:Int):BN A D Ij AhO .n 44 Aic [Aq0 (Value.int Ω x0)] [] =
 Ae D (ω 88) [Aq0 (Value.int Ω x0)] [] [.i,.E] λn=>
 Θ ((iv n,[])):=by kernel_rfl
theorem AbB(x0:Int):BN A D Ij Qy (.f (.f (.f (.f (.f (.f .n)))))) 88 Aig [Aq0 (Value.int Ω x0)] [] =
 br (A.le 4294967296 x0) Ξ (br (A.le 65536 x0) Ξ (br (A.le 256 x0) Ξ (unI (A.conv IntKind.u8 x0) λi=>
 br (i.blt (A.slen (M5 [0,1,2,2,3,3,3,3,4,4,4,4,4,4,4,4,5,5,5,5,5,5,5,5,5,5,5,5,5,5,5,5,6,6,6,6,6,6,6,6,6,6,6,6,6,6,6,6,6,6,6,6,6,6,6,6,6,6,6,6,6,6,6,6,7,7,7,7,7,7,7,7,7,7,7,7,7,7,7,7,7,7,7,7,7,7,7,7,7,7,7,7,7,7,7,7,7,7,7,7,7,7,7,7,7,7,7,7,7,7,7,7,7,7,7,7,7,7,7,7,7,7,7,7,7,7,7,7,8,8,8,8,8,8,8,8,8,8,8,8,8,8,8,8,8,8,8,8,8,8,8,8,8,8,8,8,8,8,8,8,8,8,8,8,8,8,8,8,8,8,8,8,8,8,8,8,8,8,8,8,8,8,8,8,8,8,8,8,8,8,8,8,8,8,8,8,8,8,8,8,8,8,8,8,8,8,8,8,8,8,8,8,8,8,8,8,8,8,8,8,8,8,8,8,8,8,8,8,8,8,8,8,8,8,8,8,8,8,8,8,8,8,8,8,8,8,8,8,8,8,8,8,8,8,8,8]))) (Θ ((iv (A.add δ 0 (A.conv δ (A.sat (M5 [0,1,2,2,3,3,3,3,4,4,4,4,4,4,4,4,5,5,5,5,5,5,5,5,5,5,5,5,5,5,5,5,6,6,6,6,6,6,6,6,6,6,6,6,6,6,6,6,6,6,6,6,6,6,6,6,6,6,6,6,6,6,6,6,7,7,7,7,7,7,7,7,7,7,7,7,7,7,7,7,7,7,7,7,7,7,7,7,7,7,7,7,7,7,7,7,7,7,7,7,7,7,7,7,7,7,7,7,7,7,7,7,7,7,7,7,7,7,7,7,7,7,7,7,7,7,7,7,8,8,8,8,8,8,8,8,8,8,8,8,8,8,8,8,8,8,8,8,8,8,8,8,8,8,8,8,8,8,8,8,8,8,8,8,8,8,8,8,8,8,8,8,8,8,8,8,8,8,8,8,8,8,8,8,8,8,8,8,8,8,8,8,8,8,8,8,8,8,8,8,8,8,8,8,8,8,8,8,8,8,8,8,8,8,8,8,8,8,8,8,8,8,8,8,8,8,8,8,8,8,8,8,8,8,8,8,8,8,8,8,8,8,8,8,8,8,8,8,8,8,8,8,8,8,8,8]) i))),[]))) Ξ))):=by kernel_rfl
