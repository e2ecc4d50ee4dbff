/- A seat of D: tables of f -/
import Derived.Test.YtpncilciembjdaaGreatDoorEAZ
set_option linter.all false
open Bool renaming true->Δ
open Option renaming none->Ξ,some->Θ
namespace Go.Proofs.YtpncilciembjdaaGreatDoor
noncomputable section
open ABlk renaming mk->δ
open AV renaming fn->Ar8,ls->Ψ,sl->χ,tup->ι,v->ArZ
open BO renaming set->ArU
open IntKind renaming i64->θ,u64->Ω
open Key renaming fn->ψ,lp->ArW
open Tryz renaming prog->ArP
open Go.RowKit
def SJ:List (List (Nat × MFn)):=[Hg,Ja,D9,FS,KY]
def VN:List (Nat × DF):=[(236,Dd 1 (By 1 4)),(135,Dd 3 (By 3 40)),(262,Dd 3 (EY 40))]
def LS:Seat:=ER At SJ.flatten VN
def DCp:Orc:=AL Ae LS
set_option maxRecDepth 100000 in
theorem Amy:Fy ArP Bx SJ:=by
 repeat' first|exact trivial|refine⟨⟨_,_,_,rfl⟩,by kernel_rfl,?_⟩|refine⟨?_,?_⟩
theorem Tb:(Ei SJ&&Ib SJ.flatten VN)=Δ:=by kernel_rfl
theorem AnI:Knows At Hg DCp:=Bh Tb (i:=0) rfl
theorem AnY:Knows At Ja DCp:=Bh Tb (i:=1) rfl
theorem AnR:Knows At D9 DCp:=Bh Tb (i:=2) rfl
theorem AnV:Knows At FS DCp:=Bh Tb (i:=3) rfl
theorem AnG:Knows At KY DCp:=Bh Tb (i:=4) rfl
section
variable {args:List AV} {bs:List ABlk} {r:AV × List BO}
theorem Aav(h:(Dd 1 (By 1 4)) args bs=Θ r):DCp.ask (.fn 236) args bs=Θ r:=AE rfl h
theorem Aaz(h:(Dd 3 (By 3 40)) args bs=Θ r):DCp.ask (.fn 135) args bs=Θ r:=AE rfl h
theorem Ael(h:(Dd 3 (EY 40)) args bs=Θ r):DCp.ask (.fn 262) args bs=Θ r:=AE rfl h
end
theorem ZZ(h:Fz ArP VN):SeatOk ArP Bx LS:=D8 OO DW Amy h
section
open Go.RowKit
def Ie:List (Nat × Nat):=[(90,0),(163,0),(214,0)]
def AcQ:MFn:=Ni ArP Bx [] false Δ 90
def Ajh:Hnt:=⟨[(25,(.int .i64,[])),(163,(.tup [],[.row Δ])),(164,(.int .i64,[]))],[],[]⟩
def Acd:Hnt:=⟨[(25,(.int .i64,[])),(163,(.tup [],[])),(164,(.int .i64,[]))],[],[]⟩
def Jz:MFn:=Ni ArP Bx [⟨148,(mB 3103),[],[],[(0,([Δ],([],[1000000])))]⟩] false Δ 163
def RS:Hnt:=⟨[(25,(.int .i64,[])),(163,(.tup [],[.row Δ])),(214,(.tup [],[.row Δ])),(215,(.any,[])),(216,(.any,[])),(217,(.tup [.int .i64,.int .i64],[])),(218,(.any,[])),(219,(.bool,[])),(220,(.int .i64,[])),(221,(.tup [.int .i64,.bool],[]))],[(0,[(0,([.sl 0 4],[.row Δ]))])],[(88,BL),(89,BL),(92,BL),(93,BL)]⟩
def Na:Hnt:=⟨[(25,(.int .i64,[])),(163,(.tup [],[.row Δ])),(214,(.tup [],[])),(215,(.any,[])),(216,(.any,[])),(217,(.tup [.int .i64,.int .i64],[])),(218,(.any,[])),(219,(.bool,[])),(220,(.int .i64,[])),(221,(.tup [.int .i64,.bool],[]))],[(0,[(0,([.cst (.slice Ξ 0 0)],[]))])],[(88,BL),(89,BL),(92,BL),(93,BL)]⟩
def GW:MFn:=Ni ArP Bx [⟨53,(mB 271),[],[],[(1,([Δ],([],[1000000])))]⟩,⟨53,(mB 783),[],[],[(3,((mB 271),([],[1000000])))]⟩] false Δ 214
def Fi:Hnt:=⟨[(25,(.int .i64,[]))],[(0,[(1,([.sl 0 4],[.row Δ]))]),(1,[(3,([.sl 0 4,.int .i64,.int .i64,.fnc 25,.int .i64],[.row Δ]))])],[(25,BL),(26,BL),(30,BL),(31,BL),(45,BL),(46,BL),(49,BL),(50,BL),(51,BL),(52,BL)]⟩
def Nb:Hnt:=⟨[(25,(.int .i64,[]))],[(0,[(1,([.cst (.slice Ξ 0 0)],[]))]),(1,[(3,([.cst (.slice Ξ 0 0),.int .i64,.int .i64,.fnc 25,.int .i64],[]))])],[(25,BL),(26,BL),(30,BL),(31,BL),(45,BL),(46,BL),(49,BL),(50,BL),(51,BL),(52,BL)]⟩
def AcK:MFn:=AU [] 164
def Ab4:Hnt:=⟨[(222,(.int .i64,[])),(223,(.int .i64,[]))],[],[]⟩
def AcO:MFn:=AU [] 223
def Lr:Hnt:=⟨[],[],[]⟩
def Yt:List (Nat × MFn):=[(90,AcQ),(163,Jz),(214,GW),(164,AcK),(223,AcO)]
variable (A:Ar) (D:Orc)
theorem Aqe(n0:Nat)(c0:List AV):BY A D Ie Ajh .n 90 AcQ [χ 0 0 n0 4,Ar8 (Fn.func 25) [] []] [{ cells:=c0,st:=Δ,ex:=Δ }] =
 Af D (ψ 164) [ArZ (Value.int Ω (A.conv Ω ↑n0))] [] [.i,.E] λn=>
 Af D (ψ 163) [χ 0 0 n0 4,iv 0,iv ↑n0,iv n,Ar8 (Fn.func 25) [] []] [δ c0 Δ Δ] [.t,.N,.R,.X,.E] λcs1=>
 Θ ((ι [],[ArU (δ cs1 Δ Δ)])):=by kernel_rfl
theorem Anb:BY A D Ie Acd .n 90 AcQ [ArZ (Value.slice Ξ 0 0),Ar8 (Fn.func 25) [] []] [] =
 Af D (ψ 164) [ArZ (Value.int Ω (A.conv Ω 0))] [] [.i,.E] λn=>
 Af D (ψ 163) [ArZ (Value.slice Ξ 0 0),iv 0,iv 0,iv n,Ar8 (Fn.func 25) [] []] [] [.t,.N,.E,.w] λ_=>
 Θ ((ι [],[])):=by kernel_rfl
theorem AmR(n0:Nat)(c0:List AV)(x1 x2 x3:Int):BY A D Ie RS .n 163 Jz [χ 0 0 n0 4,iv x1,iv x2,iv x3,Ar8 (Fn.func 25) [] []] [{ cells:=c0,st:=Δ,ex:=Δ }] =
 Af D (ArW 163 0) [χ 0 0 n0 4,iv x1,iv x2,iv x3,Ar8 (Fn.func 25) [] [],bv Δ,bv Δ] [δ c0 Δ Δ] [.t,.C,.x,.X,.Y] λc l o=>
 br (Bo 0 c)
 (dk [.C,.q 0 4,.N,.R,.X,.E] [.l l,.o o] λ_ cs1=>
 Θ ((ι [],[ArU (δ cs1 Δ Δ)])))
 (Ξ):=by kernel_rfl
theorem AeW(n0:Nat)(c0:List AV)(t1 t2 t3:Int)(t10 t11:Bool):Dy A D Ie RS (.t .n) 163 0 (AZ Jz 0).fst (AZ Jz 0).snd [χ 0 0 n0 4,iv t1,iv t2,iv t3,Ar8 (Fn.func 25) [] [],bv t10,bv t11] [{ cells:=c0,st:=Δ,ex:=Δ }] =
 br (A.le (A.sub θ t2 t1) 12) (AF D (ψ 214) [χ 0 0 n0 4,iv t1,iv t2,Ar8 (Fn.func 25) [] []] [δ c0 Δ Δ] λr o=>
 dk [.t,.N,.R,.X,.E] [.v r,.o o] λcs1=>
 Θ ((ι [bv Δ,χ 0 0 n0 4],[ArU (δ cs1 Δ Δ)]))) Ξ:=by kernel_rfl
theorem AkI(x1 x2 x3:Int):BY A D Ie Na .n 163 Jz [ArZ (Value.slice Ξ 0 0),iv x1,iv x2,iv x3,Ar8 (Fn.func 25) [] []] [] =
 Af D (ArW 163 0) [ArZ (Value.slice Ξ 0 0),iv x1,iv x2,iv x3,Ar8 (Fn.func 25) [] [],bv Δ,bv Δ] [] [.t,.C,.x,.X,.Y] λc l o=>
 br (Bo 0 c)
 (dk [.C,.c (Value.slice Ξ 0 0),.N,.E,.w] [.l l,.o o] λ_=>
 Θ ((ι [],[])))
 (Ξ):=by kernel_rfl
theorem Abl(t1 t2 t3:Int)(t10 t11:Bool):Dy A D Ie Na (.t .n) 163 0 (AZ Jz 0).fst (AZ Jz 0).snd [ArZ (Value.slice Ξ 0 0),iv t1,iv t2,iv t3,Ar8 (Fn.func 25) [] [],bv t10,bv t11] [] =
 br (A.le (A.sub θ t2 t1) 12) (AF D (ψ 214) [ArZ (Value.slice Ξ 0 0),iv t1,iv t2,Ar8 (Fn.func 25) [] []] [] λr o=>
 dk [.t,.N,.E,.w] [.v r,.o o] λ_=>
 Θ ((ι [bv Δ,ArZ (Value.slice Ξ 0 0)],[]))) Ξ:=by kernel_rfl
theorem AiB(n0:Nat)(c0:List AV)(x1 x2:Int):BY A D Ie Fi .n 214 GW [χ 0 0 n0 4,iv x1,iv x2,Ar8 (Fn.func 25) [] []] [{ cells:=c0,st:=Δ,ex:=Δ }] =
 Af D (ArW 214 0) [χ 0 0 n0 4,iv x1,iv x2,Ar8 (Fn.func 25) [] [],iv (A.add θ x1 1)] [δ c0 Δ Δ] [.t,.C,.x,.X,.Y] λc l o=>
 br (Bo 1 c)
 (dk [.C,.q 0 4,.N,.R,.X,.E] [.l l,.o o] λ_ cs1=>
 Θ ((ι [],[ArU (δ cs1 Δ Δ)])))
 (Ξ):=by kernel_rfl
theorem RH(n0:Nat)(c0:List AV)(t1 t2 t8:Int):Dy A D Ie Fi .n 214 0 (AZ GW 0).fst (AZ GW 0).snd [χ 0 0 n0 4,iv t1,iv t2,Ar8 (Fn.func 25) [] [],iv t8] [{ cells:=c0,st:=Δ,ex:=Δ }] =
 br (A.lt t8 t2)
 (Af D (ArW 214 1) [χ 0 0 n0 4,iv t1,iv t2,Ar8 (Fn.func 25) [] [],iv t8,iv t8] [δ c0 Δ Δ] [.t,.C,.x,.X,.Y] λc l o=>
 br (Bo 3 c)
 (dk [.C,.q 0 4,.I,.I,.C,.f 25,.I,.N,.R,.X,.E] [.l l,.o o] λn n1 n2 n3 cs1=>
 AF D (ArW 214 0) [χ 0 0 n 4,iv n1,iv n2,Ar8 (Fn.func 25) [] [],iv (A.add θ n3 1)] [δ cs1 Δ Δ] λr1 o1=>
 AW 1 [0] (AH.mk [(0,δ cs1 Δ Δ)] 1 Ξ) [0] r1 o1)
 (Ξ))
 (Θ ((ι [iv 0,χ 0 0 n0 4],[ArU (δ c0 Δ Δ)]))):=by kernel_rfl
theorem RI(n0:Nat)(c0:List AV)(t1 t2 t8 t9:Int):Dy A D Ie Fi .n 214 1 (AZ GW 1).fst (AZ GW 1).snd [χ 0 0 n0 4,iv t1,iv t2,Ar8 (Fn.func 25) [] [],iv t8,iv t9] [{ cells:=c0,st:=Δ,ex:=Δ }] =
 br (A.lt t1 t9)
 (unI t9 λi=>
 br (i.blt n0) (EX c0 (0+i*4) 4 λcs=>
 dk [.L,.B,.L,.B,.N] [.l cs] λxs b xs1 b1=>
 unI (A.sub θ t9 1) λi1=>
 br (i1.blt n0) (EX c0 (0+i1*4) 4 λcs1=>
 dk [.L,.B,.L,.B,.N] [.l cs1] λxs2 b2 xs3 b3=>
 Af D (ψ 25) [AV.agg [Ψ xs,bv b,Ψ xs1,bv b1],AV.agg [Ψ xs2,bv b2,Ψ xs3,bv b3]] [] [.i,.E] λn=>
 br (A.lt n 0)
 (unI (A.sub θ t9 1) λi2=>
 br (i2.blt n0) (EX c0 (0+i2*4) 4 λcs2=>
 dk [.L,.B,.L,.B,.N] [.l cs2] λxs4 b4 xs5 b5=>
 unI t9 λi3=>
 br (i3.blt n0) (EX c0 (0+i3*4) 4 λcs3=>
 dk [.L,.B,.L,.B,.N] [.l cs3] λxs6 b6 xs7 b7=>
 unI t9 λi4=>
 br (i4.blt n0) (br ((0+i4*4+4).ble c0.length) (unI (A.sub θ t9 1) λi5=>
 br (i5.blt n0) (br ((0+i5*4+4).ble (AD c0 (0+i4*4) [Ψ xs4,bv b4,Ψ xs5,bv b5]).length) (AF D (ArW 214 1) [χ 0 0 n0 4,iv t1,iv t2,Ar8 (Fn.func 25) [] [],iv t8,iv (A.sub θ t9 1)] [δ (AD (AD c0 (0+i4*4) [Ψ xs4,bv b4,Ψ xs5,bv b5]) (0+i5*4) [Ψ xs6,bv b6,Ψ xs7,bv b7]) Δ Δ] λr1 o1=>
 AW 1 [0] (AH.mk [(0,δ (AD (AD c0 (0+i4*4) [Ψ xs4,bv b4,Ψ xs5,bv b5]) (0+i5*4) [Ψ xs6,bv b6,Ψ xs7,bv b7]) Δ Δ)] 1 Ξ) [0] r1 o1) Ξ) Ξ) Ξ) Ξ) Ξ) Ξ)
 (Θ ((ι [iv 2,χ 0 0 n0 4,iv t1,iv t2,Ar8 (Fn.func 25) [] [],iv t8],[ArU (δ c0 Δ Δ)])))) Ξ) Ξ)
 (Θ ((ι [iv 2,χ 0 0 n0 4,iv t1,iv t2,Ar8 (Fn.func 25) [] [],iv t8],[ArU (δ c0 Δ Δ)]))):=by kernel_rfl
theorem AkJ(x1 x2:Int):BY A D Ie Nb .n 214 GW [ArZ (Value.slice Ξ 0 0),iv x1,iv x2,Ar8 (Fn.func 25) [] []] [] =
 Af D (ArW 214 0) [ArZ (Value.slice Ξ 0 0),iv x1,iv x2,Ar8 (Fn.func 25) [] [],iv (A.add θ x1 1)] [] [.t,.C,.x,.X,.Y] λc l o=>
 br (Bo 1 c)
 (dk [.C,.c (Value.slice Ξ 0 0),.N,.E,.w] [.l l,.o o] λ_=>
 Θ ((ι [],[])))
 (Ξ):=by kernel_rfl
theorem Abv(t1 t2 t8:Int):Dy A D Ie Nb .n 214 0 (AZ GW 0).fst (AZ GW 0).snd [ArZ (Value.slice Ξ 0 0),iv t1,iv t2,Ar8 (Fn.func 25) [] [],iv t8] [] =
 br (A.lt t8 t2)
 (Af D (ArW 214 1) [ArZ (Value.slice Ξ 0 0),iv t1,iv t2,Ar8 (Fn.func 25) [] [],iv t8,iv t8] [] [.t,.C,.x,.X,.Y] λc l o=>
 br (Bo 3 c)
 (dk [.C,.c (Value.slice Ξ 0 0),.I,.I,.C,.f 25,.I,.N,.E] [.l l,.o o] λn n1 n2=>
 AF D (ArW 214 0) [ArZ (Value.slice Ξ 0 0),iv n,iv n1,Ar8 (Fn.func 25) [] [],iv (A.add θ n2 1)] [] λr1 o1=>
 AW 0 [] (AH.mk [] 0 Ξ) [] r1 o1)
 (Ξ))
 (Θ ((ι [iv 0,ArZ (Value.slice Ξ 0 0)],[]))):=by kernel_rfl
theorem AmS(x0:Int):BY A D Ie Ab4 .n 164 AcK [ArZ (Value.int Ω x0)] [] =
 Af D (ψ 223) [ArZ (Value.int Ω x0)] [] [.i,.E] λn=>
 Θ ((iv n,[])):=by kernel_rfl
theorem Tv(x0:Int):BY A D Ie Lr (.f (.f (.f (.f (.f (.f .n)))))) 223 AcO [ArZ (Value.int Ω x0)] [] =
 br (A.le 4294967296 x0) Ξ (br (A.le 65536 x0) Ξ (br (A.le 256 x0) Ξ (unI (A.conv IntKind.u8 x0) λi=>
 br (i.blt (A.slen (C7 [0,1,2,2,3,3,3,3,4,4,4,4,4,4,4,4,5,5,5,5,5,5,5,5,5,5,5,5,5,5,5,5,6,6,6,6,6,6,6,6,6,6,6,6,6,6,6,6,6,6,6,6,6,6,6,6,6,6,6,6,6,6,6,6,7,7,7,7,7,7,7,7,7,7,7,7,7,7,7,7,7,7,7,7,7,7,7,7,7,7,7,7,7,7,7,7,7,7,7,7,7,7,7,7,7,7,7,7,7,7,7,7,7,7,7,7,7,7,7,7,7,7,7,7,7,7,7,7,8,8,8,8,8,8,8,8,8,8,8,8,8,8,8,8,8,8,8,8,8,8,8,8,8,8,8,8,8,8,8,8,8,8,8,8,8,8,8,8,8,8,8,8,8,8,8,8,8,8,8,8,8,8,8,8,8,8,8,8,8,8,8,8,8,8,8,8,8,8,8,8,8,8,8,8,8,8,8,8,8,8,8,8,8,8,8,8,8,8,8,8,8,8,8,8,8,8,8,8,8,8,8,8,8,8,8,8,8,8,8,8,8,8,8,8,8,8,8,8,8,8,8,8,8,8,8,8]))) (Θ ((iv (A.add θ 0 (A.conv θ (A.sat (C7 [0,1,2,2,3,3,3,3,4,4,4,4,4,4,4,4,5,5,5,5,5,5,5,5,5,5,5,5,5,5,5,5,6,6,6,6,6,6,6,6,6,6,6,6,6,6,6,6,6,6,6,6,6,6,6,6,6,6,6,6,6,6,6,6,7,7,7,7,7,7,7,7,7,7,7,7,7,7,7,7,7,7,7,7,7,7,7,7,7,7,7,7,7,7,7,7,7,7,7,7,7,7,7,7,7,7,7,7,7,7,7,7,7,7,7,7,7,7,7,7,7,7,7,7,7,7,7,7,8,8,8,8,8,8,8,8,8,8,8,8,8,8,8,8,8,8,8,8,8,8,8,8,8,8,8,8,8,8,8,8,8,8,8,8,8,8,8,8,8,8,8,8,8,8,8,8,8,8,8,8,8,8,8,8,8,8,8,8,8,8,8,8,8,8,8,8,8,8,8,8,8,8,8,8,8,8,8,8,8,8,8,8,8,8,8,8,8,8,8,8,8,8,8,8,8,8,8,8,8,8,8,8,8,8,8,8,8,8,8,8,8,8,8,8,8,8,8,8,8,8,8,8,8,8,8,8]) i))),[]))) Ξ))):=by kernel_rfl
end
