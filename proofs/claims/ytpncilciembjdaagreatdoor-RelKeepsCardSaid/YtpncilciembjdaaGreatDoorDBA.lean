/- A seat of D: tables of f -/
import Derived.Test.YtpncilciembjdaaGreatDoorDAZ
set_option linter.all false
open Bool renaming true->Δ
open Option renaming none->Ξ,some->Θ
namespace Go.Proofs.YtpncilciembjdaaGreatDoor
noncomputable section
open AV renaming agg->ω,ls->Ψ,ptr->Aqk,tup->ε
open BO renaming set->ApX
open Key renaming fn->ψ
open Tryz renaming prog->υ
open Go.RowKit
def Sl:List (List (Nat × MFn)):=[XS]
def Vs:List (Nat × DF):=[(25,(AD Ad LF).ask (.fn 25))]
def LH:Seat:=EI HM Sl.flatten Vs
def DSr:Orc:=AD Ad LH
set_option maxRecDepth 100000 in
theorem Alv:Fu υ Bn Sl:=by
 repeat' first|exact trivial|refine⟨⟨_,_,_,rfl⟩,by kernel_rfl,?_⟩|refine⟨?_,?_⟩
theorem AlD:(D7 Sl&&HD Sl.flatten Vs)=Δ:=by kernel_rfl
theorem Aio:Knows HM XS DSr:=Be AlD (i:=0) rfl
section
variable {args:List AV} {bs:List ABlk} {r:AV × List BO}
theorem Ak8(h:((AD Ad LF).ask (.fn 25)) args bs=Θ r):DSr.ask (.fn 25) args bs=Θ r:=AA rfl h
end
theorem Zn(h:Fv υ Vs):SeatOk υ Bn LH:=DX Og DP Alv h
section
open Go.RowKit
def AiL:MFn:=MU υ Bn [] false Δ 160
def Aia:Hnt:=⟨[(155,(.int .i64,[]))],[],[(7,[.bool]),(10,AR),(14,AR),(20,AR)]⟩
def AiN:MFn:=MU υ Bn [] false Δ 162
def Aic:Hnt:=⟨[(155,(.int .i64,[]))],[],[(7,[.bool]),(10,AR),(14,AR),(20,AR)]⟩
def Am0:MFn:=MU υ Bn [] false Δ 89
def Amp:Hnt:=⟨[(27,(.agg Bx,[])),(28,(.agg Bx,[])),(125,(.agg B6,[])),(127,(.agg B6,[])),(155,(.int .i64,[]))],[],[(8,[.bool]),(13,[.bool]),(18,AR),(22,AR),(31,B6),(35,AR),(43,[.bool]),(48,B6),(52,AR),(61,[.bool]),(66,AR),(71,B6)]⟩
def AiS:MFn:=AY [] 213
def Aih:Hnt:=⟨[(83,(.int .i64,[]))],[],[(5,B6),(6,B6)]⟩
def QA:List (Nat × MFn):=[(160,AiL),(162,AiN),(89,Am0),(213,AiS)]
variable (A:Ar) (D:Orc)
theorem Aoe(p0_0:Rw)(p0_1:Bool)(p0_2:Rw)(p0_3:Bool)(p0_4:Rw)(p0_5:Bool)(p0_6:Rw)(p0_7 p0_8 x1_0:Bool)(x1_1:Rw):Cm A D Av Aia .n 160 AiL [Aqk 0 0,ω [bv x1_0,Ψ x1_1]] [bk [Ψ p0_0,bv p0_1,Ψ p0_2,bv p0_3,Ψ p0_4,bv p0_5,Ψ p0_6,bv p0_7,bv p0_8]] =
 br (A.not p0_7)
 (Θ ((ε [],[ApX (bk [Ψ p0_0,bv p0_1,Ψ p0_2,bv x1_0,Ψ x1_1,bv p0_5,Ψ p0_6,bv Δ,bv p0_8])])))
 (Af D (ψ 155) [ω [bv x1_0,Ψ x1_1],ω [bv p0_3,Ψ p0_4]] [] [.i,.E] λn=>
 br (A.lt 0 n)
 (Θ ((ε [],[ApX (bk [Ψ p0_0,bv p0_1,Ψ p0_2,bv x1_0,Ψ x1_1,bv p0_5,Ψ p0_6,bv Δ,bv p0_8])])))
 (Θ ((ε [],[ApX (bk [Ψ p0_0,bv p0_1,Ψ p0_2,bv p0_3,Ψ p0_4,bv p0_5,Ψ p0_6,bv p0_7,bv p0_8])])))):=by kernel_rfl
theorem Aog(p0_0:Rw)(p0_1:Bool)(p0_2:Rw)(p0_3:Bool)(p0_4:Rw)(p0_5:Bool)(p0_6:Rw)(p0_7 p0_8 x1_0:Bool)(x1_1:Rw):Cm A D Av Aic .n 162 AiN [Aqk 0 0,ω [bv x1_0,Ψ x1_1]] [bk [Ψ p0_0,bv p0_1,Ψ p0_2,bv p0_3,Ψ p0_4,bv p0_5,Ψ p0_6,bv p0_7,bv p0_8]] =
 br (A.not p0_8)
 (Θ ((ε [],[ApX (bk [Ψ p0_0,bv p0_1,Ψ p0_2,bv p0_3,Ψ p0_4,bv x1_0,Ψ x1_1,bv p0_7,bv Δ])])))
 (Af D (ψ 155) [ω [bv x1_0,Ψ x1_1],ω [bv p0_5,Ψ p0_6]] [] [.i,.E] λn=>
 br (A.lt n 0)
 (Θ ((ε [],[ApX (bk [Ψ p0_0,bv p0_1,Ψ p0_2,bv p0_3,Ψ p0_4,bv x1_0,Ψ x1_1,bv p0_7,bv Δ])])))
 (Θ ((ε [],[ApX (bk [Ψ p0_0,bv p0_1,Ψ p0_2,bv p0_3,Ψ p0_4,bv p0_5,Ψ p0_6,bv p0_7,bv p0_8])])))):=by kernel_rfl
theorem e89(p0_0:Rw)(p0_1:Bool)(p0_2:Rw)(p0_3:Bool)(p0_4:Rw)(p0_5:Bool)(p0_6:Rw)(p0_7 p0_8:Bool):Cm A D Av Amp (.b (.t (.t (.t (.t (.b (.b (.b .n (.b .n (.b .n (.b .n (.t (.b .n (.t .n))))))) .n) (.b .n (.t (.b .n (.f .n))))))))) (.f (.f (.f (.f (.b .n (.b .n (.f .n)))))))) 89 Am0 [Aqk 0 0] [bk [Ψ p0_0,bv p0_1,Ψ p0_2,bv p0_3,Ψ p0_4,bv p0_5,Ψ p0_6,bv p0_7,bv p0_8]] =
 br p0_7
 (br p0_7 (br p0_7 (br p0_7 (br p0_7 (br p0_8
 (Af D (ψ 155) [ω [bv p0_3,Ψ p0_4],ω [bv p0_5,Ψ p0_6]] [] [.i,.E] λn=>
 br (A.eq n 1)
 (Θ ((ε [Ψ [],bv false],[ApX (bk [Ψ p0_0,bv p0_1,Ψ p0_2,bv p0_3,Ψ p0_4,bv p0_5,Ψ p0_6,bv p0_7,bv p0_8])])))
 (br (A.eq n 0)
 (Af D (ψ 125) [ω [bv p0_3,Ψ p0_4]] [] [.a,.L,.B,.L,.N,.E] λxs b xs1=>
 Af D (ψ 127) [ω [Ψ p0_0,bv p0_1,Ψ p0_2],ω [Ψ xs,bv b,Ψ xs1]] [] [.a,.L,.B,.L,.N,.E] λxs2 b1 xs3=>
 Af D (ψ 27) [ω [Ψ xs2,bv b1,Ψ xs3]] [] [.a,.L,.B,.L,.B,.N,.E] λxs4 b2 xs5 b3=>
 Θ ((ε [Ψ [[Ψ xs4,bv b2,Ψ xs5,bv b3]],bv Δ],[ApX (bk [Ψ p0_0,bv p0_1,Ψ p0_2,bv p0_3,Ψ p0_4,bv p0_5,Ψ p0_6,bv p0_7,bv p0_8])])))
 (br p0_7 (AK D (ψ 125) [ω [bv p0_3,Ψ p0_4]] [] λr1 o1=>
 dk [.a,.L,.B,.L,.N,.E] [.v r1,.o o1] λxs b xs1=>
 Af D (ψ 127) [ω [Ψ p0_0,bv p0_1,Ψ p0_2],ω [Ψ xs,bv b,Ψ xs1]] [] [.a,.L,.B,.L,.N,.E] λxs2 b1 xs3=>
 Af D (ψ 28) [ω [Ψ xs2,bv b1,Ψ xs3]] [] [.a,.L,.B,.L,.B,.N,.E] λxs4 b2 xs5 b3=>
 br p0_8 (AK D (ψ 125) [ω [bv p0_5,Ψ p0_6]] [] λr4 o4=>
 dk [.a,.L,.B,.L,.N,.E] [.v r4,.o o4] λxs6 b4 xs7=>
 Af D (ψ 127) [ω [Ψ xs6,bv b4,Ψ xs7],ω [Ψ p0_0,bv p0_1,Ψ p0_2]] [] [.a,.L,.B,.L,.N,.E] λxs8 b5 xs9=>
 Af D (ψ 28) [ω [Ψ xs8,bv b5,Ψ xs9]] [] [.a,.L,.B,.L,.B,.N,.E] λxs10 b6 xs11 b7=>
 Θ ((ε [Ψ [[Ψ xs4,bv b2,Ψ xs5,bv b3],[Ψ xs10,bv b6,Ψ xs11,bv b7]],bv Δ],[ApX (bk [Ψ p0_0,bv p0_1,Ψ p0_2,bv p0_3,Ψ p0_4,bv p0_5,Ψ p0_6,bv p0_7,bv p0_8])]))) Ξ) Ξ)))
 (br p0_7 (AK D (ψ 125) [ω [bv p0_3,Ψ p0_4]] [] λr o=>
 dk [.a,.L,.B,.L,.N,.E] [.v r,.o o] λxs b xs1=>
 Af D (ψ 127) [ω [Ψ p0_0,bv p0_1,Ψ p0_2],ω [Ψ xs,bv b,Ψ xs1]] [] [.a,.L,.B,.L,.N,.E] λxs2 b1 xs3=>
 Af D (ψ 28) [ω [Ψ xs2,bv b1,Ψ xs3]] [] [.a,.L,.B,.L,.B,.N,.E] λxs4 b2 xs5 b3=>
 br p0_8 Ξ (Θ ((ε [Ψ [[Ψ xs4,bv b2,Ψ xs5,bv b3]],bv Δ],[ApX (bk [Ψ p0_0,bv p0_1,Ψ p0_2,bv p0_3,Ψ p0_4,bv p0_5,Ψ p0_6,bv p0_7,bv p0_8])])))) Ξ)) Ξ) Ξ) Ξ) Ξ)
 (br p0_7 Ξ (br p0_7 Ξ (br p0_7 Ξ (br p0_7 Ξ (br p0_7 Ξ (br p0_8
 (Af D (ψ 125) [ω [bv p0_5,Ψ p0_6]] [] [.a,.L,.B,.L,.N,.E] λxs b xs1=>
 Af D (ψ 127) [ω [Ψ xs,bv b,Ψ xs1],ω [Ψ p0_0,bv p0_1,Ψ p0_2]] [] [.a,.L,.B,.L,.N,.E] λxs2 b1 xs3=>
 Af D (ψ 28) [ω [Ψ xs2,bv b1,Ψ xs3]] [] [.a,.L,.B,.L,.B,.N,.E] λxs4 b2 xs5 b3=>
 Θ ((ε [Ψ [[Ψ xs4,bv b2,Ψ xs5,bv b3]],bv Δ],[ApX (bk [Ψ p0_0,bv p0_1,Ψ p0_2,bv p0_3,Ψ p0_4,bv p0_5,Ψ p0_6,bv p0_7,bv p0_8])])))
 (Θ ((ε [Ψ [],bv Δ],[ApX (bk [Ψ p0_0,bv p0_1,Ψ p0_2,bv p0_3,Ψ p0_4,bv p0_5,Ψ p0_6,bv p0_7,bv p0_8])]))))))))):=by kernel_rfl
theorem Aos(x0_0:Rw)(x0_1:Bool)(x0_2 x1_0:Rw)(x1_1:Bool)(x1_2:Rw):Cm A D Av Aih .n 213 AiS [ω [Ψ x0_0,bv x0_1,Ψ x0_2],ω [Ψ x1_0,bv x1_1,Ψ x1_2]] [] =
 Af D (ψ 83) [ω [Ψ x0_0,bv x0_1,Ψ x0_2],ω [Ψ x1_0,bv x1_1,Ψ x1_2]] [] [.i,.E] λn=>
 br (A.eq n 0)
 (Θ ((bv Δ,[])))
 (Θ ((bv false,[]))):=by kernel_rfl
end
def So:List (List (Nat × MFn)):=[GY,IY,DY,Fj,KF,Qz,XT,Ac6,KE,QA,Ac4]
def Vv:List (Nat × DF):=[(236,C8 1 (Bo 1 4)),(135,C8 3 (Bo 3 40)),(262,C8 3 (EP 40)),(144,(AD Ad GO).ask (.fn 144)),(65,(AD Ad LG).ask (.fn 65)),(90,(AD Ad LH).ask (.fn 90))]
def FW:Seat:=EI Av So.flatten Vv
def G6:Orc:=AD Ad FW
set_option maxRecDepth 100000 in
theorem Aly:Fu υ Bn So:=by
 repeat' first|exact trivial|refine⟨⟨_,_,_,rfl⟩,by kernel_rfl,?_⟩|refine⟨?_,?_⟩
theorem Hd:(D7 So&&HD So.flatten Vv)=Δ:=by kernel_rfl
theorem Aim:Knows Av GY G6:=Be Hd (i:=0) rfl
theorem Aiq:Knows Av IY G6:=Be Hd (i:=1) rfl
theorem Aby:Knows Av DY G6:=Be Hd (i:=2) rfl
theorem W8:Knows Av Fj G6:=Be Hd (i:=3) rfl
theorem Aip:Knows Av KF G6:=Be Hd (i:=4) rfl
theorem Amy:Knows Av Qz G6:=Be Hd (i:=5) rfl
theorem AmD:Knows Av XT G6:=Be Hd (i:=6) rfl
theorem AmH:Knows Av Ac6 G6:=Be Hd (i:=7) rfl
theorem Ail:Knows Av KE G6:=Be Hd (i:=8) rfl
theorem AmE:Knows Av QA G6:=Be Hd (i:=9) rfl
theorem Amu:Knows Av Ac4 G6:=Be Hd (i:=10) rfl
section
variable {args:List AV} {bs:List ABlk} {r:AV × List BO}
theorem ZS(h:(C8 1 (Bo 1 4)) args bs=Θ r):G6.ask (.fn 236) args bs=Θ r:=AA rfl h
theorem ZV(h:(C8 3 (Bo 3 40)) args bs=Θ r):G6.ask (.fn 135) args bs=Θ r:=AA rfl h
theorem Adt(h:(C8 3 (EP 40)) args bs=Θ r):G6.ask (.fn 262) args bs=Θ r:=AA rfl h
theorem Ahn(h:((AD Ad GO).ask (.fn 144)) args bs=Θ r):G6.ask (.fn 144) args bs=Θ r:=AA rfl h
theorem ZY(h:((AD Ad LG).ask (.fn 65)) args bs=Θ r):G6.ask (.fn 65) args bs=Θ r:=AA rfl h
theorem X2(h:((AD Ad LH).ask (.fn 90)) args bs=Θ r):G6.ask (.fn 90) args bs=Θ r:=AA rfl h
end
theorem Zq(h:Fv υ Vv):SeatOk υ Bn FW:=DX Og DP Aly h
