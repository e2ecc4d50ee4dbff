/- A seat of D: tables of f -/
import Derived.Test.YtpncilciembjdaaGreatDoorEBA
set_option linter.all false
open Bool renaming true->Δ
open Option renaming none->Ξ,some->Θ
namespace Go.Proofs.YtpncilciembjdaaGreatDoor
noncomputable section
open AV renaming agg->ω,ls->Ψ,ptr->Asm,tup->ι
open BO renaming set->ArU
open Key renaming fn->ψ
open Tryz renaming prog->ArP
open Go.RowKit
def SO:List (List (Nat × MFn)):=[Yt]
def VR:List (Nat × DF):=[(25,(AL Ae LS).ask (.fn 25))]
def LV:Seat:=ER Ie SO.flatten VR
def DSr:Orc:=AL Ae LV
set_option maxRecDepth 100000 in
theorem AmC:Fy ArP Bx SO:=by
 repeat' first|exact trivial|refine⟨⟨_,_,_,rfl⟩,by kernel_rfl,?_⟩|refine⟨?_,?_⟩
theorem AmK:(Ei SO&&Ib SO.flatten VR)=Δ:=by kernel_rfl
theorem Ajn:Knows Ie Yt DSr:=Bh AmK (i:=0) rfl
section
variable {args:List AV} {bs:List ABlk} {r:AV × List BO}
theorem Amg(h:((AL Ae LS).ask (.fn 25)) args bs=Θ r):DSr.ask (.fn 25) args bs=Θ r:=AE rfl h
end
theorem Z3(h:Fz ArP VR):SeatOk ArP Bx LV:=D8 OO DW AmC h
section
open Go.RowKit
def AjQ:MFn:=Ni ArP Bx [] false Δ 160
def Ai6:Hnt:=⟨[(155,(.int .i64,[]))],[],[(7,[.bool]),(10,AK),(14,AK),(20,AK)]⟩
def AjS:MFn:=Ni ArP Bx [] false Δ 162
def Ai8:Hnt:=⟨[(155,(.int .i64,[]))],[],[(7,[.bool]),(10,AK),(14,AK),(20,AK)]⟩
def Aoq:MFn:=Ni ArP Bx [] false Δ 89
def AnB:Hnt:=⟨[(27,(.agg BL,[])),(28,(.agg BL,[])),(125,(.agg B7,[])),(127,(.agg B7,[])),(155,(.int .i64,[]))],[],[(8,[.bool]),(13,[.bool]),(18,AK),(22,AK),(31,B7),(35,AK),(43,[.bool]),(48,B7),(52,AK),(61,[.bool]),(66,AK),(71,B7)]⟩
def Aj0:MFn:=AU [] 213
def Ajg:Hnt:=⟨[(83,(.int .i64,[]))],[],[(5,B7),(6,B7)]⟩
def Q2:List (Nat × MFn):=[(160,AjQ),(162,AjS),(89,Aoq),(213,Aj0)]
variable (A:Ar) (D:Orc)
theorem ApL(p0_0:Rw)(p0_1:Bool)(p0_2:Rw)(p0_3:Bool)(p0_4:Rw)(p0_5:Bool)(p0_6:Rw)(p0_7 p0_8 x1_0:Bool)(x1_1:Rw):BY A D At Ai6 .n 160 AjQ [Asm 0 0,ω [bv x1_0,Ψ x1_1]] [bk [Ψ p0_0,bv p0_1,Ψ p0_2,bv p0_3,Ψ p0_4,bv p0_5,Ψ p0_6,bv p0_7,bv p0_8]] =
 br (A.not p0_7)
 (Θ ((ι [],[ArU (bk [Ψ p0_0,bv p0_1,Ψ p0_2,bv x1_0,Ψ x1_1,bv p0_5,Ψ p0_6,bv Δ,bv p0_8])])))
 (Af D (ψ 155) [ω [bv x1_0,Ψ x1_1],ω [bv p0_3,Ψ p0_4]] [] [.i,.E] λn=>
 br (A.lt 0 n)
 (Θ ((ι [],[ArU (bk [Ψ p0_0,bv p0_1,Ψ p0_2,bv x1_0,Ψ x1_1,bv p0_5,Ψ p0_6,bv Δ,bv p0_8])])))
 (Θ ((ι [],[ArU (bk [Ψ p0_0,bv p0_1,Ψ p0_2,bv p0_3,Ψ p0_4,bv p0_5,Ψ p0_6,bv p0_7,bv p0_8])])))):=by kernel_rfl
theorem ApN(p0_0:Rw)(p0_1:Bool)(p0_2:Rw)(p0_3:Bool)(p0_4:Rw)(p0_5:Bool)(p0_6:Rw)(p0_7 p0_8 x1_0:Bool)(x1_1:Rw):BY A D At Ai8 .n 162 AjS [Asm 0 0,ω [bv x1_0,Ψ x1_1]] [bk [Ψ p0_0,bv p0_1,Ψ p0_2,bv p0_3,Ψ p0_4,bv p0_5,Ψ p0_6,bv p0_7,bv p0_8]] =
 br (A.not p0_8)
 (Θ ((ι [],[ArU (bk [Ψ p0_0,bv p0_1,Ψ p0_2,bv p0_3,Ψ p0_4,bv x1_0,Ψ x1_1,bv p0_7,bv Δ])])))
 (Af D (ψ 155) [ω [bv x1_0,Ψ x1_1],ω [bv p0_5,Ψ p0_6]] [] [.i,.E] λn=>
 br (A.lt n 0)
 (Θ ((ι [],[ArU (bk [Ψ p0_0,bv p0_1,Ψ p0_2,bv p0_3,Ψ p0_4,bv x1_0,Ψ x1_1,bv p0_7,bv Δ])])))
 (Θ ((ι [],[ArU (bk [Ψ p0_0,bv p0_1,Ψ p0_2,bv p0_3,Ψ p0_4,bv p0_5,Ψ p0_6,bv p0_7,bv p0_8])])))):=by kernel_rfl
theorem e89(p0_0:Rw)(p0_1:Bool)(p0_2:Rw)(p0_3:Bool)(p0_4:Rw)(p0_5:Bool)(p0_6:Rw)(p0_7 p0_8:Bool):BY A D At AnB (.b (.t (.t (.t (.t (.b (.b (.b .n (.b .n (.b .n (.b .n (.t (.b .n (.t .n))))))) .n) (.b .n (.t (.b .n (.f .n))))))))) (.f (.f (.f (.f (.b .n (.b .n (.f .n)))))))) 89 Aoq [Asm 0 0] [bk [Ψ p0_0,bv p0_1,Ψ p0_2,bv p0_3,Ψ p0_4,bv p0_5,Ψ p0_6,bv p0_7,bv p0_8]] =
 br p0_7
 (br p0_7 (br p0_7 (br p0_7 (br p0_7 (br p0_8
 (Af D (ψ 155) [ω [bv p0_3,Ψ p0_4],ω [bv p0_5,Ψ p0_6]] [] [.i,.E] λn=>
 br (A.eq n 1)
 (Θ ((ι [Ψ [],bv false],[ArU (bk [Ψ p0_0,bv p0_1,Ψ p0_2,bv p0_3,Ψ p0_4,bv p0_5,Ψ p0_6,bv p0_7,bv p0_8])])))
 (br (A.eq n 0)
 (Af D (ψ 125) [ω [bv p0_3,Ψ p0_4]] [] [.a,.L,.B,.L,.N,.E] λxs b xs1=>
 Af D (ψ 127) [ω [Ψ p0_0,bv p0_1,Ψ p0_2],ω [Ψ xs,bv b,Ψ xs1]] [] [.a,.L,.B,.L,.N,.E] λxs2 b1 xs3=>
 Af D (ψ 27) [ω [Ψ xs2,bv b1,Ψ xs3]] [] [.a,.L,.B,.L,.B,.N,.E] λxs4 b2 xs5 b3=>
 Θ ((ι [Ψ [[Ψ xs4,bv b2,Ψ xs5,bv b3]],bv Δ],[ArU (bk [Ψ p0_0,bv p0_1,Ψ p0_2,bv p0_3,Ψ p0_4,bv p0_5,Ψ p0_6,bv p0_7,bv p0_8])])))
 (br p0_7 (AF D (ψ 125) [ω [bv p0_3,Ψ p0_4]] [] λr1 o1=>
 dk [.a,.L,.B,.L,.N,.E] [.v r1,.o o1] λxs b xs1=>
 Af D (ψ 127) [ω [Ψ p0_0,bv p0_1,Ψ p0_2],ω [Ψ xs,bv b,Ψ xs1]] [] [.a,.L,.B,.L,.N,.E] λxs2 b1 xs3=>
 Af D (ψ 28) [ω [Ψ xs2,bv b1,Ψ xs3]] [] [.a,.L,.B,.L,.B,.N,.E] λxs4 b2 xs5 b3=>
 br p0_8 (AF D (ψ 125) [ω [bv p0_5,Ψ p0_6]] [] λr4 o4=>
 dk [.a,.L,.B,.L,.N,.E] [.v r4,.o o4] λxs6 b4 xs7=>
 Af D (ψ 127) [ω [Ψ xs6,bv b4,Ψ xs7],ω [Ψ p0_0,bv p0_1,Ψ p0_2]] [] [.a,.L,.B,.L,.N,.E] λxs8 b5 xs9=>
 Af D (ψ 28) [ω [Ψ xs8,bv b5,Ψ xs9]] [] [.a,.L,.B,.L,.B,.N,.E] λxs10 b6 xs11 b7=>
 Θ ((ι [Ψ [[Ψ xs4,bv b2,Ψ xs5,bv b3],[Ψ xs10,bv b6,Ψ xs11,bv b7]],bv Δ],[ArU (bk [Ψ p0_0,bv p0_1,Ψ p0_2,bv p0_3,Ψ p0_4,bv p0_5,Ψ p0_6,bv p0_7,bv p0_8])]))) Ξ) Ξ)))
 (br p0_7 (AF D (ψ 125) [ω [bv p0_3,Ψ p0_4]] [] λr o=>
 dk [.a,.L,.B,.L,.N,.E] [.v r,.o o] λxs b xs1=>
 Af D (ψ 127) [ω [Ψ p0_0,bv p0_1,Ψ p0_2],ω [Ψ xs,bv b,Ψ xs1]] [] [.a,.L,.B,.L,.N,.E] λxs2 b1 xs3=>
 Af D (ψ 28) [ω [Ψ xs2,bv b1,Ψ xs3]] [] [.a,.L,.B,.L,.B,.N,.E] λxs4 b2 xs5 b3=>
 br p0_8 Ξ (Θ ((ι [Ψ [[Ψ xs4,bv b2,Ψ xs5,bv b3]],bv Δ],[ArU (bk [Ψ p0_0,bv p0_1,Ψ p0_2,bv p0_3,Ψ p0_4,bv p0_5,Ψ p0_6,bv p0_7,bv p0_8])])))) Ξ)) Ξ) Ξ) Ξ) Ξ)
 (br p0_7 Ξ (br p0_7 Ξ (br p0_7 Ξ (br p0_7 Ξ (br p0_7 Ξ (br p0_8
 (Af D (ψ 125) [ω [bv p0_5,Ψ p0_6]] [] [.a,.L,.B,.L,.N,.E] λxs b xs1=>
 Af D (ψ 127) [ω [Ψ xs,bv b,Ψ xs1],ω [Ψ p0_0,bv p0_1,Ψ p0_2]] [] [.a,.L,.B,.L,.N,.E] λxs2 b1 xs3=>
 Af D (ψ 28) [ω [Ψ xs2,bv b1,Ψ xs3]] [] [.a,.L,.B,.L,.B,.N,.E] λxs4 b2 xs5 b3=>
 Θ ((ι [Ψ [[Ψ xs4,bv b2,Ψ xs5,bv b3]],bv Δ],[ArU (bk [Ψ p0_0,bv p0_1,Ψ p0_2,bv p0_3,Ψ p0_4,bv p0_5,Ψ p0_6,bv p0_7,bv p0_8])])))
 (Θ ((ι [Ψ [],bv Δ],[ArU (bk [Ψ p0_0,bv p0_1,Ψ p0_2,bv p0_3,Ψ p0_4,bv p0_5,Ψ p0_6,bv p0_7,bv p0_8])]))))))))):=by kernel_rfl
theorem Ap5(x0_0:Rw)(x0_1:Bool)(x0_2 x1_0:Rw)(x1_1:Bool)(x1_2:Rw):BY A D At Ajg .n 213 Aj0 [ω [Ψ x0_0,bv x0_1,Ψ x0_2],ω [Ψ x1_0,bv x1_1,Ψ x1_2]] [] =
 Af D (ψ 83) [ω [Ψ x0_0,bv x0_1,Ψ x0_2],ω [Ψ x1_0,bv x1_1,Ψ x1_2]] [] [.i,.E] λn=>
 br (A.eq n 0)
 (Θ ((bv Δ,[])))
 (Θ ((bv false,[]))):=by kernel_rfl
end
def SR:List (List (Nat × MFn)):=[Hg,Ja,D9,FS,KZ,QW,Yu,Ad0,KY,Q2,AoR]
def VU:List (Nat × DF):=[(236,Dd 1 (By 1 4)),(135,Dd 3 (By 3 40)),(262,Dd 3 (EY 40)),(144,(AL Ae G2).ask (.fn 144)),(65,(AL Ae LU).ask (.fn 65)),(90,(AL Ae LV).ask (.fn 90))]
def LW:Seat:=ER At SR.flatten VU
def Ix:Orc:=AL Ae LW
set_option maxRecDepth 100000 in
theorem AmF:Fy ArP Bx SR:=by
 repeat' first|exact trivial|refine⟨⟨_,_,_,rfl⟩,by kernel_rfl,?_⟩|refine⟨?_,?_⟩
theorem I1:(Ei SR&&Ib SR.flatten VU)=Δ:=by kernel_rfl
theorem Ajk:Knows At Hg Ix:=Bh I1 (i:=0) rfl
theorem Ajq:Knows At Ja Ix:=Bh I1 (i:=1) rfl
theorem Ajm:Knows At D9 Ix:=Bh I1 (i:=2) rfl
theorem Ajo:Knows At FS Ix:=Bh I1 (i:=3) rfl
theorem Ajp:Knows At KZ Ix:=Bh I1 (i:=4) rfl
theorem AnK:Knows At QW Ix:=Bh I1 (i:=5) rfl
theorem AnT:Knows At Yu Ix:=Bh I1 (i:=6) rfl
theorem AnX:Knows At Ad0 Ix:=Bh I1 (i:=7) rfl
theorem AnH:Knows At KY Ix:=Bh I1 (i:=8) rfl
theorem AnU:Knows At Q2 Ix:=Bh I1 (i:=9) rfl
section
variable {args:List AV} {bs:List ABlk} {r:AV × List BO}
theorem Aax(h:(Dd 1 (By 1 4)) args bs=Θ r):Ix.ask (.fn 236) args bs=Θ r:=AE rfl h
theorem AaA(h:(Dd 3 (By 3 40)) args bs=Θ r):Ix.ask (.fn 135) args bs=Θ r:=AE rfl h
theorem Aem(h:(Dd 3 (EY 40)) args bs=Θ r):Ix.ask (.fn 262) args bs=Θ r:=AE rfl h
theorem Aig(h:((AL Ae G2).ask (.fn 144)) args bs=Θ r):Ix.ask (.fn 144) args bs=Θ r:=AE rfl h
theorem AaD(h:((AL Ae LU).ask (.fn 65)) args bs=Θ r):Ix.ask (.fn 65) args bs=Θ r:=AE rfl h
theorem YC(h:((AL Ae LV).ask (.fn 90)) args bs=Θ r):Ix.ask (.fn 90) args bs=Θ r:=AE rfl h
end
theorem Z6(h:Fz ArP VU):SeatOk ArP Bx LW:=D8 OO DW AmF h
