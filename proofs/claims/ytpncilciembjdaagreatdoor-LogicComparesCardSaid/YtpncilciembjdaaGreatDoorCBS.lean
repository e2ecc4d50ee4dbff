/- A seat of D: tables of f -/
import Derived.Test.YtpncilciembjdaaGreatDoorCBR
set_option linter.all false
open Option renaming some->Θ
namespace Go.Proofs.YtpncilciembjdaaGreatDoor
noncomputable section
open Tryz renaming prog->ι
open Go.RowKit
def Su:List (List (Nat × MFn)):=[Jk,MJ,EQ,GD,MI,QN,X6,UI,UF,UD,X2,X3,UE,X4,QO,X5,UG,Sr]
def Vu:List (Nat × DF):=[(236,Dj 1 (BI 1 4)),(135,Dj 3 (BI 3 40)),(262,Dj 3 (DI 40)),(144,(A1 Af G5).ask (.fn 144)),(65,(A1 Af LZ).ask (.fn 65)),(34,(A1 Af Pa).ask (.fn 34))]
def Wh:Seat:=Fr As Su.flatten Vu
def I8:Orc:=A1 Af Wh
set_option maxRecDepth 100000 in
theorem Aoi:Ga ι Bz Su:=by
 repeat' first|exact trivial|refine⟨⟨_,_,_,rfl⟩,by kernel_rfl,?_⟩|refine⟨?_,?_⟩
theorem Ej:(GL Su&&OQ Su.flatten Vu)=true:=by kernel_rfl
theorem Akr:Knows As Jk I8:=Bv Ej (i:=0) rfl
theorem Akw:Knows As MJ I8:=Bv Ej (i:=1) rfl
theorem Akt:Knows As EQ I8:=Bv Ej (i:=2) rfl
theorem Aku:Knows As GD I8:=Bv Ej (i:=3) rfl
theorem Akv:Knows As MI I8:=Bv Ej (i:=4) rfl
theorem Apy:Knows As QN I8:=Bv Ej (i:=5) rfl
theorem ApF:Knows As X6 I8:=Bv Ej (i:=6) rfl
theorem ApH:Knows As UI I8:=Bv Ej (i:=7) rfl
theorem ApA:Knows As UF I8:=Bv Ej (i:=8) rfl
theorem Apt:Knows As UD I8:=Bv Ej (i:=9) rfl
theorem Aps:Knows As X2 I8:=Bv Ej (i:=10) rfl
theorem Apu:Knows As X3 I8:=Bv Ej (i:=11) rfl
theorem Apv:Knows As UE I8:=Bv Ej (i:=12) rfl
theorem Apw:Knows As X4 I8:=Bv Ej (i:=13) rfl
theorem ApC:Knows As QO I8:=Bv Ej (i:=14) rfl
theorem ApD:Knows As X5 I8:=Bv Ej (i:=15) rfl
theorem ApB:Knows As UG I8:=Bv Ej (i:=16) rfl
theorem Amm:Knows As Sr I8:=Bv Ej (i:=17) rfl
section
variable {args:List AV} {bs:List ABlk} {r:AV × List BO}
theorem Z3(h:(Dj 1 (BI 1 4)) args bs=Θ r):I8.ask (.fn 236) args bs=Θ r:=AW rfl h
theorem Z5(h:(Dj 3 (BI 3 40)) args bs=Θ r):I8.ask (.fn 135) args bs=Θ r:=AW rfl h
theorem AdR(h:(Dj 3 (DI 40)) args bs=Θ r):I8.ask (.fn 262) args bs=Θ r:=AW rfl h
theorem Ajm(h:((A1 Af G5).ask (.fn 144)) args bs=Θ r):I8.ask (.fn 144) args bs=Θ r:=AW rfl h
theorem Z7(h:((A1 Af LZ).ask (.fn 65)) args bs=Θ r):I8.ask (.fn 65) args bs=Θ r:=AW rfl h
theorem Ajl(h:((A1 Af Pa).ask (.fn 34)) args bs=Θ r):I8.ask (.fn 34) args bs=Θ r:=AW rfl h
end
theorem Zy(h:Gb ι Vu):SeatOk ι Bz Wh:=ED PN EB Aoi h
