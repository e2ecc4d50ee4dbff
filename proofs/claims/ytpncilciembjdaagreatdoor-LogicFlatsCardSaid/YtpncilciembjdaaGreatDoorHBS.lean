/- A seat of D: tables of f -/
import Derived.Test.YtpncilciembjdaaGreatDoorHBR
set_option linter.all false
open Option renaming some->Θ
namespace Go.Proofs.YtpncilciembjdaaGreatDoor
noncomputable section
open Tryz renaming prog->Av9
open Go.RowKit
def Tc:List (List (Nat × MFn)):=[Jy,M3,M2,Ge,Ls,Rn,Y2,Vm,Vg,Vf,Rm,YY,Ve,Lr,Rr,IP,Vi,HQ,JA,Y1,Rq,Vj,Vk,YZ,Y0,Xl]
def V9:List (Nat × DF):=[(236,DH 1 (B7 1 4)),(135,DH 3 (B7 3 40)),(262,DH 3 (D4 40)),(144,(By Ap Hs).ask (.fn 144)),(65,(By Ap Ji).ask (.fn 65)),(34,(By Ap Px).ask (.fn 34))]
def W1:Seat:=FK Au Tc.flatten V9
def Gz:Orc:=By Ap W1
set_option maxRecDepth 100000 in
theorem ApO:Gy Av9 B4 Tc:=by
 repeat' first|exact trivial|refine⟨⟨_,_,_,rfl⟩,by kernel_rfl,?_⟩|refine⟨?_,?_⟩
theorem C8:(G7 Tc&&O8 Tc.flatten V9)=true:=by kernel_rfl
theorem AlX:Knows Au Jy Gz:=BH C8 (i:=0) rfl
theorem Al4:Knows Au M3 Gz:=BH C8 (i:=1) rfl
theorem Al1:Knows Au M2 Gz:=BH C8 (i:=2) rfl
theorem Al2:Knows Au Ge Gz:=BH C8 (i:=3) rfl
theorem Al3:Knows Au Ls Gz:=BH C8 (i:=4) rfl
theorem Aq7:Knows Au Rn Gz:=BH C8 (i:=5) rfl
theorem Arh:Knows Au Y2 Gz:=BH C8 (i:=6) rfl
theorem Ari:Knows Au Vm Gz:=BH C8 (i:=7) rfl
theorem Aq8:Knows Au Vg Gz:=BH C8 (i:=8) rfl
theorem Aq5:Knows Au Vf Gz:=BH C8 (i:=9) rfl
theorem Aq1:Knows Au Rm Gz:=BH C8 (i:=10) rfl
theorem Aq0:Knows Au YY Gz:=BH C8 (i:=11) rfl
theorem Aq3:Knows Au Ve Gz:=BH C8 (i:=12) rfl
theorem AlY:Knows Au Lr Gz:=BH C8 (i:=13) rfl
theorem Al0:Knows Au Rr Gz:=BH C8 (i:=14) rfl
theorem Ara:Knows Au IP Gz:=BH C8 (i:=15) rfl
theorem Arb:Knows Au Vi Gz:=BH C8 (i:=16) rfl
theorem Ard:Knows Au HQ Gz:=BH C8 (i:=17) rfl
theorem AlZ:Knows Au JA Gz:=BH C8 (i:=18) rfl
theorem Aq9:Knows Au Y1 Gz:=BH C8 (i:=19) rfl
theorem Arc:Knows Au Rq Gz:=BH C8 (i:=20) rfl
theorem Are:Knows Au Vj Gz:=BH C8 (i:=21) rfl
theorem Arf:Knows Au Vk Gz:=BH C8 (i:=22) rfl
theorem Aq2:Knows Au YZ Gz:=BH C8 (i:=23) rfl
theorem Aq4:Knows Au Y0 Gz:=BH C8 (i:=24) rfl
theorem An0:Knows Au Xl Gz:=BH C8 (i:=25) rfl
section
variable {args:Ab} {bs:List ABlk} {r:AV × List BO}
theorem AaQ(h:(DH 1 (B7 1 4)) args bs=Θ r):Gz.ask (.fn 236) args bs=Θ r:=Bq rfl h
theorem AaR(h:(DH 3 (B7 3 40)) args bs=Θ r):Gz.ask (.fn 135) args bs=Θ r:=Bq rfl h
theorem AeV(h:(DH 3 (D4 40)) args bs=Θ r):Gz.ask (.fn 262) args bs=Θ r:=Bq rfl h
theorem AkO(h:((By Ap Hs).ask (.fn 144)) args bs=Θ r):Gz.ask (.fn 144) args bs=Θ r:=Bq rfl h
theorem AaS(h:((By Ap Ji).ask (.fn 65)) args bs=Θ r):Gz.ask (.fn 65) args bs=Θ r:=Bq rfl h
theorem AkN(h:((By Ap Px).ask (.fn 34)) args bs=Θ r):Gz.ask (.fn 34) args bs=Θ r:=Bq rfl h
end
theorem Aat(h:GA Av9 V9):SeatOk Av9 B4 W1:=EU P7 ES ApO h
