/- A seat of D: tables of f -/
import Derived.Test.YtpncilciembjdaaGreatDoorDBP
set_option linter.all false
open Option renaming some->Θ
namespace Go.Proofs.YtpncilciembjdaaGreatDoor
noncomputable section
open Tryz renaming prog->υ
open Go.RowKit
def Sm:List (List (Nat × MFn)):=[Ai5]
def Vt:List (Nat × DF):=[(55,CU 55),(28,CU 28),(27,CU 27),(17,CU 17),(21,CU 21),(56,CU 56),(30,CU 30),(26,CU 26),(25,CU 25),(57,CU 57),(23,CU 23),(58,CU 58),(59,CU 59),(61,CU 61),(60,CU 60)]
def OR:Seat:=EI Av Sm.flatten Vt
def SG:Orc:=AD Ad OR
set_option maxRecDepth 100000 in
theorem Alw:Fu υ Bn Sm:=by
 repeat' first|exact trivial|refine⟨⟨_,_,_,rfl⟩,by kernel_rfl,?_⟩|refine⟨?_,?_⟩
theorem AlE:(D7 Sm&&HD Sm.flatten Vt)=true:=by kernel_rfl
theorem AmC:Knows Av Ai5 SG:=Be AlE (i:=0) rfl
section
variable {args:List AV} {bs:List ABlk} {r:AV × List BO}
theorem If(h:(CU 55) args bs=Θ r):SG.ask (.fn 55) args bs=Θ r:=AA rfl h
theorem KO(h:(CU 28) args bs=Θ r):SG.ask (.fn 28) args bs=Θ r:=AA rfl h
theorem X4(h:(CU 27) args bs=Θ r):SG.ask (.fn 27) args bs=Θ r:=AA rfl h
theorem Pg(h:(CU 17) args bs=Θ r):SG.ask (.fn 17) args bs=Θ r:=AA rfl h
theorem Pf(h:(CU 21) args bs=Θ r):SG.ask (.fn 21) args bs=Θ r:=AA rfl h
theorem Alb(h:(CU 56) args bs=Θ r):SG.ask (.fn 56) args bs=Θ r:=AA rfl h
theorem UQ(h:(CU 30) args bs=Θ r):SG.ask (.fn 30) args bs=Θ r:=AA rfl h
theorem Ahp(h:(CU 26) args bs=Θ r):SG.ask (.fn 26) args bs=Θ r:=AA rfl h
theorem Ak9(h:(CU 25) args bs=Θ r):SG.ask (.fn 25) args bs=Θ r:=AA rfl h
theorem Ahq(h:(CU 57) args bs=Θ r):SG.ask (.fn 57) args bs=Θ r:=AA rfl h
theorem Ahl(h:(CU 23) args bs=Θ r):SG.ask (.fn 23) args bs=Θ r:=AA rfl h
theorem Ala(h:(CU 58) args bs=Θ r):SG.ask (.fn 58) args bs=Θ r:=AA rfl h
theorem ZX(h:(CU 59) args bs=Θ r):SG.ask (.fn 59) args bs=Θ r:=AA rfl h
theorem Ahm(h:(CU 61) args bs=Θ r):SG.ask (.fn 61) args bs=Θ r:=AA rfl h
theorem Ahs(h:(CU 60) args bs=Θ r):SG.ask (.fn 60) args bs=Θ r:=AA rfl h
end
theorem Zo(h:Fv υ Vt):SeatOk υ Bn OR:=DX Og DP Alw h
