/- A seat of D: tables of f -/
import Derived.Test.YtpncilciembjdaaGreatDoorJAX
set_option linter.all false
namespace Go.Proofs.YtpncilciembjdaaGreatDoor
noncomputable section
open Tryz renaming prog->ζ
open Go.RowKit
def Rk:List (List (Nat × MFn)):=[PW,WU,Ox,Mb,Hz,AcM,WR,AcG]
def Uy:List (Nat × DF):=[]
def CE:Seat:=CU Aq Rk.flatten Uy
def DR1:Orc:=AB Ah CE
set_option maxRecDepth 100000 in
theorem AnG:Dp ζ Bn Rk:=by
 repeat' first|exact trivial|refine⟨⟨_,_,_,rfl⟩,by kernel_rfl,?_⟩|refine⟨?_,?_⟩
theorem LD:(Da Rk&&Fk Rk.flatten Uy)=true:=by kernel_rfl
theorem AoQ:Knows Aq PW DR1:=BD LD (i:=0) rfl
theorem AoR:Knows Aq WU DR1:=BD LD (i:=1) rfl
theorem Wa:Knows Aq Ox DR1:=BD LD (i:=2) rfl
theorem SH:Knows Aq Mb DR1:=BD LD (i:=3) rfl
theorem Pw:Knows Aq Hz DR1:=BD LD (i:=4) rfl
theorem AjZ:Knows Aq AcM DR1:=BD LD (i:=5) rfl
theorem AjV:Knows Aq WR DR1:=BD LD (i:=6) rfl
theorem AoJ:Knows Aq AcG DR1:=BD LD (i:=7) rfl
theorem YB(h:Dr ζ Uy):SeatOk ζ Bn CE:=Cx GW Cv AnG h
