/- A seat of D: tables of f -/
import Derived.Test.YtpncilciembjdaaGreatDoorJBA
set_option linter.all false
namespace Go.Proofs.YtpncilciembjdaaGreatDoor
noncomputable section
open Tryz renaming prog->ζ
open Go.RowKit
def Rm:List (List (Nat × MFn)):=[Oy]
def Ni:List (Nat × DF):=[(42,RW),(114,(AB Ah CE).ask (.fn 114)),(116,(AB Ah CE).ask (.fn 116))]
def Jg:Seat:=CU Aq Rm.flatten Ni
def DR3:Orc:=AB Ah Jg
set_option maxRecDepth 100000 in
theorem AnI:Dp ζ Bn Rm:=by
 repeat' first|exact trivial|refine⟨⟨_,_,_,rfl⟩,by kernel_rfl,?_⟩|refine⟨?_,?_⟩
theorem AnV:(Da Rm&&Fk Rm.flatten Ni)=true:=by kernel_rfl
theorem AjY:Knows Aq Oy DR3:=BD AnV (i:=0) rfl
section
variable {args:Aa} {bs:List ABlk} {r:AV × List BO}
theorem MQ(h:(RW) args bs=some r):DR3.ask (.fn 42) args bs=some r:=AF rfl h
theorem AiN(h:((AB Ah CE).ask (.fn 114)) args bs=some r):DR3.ask (.fn 114) args bs=some r:=AF rfl h
theorem Ade(h:((AB Ah CE).ask (.fn 116)) args bs=some r):DR3.ask (.fn 116) args bs=some r:=AF rfl h
end
theorem YC(h:Dr ζ Ni):SeatOk ζ Bn Jg:=Cx GW Cv AnI h
