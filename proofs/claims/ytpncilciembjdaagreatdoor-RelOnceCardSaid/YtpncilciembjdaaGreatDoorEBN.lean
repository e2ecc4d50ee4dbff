/- A seat of D: tables of f -/
import Derived.Test.YtpncilciembjdaaGreatDoorEBM
set_option linter.all false
namespace Go.Proofs.YtpncilciembjdaaGreatDoor
open Tryz renaming prog->ArP
open Go.RowKit
noncomputable def Ad2:List (List (Nat × MFn)):=[AoQ]
noncomputable def AbM:List (Nat × DF):=[(236,Dd 1 (By 1 4)),(135,Dd 3 (By 3 40)),(262,Dd 3 (EY 40))]
noncomputable def WH:Seat:=ER AoA Ad2.flatten AbM
set_option maxRecDepth 100000 in
theorem Amx:Fy ArP Bx Ad2:=by
 repeat' first|exact trivial|refine⟨⟨_,_,_,rfl⟩,by kernel_rfl,?_⟩|refine⟨?_,?_⟩
theorem ZY(h:Fz ArP AbM):SeatOk ArP Bx WH:=D8 OO DW Amx h
