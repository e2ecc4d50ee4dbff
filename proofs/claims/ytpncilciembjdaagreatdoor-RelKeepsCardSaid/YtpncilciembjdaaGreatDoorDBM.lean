/- A seat of D: tables of f -/
import Derived.Test.YtpncilciembjdaaGreatDoorDBL
set_option linter.all false
namespace Go.Proofs.YtpncilciembjdaaGreatDoor
open Tryz renaming prog->υ
open Go.RowKit
noncomputable def Ac8:List (List (Nat × MFn)):=[Anq]
noncomputable def Aa1:List (Nat × DF):=[(236,C8 1 (Bo 1 4)),(135,C8 3 (Bo 3 40)),(262,C8 3 (EP 40))]
noncomputable def Wf:Seat:=EI Anb Ac8.flatten Aa1
set_option maxRecDepth 100000 in
theorem Alq:Fu υ Bn Ac8:=by
 repeat' first|exact trivial|refine⟨⟨_,_,_,rfl⟩,by kernel_rfl,?_⟩|refine⟨?_,?_⟩
theorem Zh(h:Fv υ Aa1):SeatOk υ Bn Wf:=DX Og DP Alq h
