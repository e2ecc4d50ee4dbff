/- A seat of D: tables of f -/
import Derived.Test.YtpncilciembjdaaGreatDoorJBN
set_option linter.all false
namespace Go.Proofs.YtpncilciembjdaaGreatDoor
open Tryz renaming prog->ζ
open Go.RowKit
noncomputable def AcN:List (List (Nat × MFn)):=[ApL]
noncomputable def Aar:List (Nat × DF):=[(130,CS (ML Ak8)),(33,CS (J5 Gk)),(167,CS QU),(236,DS 1 (Ce 1 4)),(135,Gg 3 40),(262,DS 3 (Dy 40)),(261,DS 4 (Dy 64))]
noncomputable def Vm:Seat:=CU Apn AcN.flatten Aar
set_option maxRecDepth 100000 in
theorem Anu:Dp ζ Bn AcN:=by
 repeat' first|exact trivial|refine⟨⟨_,_,_,rfl⟩,by kernel_rfl,?_⟩|refine⟨?_,?_⟩
theorem Yq(h:Dr ζ Aar):SeatOk ζ Bn Vm:=Cx GW Cv Anu h


