/- A seat of D: tables of f -/
import Derived.Test.YtpncilciembjdaaGreatDoorHBK
set_option linter.all false
namespace Go.Proofs.YtpncilciembjdaaGreatDoor
open Tryz renaming prog->Av9
open Go.RowKit
noncomputable def AeC:List (List (Nat × MFn)):=[Asp]
noncomputable def Ach:List (Nat × DF):=[(236,DH 1 (B7 1 4)),(135,DH 3 (B7 3 40)),(262,DH 3 (D4 40))]
noncomputable def WZ:Seat:=FK ArW AeC.flatten Ach
set_option maxRecDepth 100000 in
theorem ApL:Gy Av9 B4 AeC:=by
 repeat' first|exact trivial|refine⟨⟨_,_,_,rfl⟩,by kernel_rfl,?_⟩|refine⟨?_,?_⟩
theorem Aaq(h:GA Av9 Ach):SeatOk Av9 B4 WZ:=EU P7 ES ApL h
