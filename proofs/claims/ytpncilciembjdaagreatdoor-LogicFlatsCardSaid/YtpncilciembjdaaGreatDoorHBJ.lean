/- A seat of D: tables of f -/
import Derived.Test.YtpncilciembjdaaGreatDoorHBI
import Derived.Test.YtpncilciembjdaaGreatDoorHAY
set_option linter.all false
namespace Go.Proofs.YtpncilciembjdaaGreatDoor
open Tryz renaming prog->Av9
open Go.RowKit
noncomputable def AeF:List (List (Nat × MFn)):=[Ass]
noncomputable def Ack:List (Nat × DF):=[(236,DH 1 (B7 1 4)),(135,Fu 3 40),(262,DH 3 (D4 40))]
noncomputable def W6:Seat:=FK ArZ AeF.flatten Ack
set_option maxRecDepth 100000 in
theorem ApR:Gy Av9 B4 AeF:=by
 repeat' first|exact trivial|refine⟨⟨_,_,_,rfl⟩,by kernel_rfl,?_⟩|refine⟨?_,?_⟩
theorem Aaw(h:GA Av9 Ack):SeatOk Av9 B4 W6:=EU P7 ES ApR h
