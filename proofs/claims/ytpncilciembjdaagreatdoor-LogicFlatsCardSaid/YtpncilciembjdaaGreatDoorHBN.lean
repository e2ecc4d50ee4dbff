/- A seat of D: tables of f -/
import Derived.Test.YtpncilciembjdaaGreatDoorHBM
set_option linter.all false
namespace Go.Proofs.YtpncilciembjdaaGreatDoor
open Tryz renaming prog->Av9
open Go.RowKit
noncomputable def AeB:List (List (Nat × MFn)):=[Aso]
noncomputable def Acg:List (Nat × DF):=[(130,Dd (NJ Anz)),(33,Dd (Lj Hf)),(167,Dd SS),(236,DH 1 (B7 1 4)),(135,Fu 3 40),(262,DH 3 (D4 40)),(261,DH 4 (D4 64))]
noncomputable def WY:Seat:=FK ArV AeB.flatten Acg
set_option maxRecDepth 100000 in
theorem ApK:Gy Av9 B4 AeB:=by
 repeat' first|exact trivial|refine⟨⟨_,_,_,rfl⟩,by kernel_rfl,?_⟩|refine⟨?_,?_⟩
theorem Aap(h:GA Av9 Acg):SeatOk Av9 B4 WY:=EU P7 ES ApK h


