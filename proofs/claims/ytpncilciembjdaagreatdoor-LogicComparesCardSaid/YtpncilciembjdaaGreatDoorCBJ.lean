/- A seat of D: tables of f -/
import Derived.Test.YtpncilciembjdaaGreatDoorCBI
import Derived.Test.YtpncilciembjdaaGreatDoorCAY
set_option linter.all false
namespace Go.Proofs.YtpncilciembjdaaGreatDoor
open Tryz renaming prog->ι
open Go.RowKit
noncomputable def AdC:List (List (Nat × MFn)):=[Aqw]
noncomputable def Abi:List (Nat × DF):=[(236,Dj 1 (BI 1 4)),(135,Fb 3 40),(262,Dj 3 (DI 40))]
noncomputable def Wj:Seat:=Fr Aqf AdC.flatten Abi
set_option maxRecDepth 100000 in
theorem Aon:Ga ι Bz AdC:=by
 repeat' first|exact trivial|refine⟨⟨_,_,_,rfl⟩,by kernel_rfl,?_⟩|refine⟨?_,?_⟩
theorem ZD(h:Gb ι Abi):SeatOk ι Bz Wj:=ED PN EB Aon h
