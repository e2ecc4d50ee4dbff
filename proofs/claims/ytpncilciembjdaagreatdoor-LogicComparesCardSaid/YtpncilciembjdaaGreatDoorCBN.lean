/- A seat of D: tables of f -/
import Derived.Test.YtpncilciembjdaaGreatDoorCBM
set_option linter.all false
namespace Go.Proofs.YtpncilciembjdaaGreatDoor
open Tryz renaming prog->ι
open Go.RowKit
noncomputable def Ady:List (List (Nat × MFn)):=[Aqs]
noncomputable def Abe:List (Nat × DF):=[(130,CU (No AlX)),(33,CU (KV GS)),(167,CU R8),(236,Dj 1 (BI 1 4)),(135,Fb 3 40),(262,Dj 3 (DI 40)),(261,Dj 4 (DI 64))]
noncomputable def We:Seat:=Fr Aqb Ady.flatten Abe
set_option maxRecDepth 100000 in
theorem Aoe:Ga ι Bz Ady:=by
 repeat' first|exact trivial|refine⟨⟨_,_,_,rfl⟩,by kernel_rfl,?_⟩|refine⟨?_,?_⟩
theorem Zu(h:Gb ι Abe):SeatOk ι Bz We:=ED PN EB Aoe h


