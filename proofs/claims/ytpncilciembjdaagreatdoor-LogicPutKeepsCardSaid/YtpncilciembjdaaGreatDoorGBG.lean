/- A seat of D: tables of f -/
import Derived.Test.YtpncilciembjdaaGreatDoorGBD
import Derived.Test.YtpncilciembjdaaGreatDoorGBE
import Derived.Test.YtpncilciembjdaaGreatDoorGBF
set_option linter.all false
namespace Go.Proofs.YtpncilciembjdaaGreatDoor
open Tryz renaming prog->η
open Go.RowKit
noncomputable def Abl:List (List (Nat × MFn)):=[Am9]
noncomputable def Zk:List (Nat × DF):=[(236,Dy 1 (BP 1 4)),(135,Kd 3 40),(262,Dy 3 (C9 40))]
noncomputable def UJ:Seat:=D9 AmQ Abl.flatten Zk
set_option maxRecDepth 100000 in
theorem Alw:EK η Bt Abl:=by
 repeat' first|exact trivial|refine⟨⟨_,_,_,rfl⟩,by kernel_rfl,?_⟩|refine⟨?_,?_⟩
theorem XC(h:EL η Zk):SeatOk η Bt UJ:=DD Nt Dt Alw h
