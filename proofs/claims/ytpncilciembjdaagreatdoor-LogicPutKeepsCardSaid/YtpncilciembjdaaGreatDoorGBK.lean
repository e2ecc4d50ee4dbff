/- A seat of D: tables of f -/
import Derived.Test.YtpncilciembjdaaGreatDoorGBJ
set_option linter.all false
namespace Go.Proofs.YtpncilciembjdaaGreatDoor
open Tryz renaming prog->η
open Go.RowKit
noncomputable def Abh:List (List (Nat × MFn)):=[Am5]
noncomputable def Zf:List (Nat × DF):=[(130,CA (Mn Ai8)),(33,CA (JR F5)),(167,CA Qy),(236,Dy 1 (BP 1 4)),(135,Kd 3 40),(262,Dy 3 (C9 40)),(261,Dy 4 (C9 64))]
noncomputable def UE:Seat:=D9 AmM Abh.flatten Zf
set_option maxRecDepth 100000 in
theorem Alm:EK η Bt Abh:=by
 repeat' first|exact trivial|refine⟨⟨_,_,_,rfl⟩,by kernel_rfl,?_⟩|refine⟨?_,?_⟩
theorem Xr(h:EL η Zf):SeatOk η Bt UE:=DD Nt Dt Alm h


