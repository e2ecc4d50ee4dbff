/- A seat of D: tables of f -/
import Derived.Test.YtpncilciembjdaaGreatDoorCBK
set_option linter.all false
namespace Go.Proofs.YtpncilciembjdaaGreatDoor
open Tryz renaming prog->ι
open Go.RowKit
noncomputable def Adz:List (List (Nat × MFn)):=[Aqt]
noncomputable def Abf:List (Nat × DF):=[(236,Dj 1 (BI 1 4)),(135,Dj 3 (BI 3 40)),(262,Dj 3 (DI 40))]
noncomputable def Wf:Seat:=Fr Aqc Adz.flatten Abf
set_option maxRecDepth 100000 in
theorem Aof:Ga ι Bz Adz:=by
 repeat' first|exact trivial|refine⟨⟨_,_,_,rfl⟩,by kernel_rfl,?_⟩|refine⟨?_,?_⟩
theorem Zv(h:Gb ι Abf):SeatOk ι Bz Wf:=ED PN EB Aof h
