/- A seat of D: tables of f -/
import Derived.Test.YtpncilciembjdaaGreatDoorGBH
set_option linter.all false
namespace Go.Proofs.YtpncilciembjdaaGreatDoor
open Tryz renaming prog->η
open Go.RowKit
noncomputable def Abi:List (List (Nat × MFn)):=[Am6]
noncomputable def Zg:List (Nat × DF):=[(236,Dy 1 (BP 1 4)),(135,Dy 3 (BP 3 40)),(262,Dy 3 (C9 40))]
noncomputable def UF:Seat:=D9 AmN Abi.flatten Zg
set_option maxRecDepth 100000 in
theorem Aln:EK η Bt Abi:=by
 repeat' first|exact trivial|refine⟨⟨_,_,_,rfl⟩,by kernel_rfl,?_⟩|refine⟨?_,?_⟩
theorem Xs(h:EL η Zg):SeatOk η Bt UF:=DD Nt Dt Aln h
