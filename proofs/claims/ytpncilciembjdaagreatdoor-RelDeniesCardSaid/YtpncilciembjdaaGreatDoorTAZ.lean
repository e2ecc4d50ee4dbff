/-
  term.Text's answers on what a closed run reaches.
-/
import Derived.Test.YtpncilciembjdaaGreatDoorTAU
import Derived.Test.YtpncilciembjdaaGreatDoorTAY
set_option linter.unusedSectionVars false
set_option linter.unusedSimpArgs false
set_option linter.unusedVariables false
namespace Go.Proofs.YtpncilciembjdaaGreatDoor
open Go.RowKit
theorem gAx(f:Nat):GoodD (SemFn Tryz.prog f) ((Dn realA seatAx 60).ask (.fn f)):=(dn_good (seatAx_ok clone_nat clone_part grow_part) 60).1 f
noncomputable def dqAx(f:Nat):DF:=(Dn realA seatAx 60).ask (.fn f)
theorem textAx_good:GoodD (SemFn Tryz.prog 130) (extD (resText dqAx)):=text_good dqAx gAx
end Go.Proofs.YtpncilciembjdaaGreatDoor
