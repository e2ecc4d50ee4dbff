/- Division's seat. -/
import Derived.Test.YtpncilciembjdaaGreatDoorBAU
set_option linter.all false
namespace Go.Proofs.YtpncilciembjdaaGreatDoor
open Tryz renaming prog->ψ
open Go.RowKit
theorem WZ:CloneF DDv where
 nat l h:=Wo (Jm h)
theorem Rq:SeatOk ψ Bb D3:=V1 Fk
theorem AjS(f:Nat):AW (Ba ψ f) ((AC Ag D3).ask (.fn f)):=Fz Rq f
theorem AlE{a b:List Nat}(ha:Limbs a)(hal:a.length<=999999990)(hb:Limbs b)(hbl:b.length<=999999990):(AC Ag D3).ask (.fn 144) [eN a,eN b] []
  = some (if Ad b=0 then .tup [.ls [],.ls [],iv 10] else .tup [eN (Ah (Ad a / Ad b)),eN (Ah (Ad a % Ad b)),iv 0],[]):=Aha AkS WZ ha hal hb hbl
end Go.Proofs.YtpncilciembjdaaGreatDoor
