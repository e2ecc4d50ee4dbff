/- Division of integers, ro -/
import Derived.Test.YtpncilciembjdaaGreatDoorGAM
set_option linter.all false
namespace Go.Proofs.YtpncilciembjdaaGreatDoor
open Go.RowKit
def uN(x y:Int):Nat:=x.natAbs / y.natAbs
def vN(x y:Int):Nat:=x.natAbs % y.natAbs
def dS(x y:Int):Bool:=decide (x<0) != decide (y<0)
def qZ(x y:Int):Int:=if dS x y=true/\0<vN x y then DE true (uN x y)-1 else DE (dS x y) (uN x y)
def rZ(x y:Int):Int:=if dS x y=true/\0<vN x y then DE (decide (x<0)) (vN x y)+y else DE (decide (x<0)) (vN x y)
