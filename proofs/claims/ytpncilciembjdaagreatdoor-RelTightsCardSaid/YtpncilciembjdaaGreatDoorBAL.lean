/- What a text's tokens are -/
import Derived.ProofKit
set_option linter.all false
namespace Go.Proofs.YtpncilciembjdaaGreatDoor
def Ak8(c:UInt8):Bool:=decide (97<=c.toNat)&&decide (c.toNat<=122)
def Amn(c:UInt8):Bool:=decide (48<=c.toNat)&&decide (c.toNat<=57)
def AnI(c:UInt8):Bool:=Ak8 c||Amn c||(c.toNat == 95)
def Al4(l:List UInt8):Bool:=!l.isEmpty&&decide (l.length<=20)&&Ak8 (l.getD 0 0)&&l.all AnI
def AnV:List (List UInt8):=[[116,114,117,101],[102,97,108,115,101],[118,97,114],[105,110],[105,110,105,116],[112,114,111,99],[108,111,99],[101,110,100]]
def AnU(l:List UInt8):Bool:=AnV.contains l
def AlF(l:List UInt8):Bool:=Al4 l&&!AnU l
structure Tk where
 kind:Nat
 text:List UInt8
 ln:Nat
 co:Nat
 deriving DecidableEq
end Go.Proofs.YtpncilciembjdaaGreatDoor
