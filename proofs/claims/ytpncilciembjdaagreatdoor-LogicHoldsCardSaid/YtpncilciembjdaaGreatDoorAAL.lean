/-
  What a text's tokens are: over lists of bytes. No program in sight.
-/
import Derived.ProofKit
set_option linter.unusedSectionVars false
set_option linter.unusedSimpArgs false
set_option linter.unusedVariables false
namespace Go.Proofs.YtpncilciembjdaaGreatDoor

def lowB(c:UInt8):Bool:=decide (97<=c.toNat)&&decide (c.toNat<=122)
def digB(c:UInt8):Bool:=decide (48<=c.toNat)&&decide (c.toNat<=57)
def innB(c:UInt8):Bool:=lowB c||digB c||(c.toNat == 95)
def wordB(l:List UInt8):Bool:=!l.isEmpty&&decide (l.length<=20)&&lowB (l.getD 0 0)&&l.all innB
def resL:List (List UInt8):=[[116,114,117,101],[102,97,108,115,101],[118,97,114],[105,110],[105,110,105,116],[112,114,111,99],[108,111,99],[101,110,100]]
def resB(l:List UInt8):Bool:=resL.contains l
def nameB(l:List UInt8):Bool:=wordB l&&!resB l
structure Tk where
 kind:Nat
 text:List UInt8
 ln:Nat
 co:Nat
 deriving DecidableEq
inductive LexR
 |ok (ts:List Tk)
 |err (e ln co:Nat)
 deriving DecidableEq
def LexR.more(t:Tk):LexR->LexR
 |.ok ts=>.ok (t::ts)
 |.err e ln co=>.err e ln co

end Go.Proofs.YtpncilciembjdaaGreatDoor
