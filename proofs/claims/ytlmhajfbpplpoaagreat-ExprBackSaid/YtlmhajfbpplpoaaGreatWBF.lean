/-
  Layer 11's alive: its parts, computed.
-/
import Derived.Test.YtlmhajfbpplpoaaGreatWBA
import Derived.Test.YtlmhajfbpplpoaaGreatWBD
import Derived.Test.YtlmhajfbpplpoaaGreatWBE
set_option linter.unusedSectionVars false
set_option linter.unusedSimpArgs false
set_option linter.unusedVariables false
namespace Go.Proofs.YtlmhajfbpplpoaaGreat
open Go.RowKit

noncomputable def DAk : Orc := Dn realA seatAl 60
def m2 (neg : Bool) (num var : List UInt8) : Mo := ⟨neg, bstr num, bstr var⟩
def leafT (k : Int) (ks : List Tr) : Tr := .mk k [] [] 0 (bstr []) (bstr []) ks
def cmp1 : Tr := .mk 2 [m2 false [] [120], m2 false [50] []] [m2 false [51] [121]] 3 (bstr []) (bstr []) []
def cmp2 : Tr := .mk 2 [m2 false [] [97]] [m2 false [49] []] 0 (bstr []) (bstr []) []
def t1 : Tr := leafT 4 [cmp1, leafT 3 [leafT 5 [cmp2, leafT 0 []]]]
def ms1 : List Mo := [m2 true [50] [120], m2 false [49] []]
def s1 : List UInt8 := [120, 32, 43, 32, 50, 32, 60, 61, 32, 51, 42, 121, 32, 38, 32, 33, 40, 97, 32, 61, 32, 49, 32, 124, 32, 116, 114, 117, 101, 41]
def s2 : List UInt8 := [120, 32, 60]
def s3 : List UInt8 := [45, 50, 42, 120, 32, 43, 32, 49]
def s4 : List UInt8 := [120, 32, 43, 32, 50, 32, 60, 61, 32, 51, 42, 121]
set_option maxRecDepth 1000000
theorem pc1 : pcondP s1 = (t1, 0, 0, 0) := by
 unfold pcondP
 rw [lexAllK_eq]
 kernel_rfl
theorem pc2 : pcondP s2 = (T0, 1, 4, 101) := by
 unfold pcondP
 rw [lexAllK_eq]
 kernel_rfl
theorem ps3 : psumP s3 = (ms1, 0, 0, 0) := by
 unfold psumP
 rw [lexAllK_eq]
 kernel_rfl
def chkTerm : Option (AV × List BO) → Bool
 | some (.tup [.agg [.ls xs, .v (.bool _), .ls _], .v (.bool true)], []) => Nat.beq (lenR xs) 1
 | _ => false
theorem k_term : chkTerm (DAk.ask (.fn 44) [.ls (ms1.map eMo), .ls [[sv (bstr [120])]]] []) = true := by kernel_rfl
def chkForm : Option (AV × List BO) → Bool
 | some (.tup [.agg [.v (.int .i64 4), .ls _, .v (.bool _), .ls _, .v (.bool _), .ls _], .v (.bool true)], []) => true
 | _ => false
theorem k_form : chkForm (DAk.ask (.fn 27) [.agg (eTr t1), .ls [[sv (bstr [120])], [sv (bstr [121])], [sv (bstr [97])]]] []) = true := by kernel_rfl
end Go.Proofs.YtlmhajfbpplpoaaGreat
