/-
  Whole texts as sums and as conditions: the program's and the reference's ParseSum and ParseCond.
-/
import Derived.Test.YtlmhajfbpplpoaaGreatVBC
import Derived.Test.YtlmhajfbpplpoaaGreatVBD
set_option linter.unusedSectionVars false
set_option linter.unusedSimpArgs false
set_option linter.unusedVariables false
namespace Go.Proofs.YtlmhajfbpplpoaaGreat
open Go.RowKit

theorem lexAll_len {l : List UInt8} {ts : List Tk} (h : lexAll l = .ok ts) : l.length ≤ 16384 := by
 unfold lexAll at h
 split at h
 ·cases h
 ·omega
section
variable {D : Orc}
structure LexF (D : Orc) : Prop where
 ok : ∀ (s : ByteArray) (ts : List Tk), s.size ≤ 9223372036854775807 → lexAll s.data.toList = .ok ts → AllF D s ts 0 0 0
 err : ∀ (s : ByteArray) (c ln co : Nat), s.size ≤ 9223372036854775807 → lexAll s.data.toList = .err c ln co → AllF D s [] ln co c
structure LexA (D : Orc) : Prop where
 ok : ∀ (s : ByteArray) (ts : List Tk), s.size ≤ 9223372036854775807 → lexAll s.data.toList = .ok ts → D.ask (.fn 91) [sv s] [] = some (.tup [.ls (ts.map eTk), .agg [iv 0, iv 0], iv 0], [])
 err : ∀ (s : ByteArray) (c ln co : Nat), s.size ≤ 9223372036854775807 → lexAll s.data.toList = .err c ln co → D.ask (.fn 91) [sv s] [] = some (.tup [.ls [], .agg [iv (ln : Int), iv (co : Int)], iv (c : Int)], [])
set_option linter.unusedSectionVars false
variable (K : Knows ownC tabEa D) (Kb : Knows ownC tabEb D) (L : NameF D) (Kw : Knows ownC tabWa D) (Kx : Knows ownC tabWb D)
section
variable (A : LexA D)
include K Kb L Kw Kx A
end
variable (Kr : Knows ownC tabRa D) (R : RNameF D) (Ky : Knows ownC tabRb D) (A : LexF D)
include Kr R Ky A
end
end Go.Proofs.YtlmhajfbpplpoaaGreat
