/-
  Layer 10: the reference's two.
-/
import Derived.Test.YtedbjkjncfinnaaLexW
import Derived.Test.YtedbjkjncfinnaaLexP
import Derived.Test.YtedbjkjncfinnaaLexG
import Derived.Laws.IdiomStrings
namespace Go.Proofs.Ytedbjkjncfinnaa
open Go.RowKit

set_option maxRecDepth 100000 in
set_option maxHeartbeats 4000000 in
theorem rtwo_any (c d : UInt8) (a b : Int) (w : World) (ha : a = (c.toNat : Int)) (hb : b = (d.toNat : Int)) : Calls Try.prog 54 #[.int .u8 a, .int .u8 b] w fun e w' => e = .returned (.bool (twoB c d)) ∧ Below w.heap.size w w' := by
  have e1 : ∀ (x : UInt8) (n : Nat), n < 256 → (x == UInt8.ofNat n) = (x.toNat == n) := fun x n hn => by
    rw [Bool.eq_iff_iff]
    simp only [beq_iff_eq]
    constructor
    · rintro rfl; simp [Nat.mod_eq_of_lt hn]
    · rintro rfl; simp
  have c45 : (c == 45) = (c.toNat == 45) := e1 c 45 (by decide)
  have c58 : (c == 58) = (c.toNat == 58) := e1 c 58 (by decide)
  have c33 : (c == 33) = (c.toNat == 33) := e1 c 33 (by decide)
  have c60 : (c == 60) = (c.toNat == 60) := e1 c 60 (by decide)
  have c62 : (c == 62) = (c.toNat == 62) := e1 c 62 (by decide)
  have c46 : (c == 46) = (c.toNat == 46) := e1 c 46 (by decide)
  have d62 : (d == 62) = (d.toNat == 62) := e1 d 62 (by decide)
  have d61 : (d == 61) = (d.toNat == 61) := e1 d 61 (by decide)
  have d46 : (d == 46) = (d.toNat == 46) := e1 d 46 (by decide)
  have HT := Lib.hid (show twoB c d = ((c == 45 && d == 62) || (c == 58 && d == 61) || (c == 33 && d == 61) || (c == 60 && d == 61) || (c == 62 && d == 61) || (c == 46 && d == 46)) by
    rw [c45, c58, c33, c60, c62, c46, d62, d61, d46]
    unfold twoB sgnN
    rw [Bool.eq_iff_iff]
    simp only [decide_eq_true_eq, Bool.or_eq_true, Bool.and_eq_true, beq_iff_eq]
    repeat' split
    all_goals omega)
  clear e1 c45 c58 c33 c60 c62 c46 d62 d61 d46
  have hconv := run_convert_bytes_back (P := Try.prog) (w.alloc (.cells #[.int .u8 (c.toNat : Int), .int .u8 (d.toNat : Int)] 5)) 97 9 5 ⟨w.heap.size, 0, none⟩ 2 [c, d] Try.underlying97 Try.underlying5 Try.underlying9 (fun j hj => by
    have hk := (Blk.new w 5 #[.int .u8 (c.toNat : Int), .int .u8 (d.toNat : Int)]).cell j
    rw [add_none, Nat.zero_add, hk]
    have hj' : j < 2 := hj
    rcases j with _ | _ | j
    · rfl
    · rfl
    · omega)
  simp only [List.length_cons, List.length_nil] at hconv
  have hb1 := below_one w (.cells #[.int .u8 (c.toNat : Int), .int .u8 (d.toNat : Int)] 5)
  have HB := Lib.hid hb1
  clear hb1
  subst ha hb
  go_enter Try.func54, Try.ntmps54
  go_wp2
  all_goals
    go_ret
    exact ⟨ret_bool (by rw [HT.out]; simp_all; try (refine ⟨⟨⟨⟨⟨?_, ?_⟩, ?_⟩, ?_⟩, ?_⟩, ?_⟩ <;> intro h1 h2 <;> simp_all)), HB.out⟩
end Go.Proofs.Ytedbjkjncfinnaa
