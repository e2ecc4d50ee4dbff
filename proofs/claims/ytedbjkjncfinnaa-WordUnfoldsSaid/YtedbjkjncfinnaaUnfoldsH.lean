/-
  Layer 15's law: what U, R, G and F say of this position and of the next.
-/
import Derived.Test.YtedbjkjncfinnaaUnfoldT
import Derived.Test.YtedbjkjncfinnaaTurnsL
import Derived.Deep.DeepCutAuto
namespace Go.Proofs.Ytedbjkjncfinnaa
open Go.RowKit

/-- The boxes of two properties and of a word. -/
structure BxU (w : World) (f1 f2 : Ltl) (x : Wd) (kf pf : Int) (Kf : Option Addr) (nf ef : Nat) (kg pg : Int) (Kg : Option Addr) (ng eg : Nat) (A B : Option Addr) (c d : Nat) (W : World) : Prop where
  below : Below w.heap.size w W
  b1 : Blk W w.heap.size 24 #[.int .i64 kf, .int .i64 pf, .slice Kf nf ef]
  b2 : Blk W (w.heap.size + 1) 24 #[.int .i64 kg, .int .i64 pg, .slice Kg ng eg]
  b3 : Blk W (w.heap.size + 1 + 1) 27 #[.slice A x.stem.length c, .slice B x.cycle.length d]
  h1 : Ltl.Is W (Lt W.heap.size) f1 [.int .i64 kf, .int .i64 pf, .slice Kf nf ef]
  h2 : Ltl.Is W (Lt W.heap.size) f2 [.int .i64 kg, .int .i64 pg, .slice Kg ng eg]
  hw : WdIs W (Lt W.heap.size) x (.slice A x.stem.length c) (.slice B x.cycle.length d)
section
variable {w W W' : World} {f1 f2 : Ltl} {x : Wd} {kf pf : Int} {Kf : Option Addr} {nf ef : Nat} {kg pg : Int} {Kg : Option Addr} {ng eg : Nat} {A B : Option Addr} {c d : Nat}
theorem BxU.call (h : BxU w f1 f2 x kf pf Kf nf ef kg pg Kg ng eg A B c d W) (hb : Below W.heap.size W W') : BxU w f1 f2 x kf pf Kf nf ef kg pg Kg ng eg A B c d W' := ⟨below_call h.below hb, h.b1.call hb, h.b2.call hb, h.b3.call hb, lt_call h.h1 hb, lt_call h.h2 hb, wd_call h.hw hb⟩
theorem BxU.cells (h : BxU w f1 f2 x kf pf Kf nf ef kg pg Kg ng eg A B c d W) : W.cell? ⟨w.heap.size, 0, none⟩ = some (.int .i64 kf) ∧ W.cell? ⟨w.heap.size, 1, none⟩ = some (.int .i64 pf) ∧ W.cell? ⟨w.heap.size, 2, none⟩ = some (.slice Kf nf ef) ∧
    W.cell? ⟨w.heap.size + 1, 0, none⟩ = some (.int .i64 kg) ∧ W.cell? ⟨w.heap.size + 1, 1, none⟩ = some (.int .i64 pg) ∧ W.cell? ⟨w.heap.size + 1, 2, none⟩ = some (.slice Kg ng eg) ∧
    W.cell? ⟨w.heap.size + 1 + 1, 0, none⟩ = some (.slice A x.stem.length c) ∧ W.cell? ⟨w.heap.size + 1 + 1, 1, none⟩ = some (.slice B x.cycle.length d) := by
  rw [h.b1.cell, h.b1.cell, h.b1.cell, h.b2.cell, h.b2.cell, h.b2.cell, h.b3.cell, h.b3.cell]
  exact ⟨rfl, rfl, rfl, rfl, rfl, rfl, rfl, rfl⟩
theorem BxU.new (h1 : Ltl.Is w (Lt w.heap.size) f1 [.int .i64 kf, .int .i64 pf, .slice Kf nf ef]) (h2 : Ltl.Is w (Lt w.heap.size) f2 [.int .i64 kg, .int .i64 pg, .slice Kg ng eg])
    (hw : WdIs w (Lt w.heap.size) x (.slice A x.stem.length c) (.slice B x.cycle.length d)) : BxU w f1 f2 x kf pf Kf nf ef kg pg Kg ng eg A B c d (((w.alloc (.cells #[.int .i64 kf, .int .i64 pf, .slice Kf nf ef] 24)).alloc (.cells #[.int .i64 kg, .int .i64 pg, .slice Kg ng eg] 24)).alloc (.cells #[.slice A x.stem.length c, .slice B x.cycle.length d] 27)) := by
  have nx : ∀ (V : World) (o : Obj) {g : Nat}, g = V.heap.size → (V.alloc o).heap[g]? = some o := fun V o g h => by subst h; exact heap_alloc_new V o
  have hb : Below w.heap.size w (((w.alloc (.cells #[.int .i64 kf, .int .i64 pf, .slice Kf nf ef] 24)).alloc (.cells #[.int .i64 kg, .int .i64 pg, .slice Kg ng eg] 24)).alloc (.cells #[.slice A x.stem.length c, .slice B x.cycle.length d] 27)) := below_alloc (below_alloc (below_one w _))
  exact ⟨hb, ((show Blk (w.alloc (.cells #[.int .i64 kf, .int .i64 pf, .slice Kf nf ef] 24)) w.heap.size 24 #[.int .i64 kf, .int .i64 pf, .slice Kf nf ef] from nx _ _ rfl).alloc _).alloc _,
    (show Blk ((w.alloc (.cells #[.int .i64 kf, .int .i64 pf, .slice Kf nf ef] 24)).alloc (.cells #[.int .i64 kg, .int .i64 pg, .slice Kg ng eg] 24)) (w.heap.size + 1) 24 #[.int .i64 kg, .int .i64 pg, .slice Kg ng eg] from nx _ _ (by simp)).alloc _,
    show Blk (((w.alloc (.cells #[.int .i64 kf, .int .i64 pf, .slice Kf nf ef] 24)).alloc (.cells #[.int .i64 kg, .int .i64 pg, .slice Kg ng eg] 24)).alloc (.cells #[.slice A x.stem.length c, .slice B x.cycle.length d] 27)) (w.heap.size + 1 + 1) 27 #[.slice A x.stem.length c, .slice B x.cycle.length d] from nx _ _ (by simp), lt_call h1 hb, lt_call h2 hb, wd_call hw hb⟩
end
theorem heads {w : World} {S : Nat → Prop} {f : Ltl} {k p : Int} {A : Option Addr} {n c : Nat} (h : Ltl.Is w S f [.int .i64 k, .int .i64 p, .slice A n c]) : k = f.kind ∧ p = f.prop := by
  cases f with
  | mk a b r =>
    obtain ⟨_, _, _, hc, _⟩ := Ltl.Is.form h
    simp at hc
    exact ⟨hc.1, hc.2.1⟩
theorem ltwo_at (k : Int) (U f g : Ltl) (k1 p1 : Int) (K1 : Option Addr) (n1 e1 : Nat) (k2 p2 : Int) (K2 : Option Addr) (n2 e2 : Nat) (w : World) (S : Nat → Prop) (hU : U = .mk k 0 [f, g]) (hS : Bd S w)
    (h1 : Ltl.Is w S f [.int .i64 k1, .int .i64 p1, .slice K1 n1 e1]) (h2 : Ltl.Is w S g [.int .i64 k2, .int .i64 p2, .slice K2 n2 e2]) :
    Calls Try.prog 22 #[.int .i64 k, .agg #[.int .i64 k1, .int .i64 p1, .slice K1 n1 e1], .agg #[.int .i64 k2, .int .i64 p2, .slice K2 n2 e2]] w (RetLtl w S U) := by
  obtain ⟨rfl, rfl⟩ := heads h1
  obtain ⟨rfl, rfl⟩ := heads h2
  subst hU
  exact ltwo_any k f g K1 K2 n1 e1 n2 e2 w S hS h1 h2
theorem lone_at (k : Int) (U f : Ltl) (k1 p1 : Int) (K1 : Option Addr) (n1 e1 : Nat) (w : World) (S : Nat → Prop) (hU : U = .mk k 0 [f]) (hS : Bd S w)
    (h1 : Ltl.Is w S f [.int .i64 k1, .int .i64 p1, .slice K1 n1 e1]) :
    Calls Try.prog 23 #[.int .i64 k, .agg #[.int .i64 k1, .int .i64 p1, .slice K1 n1 e1]] w (RetLtl w S U) := by
  obtain ⟨rfl, rfl⟩ := heads h1
  subst hU
  exact lone_any k f K1 n1 e1 w S hS h1
theorem wholds_at (x : Wd) (f : Ltl) (k p : Int) (K : Option Addr) (n e : Nat) (A B : Option Addr) (c d : Nat) (I : Int) (j : Nat) (w : World) (v : Bool) (hI : I = (j : Int)) (hv : f.norm.sat x j = v) (hx : x.size ≤ 7) (h0 : 0 < x.cycle.length) (hj : j ≤ 1000001)
    (hf : Ltl.Is w (Lt w.heap.size) f [.int .i64 k, .int .i64 p, .slice K n e]) (hw : WdIs w (Lt w.heap.size) x (.slice A x.stem.length c) (.slice B x.cycle.length d)) :
    Calls Try.prog 11 #[.agg #[.int .i64 k, .int .i64 p, .slice K n e], .agg #[.slice A x.stem.length c, .slice B x.cycle.length d], .int .i64 I] w fun e w' => e = .returned (.bool v) ∧ Below w.heap.size w w' := by
  subst hI
  exact wholds_val x f k p K n e A B c d (j : Int) w v hv (by omega) h0 (by omega) hf hw
theorem and_low (a : Int) : 0 ≤ IntKind.i64.wrap ((BitVec.ofInt 64 a &&& BitVec.ofInt 64 1023).toNat : Int) ∧ IntKind.i64.wrap ((BitVec.ofInt 64 a &&& BitVec.ofInt 64 1023).toNat : Int) ≤ 1000000 := by
  have h : (BitVec.ofInt 64 a &&& BitVec.ofInt 64 1023).toNat ≤ 1023 := by
    rw [BitVec.toNat_and]
    exact Nat.le_trans Nat.and_le_right (by decide)
  generalize (BitVec.ofInt 64 a &&& BitVec.ofInt 64 1023).toNat = m at *
  rw [Go.IntWalk.i64_in _ (by omega)]
  omega
/-- Where the law looks. -/
def posOf (i : Int) : Nat := if i < 0 then 0 else if 1000000 < i then (IntKind.i64.wrap ((BitVec.ofInt 64 i &&& BitVec.ofInt 64 1023).toNat : Int)).toNat else i.toNat
theorem pos_big {i j : Int} (h : j = (if i < 0 then 0 else i)) (hb : 1000000 < j) : posOf i = (IntKind.i64.wrap ((BitVec.ofInt 64 j &&& BitVec.ofInt 64 1023).toNat : Int)).toNat := by
  unfold posOf
  by_cases hi : i < 0
  · rw [if_pos hi] at h; omega
  · rw [if_neg hi] at h; subst h; rw [if_neg hi, if_pos hb]
theorem pos_small {i j : Int} (h : j = (if i < 0 then 0 else i)) (hb : j ≤ 1000000) : posOf i = j.toNat := by
  unfold posOf
  by_cases hi : i < 0
  · rw [if_pos hi] at h; subst h; rw [if_pos hi]; rfl
  · rw [if_neg hi] at h; subst h; rw [if_neg hi, if_neg (by omega)]
theorem few_size {x : Wd} (h : x.few 7 = true) : x.size ≤ 7 := by
  unfold Wd.few at h
  simp only [Bool.and_eq_true, decide_eq_true_eq] at h
  exact h.1.1
end Go.Proofs.Ytedbjkjncfinnaa
