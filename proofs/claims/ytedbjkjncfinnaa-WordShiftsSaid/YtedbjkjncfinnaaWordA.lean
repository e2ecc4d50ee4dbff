/-
  The small functions of layer 15 on properties: arity, kid, dual, turned, two (word, and the reference's).
-/
import Derived.Test.YtedbjkjncfinnaaPlain
import Derived.Test.YtedbjkjncfinnaaMem
import Derived.Test.YtedbjkjncfinnaaOrder
import Derived.Deep.QuietTactic
import Derived.BigQuiet
import Derived.Deep.RegionHeld3
namespace Go.Proofs.Ytedbjkjncfinnaa
open Go.RowKit

/-- A property comes back, in memory as it then is. -/
def RetLtl (w : World) (S : Nat → Prop) (g : Ltl) (e : Ending) (w' : World) : Prop :=
  ∃ A n c, e = .returned (.agg #[.int .i64 g.kind, .int .i64 g.prop, .slice A n c]) ∧ Ltl.Is w' (Ext S w w') g [.int .i64 g.kind, .int .i64 g.prop, .slice A n c] ∧ Below w.heap.size w w'

theorem fls_is (w : World) (S : Nat → Prop) : Ltl.Is w S fls [.int .i64 1, .int .i64 0, .slice none 0 0] :=
  Ltl.Is.mk_ rfl (Nat.le_refl _) (by decide) (by omega)

/-- What kid i is, in memory. -/
theorem kid_is {w : World} {S : Nat → Prop} {f : Ltl} {k p : Int} {A : Option Addr} {n c : Nat} (h : Ltl.Is w S f [.int .i64 k, .int .i64 p, .slice A n c]) (i : Nat) :
    n ≤ maxLen ∧ ((n ≤ i ∧ f.kid i = fls) ∨ (i < n ∧ ∃ b o B m d, A = some ⟨b, o, none⟩ ∧ S b ∧ w.cell? ⟨b, o + i * 3, none⟩ = some (.int .i64 (f.kid i).kind) ∧ w.cell? ⟨b, o + i * 3 + 1, none⟩ = some (.int .i64 (f.kid i).prop) ∧
      w.cell? ⟨b, o + i * 3 + 2, none⟩ = some (.slice B m d) ∧ Ltl.Is w S (f.kid i) [.int .i64 (f.kid i).kind, .int .i64 (f.kid i).prop, .slice B m d])) := by
  obtain ⟨k', p', r⟩ := f
  obtain ⟨A', n', c', hcs, hn, hc, hm, hr⟩ := h.form
  simp only [List.cons.injEq, Value.int.injEq, Value.slice.injEq, and_true, true_and] at hcs
  obtain ⟨rfl, rfl, rfl, rfl, rfl⟩ := hcs
  refine ⟨by omega, ?_⟩
  subst hn
  rcases Nat.lt_or_ge i r.length with hi | hi
  · refine .inr ⟨hi, ?_⟩
    obtain ⟨b, o, hA, hS, hx⟩ := hr (by omega)
    obtain ⟨x, y, z, h1, h2, h3, h4⟩ := hx i hi
    have hk : Ltl.kid (.mk k p r) i = r[i] := by simp [Ltl.kid, Ltl.kids, hi]
    rw [hk]
    generalize r[i] = g at h4
    obtain ⟨gk, gp, gr⟩ := g
    obtain ⟨B, m, d, hcs, _⟩ := h4.form
    simp only [List.cons.injEq, and_true] at hcs
    obtain ⟨rfl, rfl, rfl⟩ := hcs
    exact ⟨b, o, B, m, d, hA, hS, h1, h2, h3, h4⟩
  · exact .inl ⟨hi, by simp [Ltl.kid, Ltl.kids, hi]⟩

theorem arity_any (k : Int) (w : World) :
    Calls Try.prog 41 #[.int .i64 k] w fun e w' => e = .returned (.int .i64 (arity k)) ∧ w = w' := by
  go_enter Try.func41, Try.ntmps41
  go_wp2
  all_goals go_ret
  all_goals (refine ⟨ret_int ?_, rfl⟩)
  all_goals (simp_all [arity])

/-- Kid i is known ahead of the call. -/
theorem kid_exact (f : Ltl) (k p : Int) (A : Option Addr) (n c i : Nat) (w : World) (S : Nat → Prop) (hf : Ltl.Is w S f [.int .i64 k, .int .i64 p, .slice A n c]) :
    ∃ D m d, Ltl.Is w S (f.kid i) [.int .i64 (f.kid i).kind, .int .i64 (f.kid i).prop, .slice D m d] ∧
      ∀ (wx : World) (j : Int), j = i → Below w.heap.size w wx → Calls Try.prog 42 #[.agg #[.int .i64 k, .int .i64 p, .slice A n c], .int .i64 j] wx fun e w' =>
        e = .returned (.agg #[.int .i64 (f.kid i).kind, .int .i64 (f.kid i).prop, .slice D m d]) ∧ Below wx.heap.size wx w' := by
  obtain ⟨hm, hf' | hf'⟩ := kid_is hf i
  · obtain ⟨hi, hk⟩ := hf'
    have hlt : ¬ i < n := by omega
    rw [hk]
    refine ⟨none, 0, 0, fls_is _ _, fun wx j hj _ => ?_⟩
    subst hj
    clear hf hk
    unfold maxLen at hm
    go_enter Try.func42, Try.ntmps42
    go_wp2
    refine bodyPost_ret (v := .agg #[.int .i64 1, .int .i64 0, .slice none 0 0]) (by simp [results, Try.results42, go_sem]) rfl ?_
    exact ⟨rfl, below_alloc (below_one _ _)⟩
  · obtain ⟨hi, b, o, D, m, d, rfl, hb0, h1, h2, h3, h4⟩ := hf'
    refine ⟨D, m, d, h4, fun wx j hj hb => ?_⟩
    subst hj
    generalize f.kid i = g at *
    have hlt := lt_size h1
    have hbx : b < wx.heap.size := Nat.lt_of_lt_of_le hlt hb.size
    have e1 := (hb.cell (p := ⟨b, o + i * 3, none⟩) hlt).trans h1
    have e2 := (hb.cell (p := ⟨b, o + i * 3 + 1, none⟩) hlt).trans h2
    have e3 := (hb.cell (p := ⟨b, o + i * 3 + 2, none⟩) hlt).trans h3
    clear hf hb0 h4 h1 h2 h3 hb hlt
    unfold maxLen at hm
    go_enter Try.func42, Try.ntmps42
    go_wp2
    refine bodyPost_ret (v := .agg #[.int .i64 g.kind, .int .i64 g.prop, .slice D m d]) (by simp [results, Try.results42, go_sem]) rfl ?_
    exact ⟨rfl, below_alloc (below_one _ _)⟩

def dual (k : Int) : Int := if k = 0 then 1 else if k = 1 then 0 else if k = 4 then 5 else if k = 5 then 4 else if k = 11 then 12 else if k = 12 then 11 else k

theorem dual_any (k : Int) (w : World) :
    Calls Try.prog 68 #[.int .i64 k] w fun e w' => e = .returned (.int .i64 (dual k)) ∧ w = w' := by
  go_enter Try.func68, Try.ntmps68
  go_wp2
  all_goals go_ret
  all_goals (refine ⟨ret_int ?_, rfl⟩)
  all_goals (simp_all [dual])

def turned (k : Int) (d : Bool) : Int := if d then dual k else k

theorem turned_any (k : Int) (d : Bool) (w : World) :
    Calls Try.prog 43 #[.int .i64 k, .bool d] w fun e w' => e = .returned (.int .i64 (turned k d)) ∧ w = w' := by
  cases d
  all_goals
    go_enter Try.func43, Try.ntmps43
    go_wp2_with (go_at_call 68; refine (dual_any _ _).mono ?_; rintro e w' ⟨rfl, rfl⟩)
    go_ret
    exact ⟨ret_int (by simp [turned]), rfl⟩
end Go.Proofs.Ytedbjkjncfinnaa
