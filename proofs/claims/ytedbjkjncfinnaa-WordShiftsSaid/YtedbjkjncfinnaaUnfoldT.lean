/-
  What a property says of this position and of the next. No program in sight.
-/
import Derived.Test.YtedbjkjncfinnaaHoldsL
namespace Go.Proofs.Ytedbjkjncfinnaa

theorem un_more {f g : Nat → Bool} {n i : Nat} (h : un f g n i = true) : un f g (n + 1) i = true := by
  rw [un_iff] at h ⊢
  obtain ⟨k, h1, h2, h3⟩ := h
  exact ⟨k, by omega, h2, h3⟩
theorem un_step {x : Wd} {f g : Nat → Bool} (hc : 0 < x.cycle.length) (hg : Round x g) (i : Nat) : un f g x.size i = (g i || (f i && un f g x.size (i + 1))) := by
  have h : un f g x.size i = un f g (x.size + 1) i := by
    rw [Bool.eq_iff_iff]
    exact ⟨un_more, un_enough hc hg⟩
  rw [h]
  rfl
theorem fr_step {x : Wd} {f g : Nat → Bool} (hc : 0 < x.cycle.length) (hg : Round x g) (i : Nat) : fr f g x.size i = (g i && (f i || fr f g x.size (i + 1))) := by
  rw [fr_un, fr_un, un_step (x := x) hc (fun j => by rw [hg j])]
  cases f i <;> cases g i <;> simp
section
variable {x : Wd} (p q : Ltl) (i : Nat) (hc : 0 < x.cycle.length)
include hc
theorem until_step : (Ltl.mk 11 0 [p, q]).norm.sat x i = (q.norm.sat x i || (p.norm.sat x i && (Ltl.mk 11 0 [p, q]).norm.sat x (i + 1))) := by
  simp only [nm, Ltl.norms, T.build]
  exact un_step hc (T.sat_round x _) i
theorem free_step : (Ltl.mk 12 0 [p, q]).norm.sat x i = (q.norm.sat x i && (p.norm.sat x i || (Ltl.mk 12 0 [p, q]).norm.sat x (i + 1))) := by
  simp only [nm, Ltl.norms, T.build]
  exact fr_step hc (T.sat_round x _) i
theorem all_step : (Ltl.mk 9 0 [p]).norm.sat x i = (p.norm.sat x i && (Ltl.mk 9 0 [p]).norm.sat x (i + 1)) := by
  simp only [nm, Ltl.norms, T.build]
  exact (fr_step hc (T.sat_round x _) i).trans (by rw [Bool.false_or]; rfl)
theorem some_step : (Ltl.mk 10 0 [p]).norm.sat x i = (p.norm.sat x i || (Ltl.mk 10 0 [p]).norm.sat x (i + 1)) := by
  simp only [nm, Ltl.norms, T.build]
  exact (un_step hc (T.sat_round x _) i).trans (by rw [Bool.true_and]; rfl)
end
theorem next_at (x : Wd) (p : Ltl) (i : Nat) : (Ltl.mk 8 0 [p]).norm.sat x i = p.norm.sat x (i + 1) := by simp only [nm, Ltl.norms, T.build]; rfl
theorem not_at (x : Wd) (p : Ltl) (i : Nat) : (Ltl.mk 3 0 [p]).norm.sat x i = !p.norm.sat x i := by simp only [nm, Ltl.norms, T.build]; rfl
theorem and_at (x : Wd) (p q : Ltl) (i : Nat) : (Ltl.mk 4 0 [p, q]).norm.sat x i = (p.norm.sat x i && q.norm.sat x i) := by simp only [nm, Ltl.norms, T.build]; rfl
theorem or_at (x : Wd) (p q : Ltl) (i : Nat) : (Ltl.mk 5 0 [p, q]).norm.sat x i = (p.norm.sat x i || q.norm.sat x i) := by simp only [nm, Ltl.norms, T.build]; rfl
theorem imp_at (x : Wd) (p q : Ltl) (i : Nat) : (Ltl.mk 7 0 [p, q]).norm.sat x i = (!p.norm.sat x i || q.norm.sat x i) := by simp only [nm, Ltl.norms, T.build]; rfl
end Go.Proofs.Ytedbjkjncfinnaa
