/-
  Layer 15: settling, the plain law: what stands still and rose from the start is the truth.
-/
import Derived.Test.YtedbjkjncfinnaaSat
namespace Go.Proofs.Ytedbjkjncfinnaa

def upd (o : Nat → Bool) (i : Nat) (b : Bool) : Nat → Bool := fun j => if j = i then b else o j
theorem upd_same (o : Nat → Bool) (i : Nat) (b : Bool) : upd o i b i = b := if_pos rfl
theorem upd_other (o : Nat → Bool) {i j : Nat} (b : Bool) (h : j ≠ i) : upd o i b j = o j := if_neg h
def still (n : Nat) (nx : Nat → Nat) (P : Nat → Bool → Bool) (o : Nat → Bool) : Prop := ∀ i, i < n → P i (o (nx i)) = o i
structure Settled (d : Bool) (n : Nat) (nx : Nat → Nat) (P : Nat → Bool → Bool) (o : Nat → Bool) : Prop where
  fix : still n nx P o
  least : ∀ S, still n nx P S → ∀ i, i < n → o i = !d → S i = !d
structure Rising (d : Bool) (n : Nat) (nx : Nat → Nat) (P : Nat → Bool → Bool) (o : Nat → Bool) : Prop where
  rise : ∀ i, i < n → o i = !d → P i (o (nx i)) = !d
  least : ∀ S, still n nx P S → ∀ i, i < n → o i = !d → S i = !d
def Mono (d : Bool) (n : Nat) (P : Nat → Bool → Bool) : Prop := ∀ i, i < n → P i d = !d → P i (!d) = !d
theorem Rising.start (d : Bool) (n : Nat) (nx : Nat → Nat) (P : Nat → Bool → Bool) : Rising d n nx P fun _ => d :=
  ⟨fun _ _ h => by cases d <;> simp at h, fun _ _ _ _ h => by cases d <;> simp at h⟩
theorem Mono.le {d : Bool} {n : Nat} {P : Nat → Bool → Bool} (h : Mono d n P) {i : Nat} (hi : i < n) {a b : Bool} (hab : a = !d → b = !d) (ha : P i a = !d) : P i b = !d := by
  have := h i hi
  clear h
  cases d <;> cases a <;> cases b <;> first | exact ha | exact this ha | exact absurd (hab rfl) (by decide)
theorem Rising.at_ {d : Bool} {n : Nat} {nx : Nat → Nat} {P : Nat → Bool → Bool} {o : Nat → Bool} (h : Rising d n nx P o) (hm : Mono d n P) (hn : ∀ i, i < n → nx i < n) {i : Nat} (hi : i < n) :
    Rising d n nx P (upd o i (P i (o (nx i)))) := by
  have up : ∀ j, o j = !d → upd o i (P i (o (nx i))) j = !d := by
    intro j hj
    by_cases e : j = i
    · subst e; rw [upd_same]; exact h.rise j hi hj
    · rw [upd_other _ _ e]; exact hj
  constructor
  · intro j hj hv
    by_cases e : j = i
    · subst e; rw [upd_same] at hv; exact hm.le hj (up _) hv
    · rw [upd_other _ _ e] at hv; exact hm.le hj (up _) (h.rise j hj hv)
  · intro S hS j hj hv
    by_cases e : j = i
    · subst e; rw [upd_same] at hv
      rw [← hS j hj]
      exact hm.le hj (h.least S hS _ (hn j hj)) hv
    · rw [upd_other _ _ e] at hv; exact h.least S hS j hj hv
theorem Rising.settled {d : Bool} {n : Nat} {nx : Nat → Nat} {P : Nat → Bool → Bool} {o : Nat → Bool} (h : Rising d n nx P o) (hs : still n nx P o) : Settled d n nx P o := ⟨hs, h.least⟩

/-- How many have not risen. -/
def low (d : Bool) (o : Nat → Bool) : Nat → Nat
  | 0 => 0
  | n + 1 => low d o n + if o n = d then 1 else 0
theorem low_congr (d : Bool) (o o' : Nat → Bool) : ∀ n, (∀ i, i < n → o i = o' i) → low d o n = low d o' n
  | 0, _ => rfl
  | n + 1, h => by unfold low; rw [low_congr d o o' n (fun i hi => h i (by omega)), h n (by omega)]
theorem low_upd (d : Bool) (o : Nat → Bool) {i : Nat} : ∀ n, i < n → o i = d → low d (upd o i (!d)) n + 1 = low d o n
  | 0, h, _ => by omega
  | n + 1, h, hd => by
    unfold low
    by_cases e : i = n
    · subst e
      rw [upd_same, low_congr d (upd o i (!d)) o i (fun j hj => upd_other _ _ (by omega)), if_pos hd, if_neg (by cases d <;> simp)]
    · rw [upd_other _ _ (fun h => e h.symm)]
      have := low_upd d o (i := i) n (by omega) hd
      omega
theorem Rising.low {d : Bool} {n : Nat} {nx : Nat → Nat} {P : Nat → Bool → Bool} {o : Nat → Bool} (h : Rising d n nx P o) {i : Nat} (hi : i < n) (hne : P i (o (nx i)) ≠ o i) : low d (upd o i (P i (o (nx i)))) n < low d o n := by
  have h1 : o i = d := by
    have := h.rise i hi
    cases hd : o i <;> cases d <;> simp_all
  have h2 : P i (o (nx i)) = !d := by
    revert hne; rw [h1]; cases P i (o (nx i)) <;> cases d <;> simp
  rw [h2]
  have := low_upd d o n hi h1
  omega

theorem un_up {f g : Nat → Bool} {n m i : Nat} (h : un f g n i = true) (hm : n ≤ m) : un f g m i = true := by
  rw [un_iff] at h ⊢
  obtain ⟨k, h1, h2, h3⟩ := h
  exact ⟨k, by omega, h2, h3⟩
theorem un_settled {x : Wd} {f g o : Nat → Bool} (hc : 0 < x.cycle.length) (hf : Round x f) (hg : Round x g)
    (h : Settled false x.size x.next (fun i b => g i || (f i && b)) o) : ∀ i, i < x.size → o i = un f g x.size i := by
  have fixed : still x.size x.next (fun i b => g i || (f i && b)) (un f g x.size) := by
    intro i hi
    have h1 : un f g x.size (x.next i) = un f g x.size (i + 1) := by
      rw [← x.place_next i hi]
      exact (un_congr _ _ _ (fun k => hf.shift (i + 1) k) (fun k => hg.shift (i + 1) k)).symm
    show (g i || (f i && un f g x.size (x.next i))) = un f g x.size i
    rw [h1]
    show un f g (x.size + 1) i = _
    rw [Bool.eq_iff_iff]
    exact ⟨un_enough hc hg, fun h => un_up h (by omega)⟩
  have up : ∀ m i, un f g m i = true → o (x.place i) = true := by
    intro m
    induction m with
    | zero => intro i h; cases h
    | succ m ih =>
      intro i hu
      unfold un at hu
      rw [← h.fix _ (x.place_lt i hc)]
      show (g (x.place i) || (f (x.place i) && o (x.next (x.place i)))) = true
      rw [← hg, ← hf, ← x.place_next _ (x.place_lt i hc), ← x.place_add i 1]
      rw [Bool.or_eq_true, Bool.and_eq_true] at hu ⊢
      exact hu.imp id fun ⟨a, b⟩ => ⟨a, ih _ b⟩
  intro i hi
  rw [Bool.eq_iff_iff]
  exact ⟨h.least _ fixed i hi, fun hu => by have := up _ i hu; rwa [x.place_id i hi] at this⟩
theorem fr_settled {x : Wd} {f g o : Nat → Bool} (hc : 0 < x.cycle.length) (hf : Round x f) (hg : Round x g)
    (h : Settled true x.size x.next (fun i b => g i && (f i || b)) o) : ∀ i, i < x.size → o i = fr f g x.size i := by
  intro i hi
  have : Settled false x.size x.next (fun i b => !g i || (!f i && b)) (fun i => !o i) := by
    constructor
    · intro i hi
      have := h.fix i hi
      show (!g i || (!f i && !o (x.next i))) = !o i
      rw [← this]
      show (!g i || (!f i && !o (x.next i))) = !(g i && (f i || o (x.next i)))
      generalize g i = a
      generalize f i = b
      cases a <;> cases b <;> simp
    · intro S hS i hi hv
      have := h.least (fun i => !S i) (fun i hi => by
        have := hS i hi
        show (g i && (f i || !S (x.next i))) = !S i
        rw [← this]
        show (g i && (f i || !S (x.next i))) = !(!g i || (!f i && S (x.next i)))
        generalize g i = a
        generalize f i = b
        cases a <;> cases b <;> simp) i hi (by revert hv; cases o i <;> simp)
      revert this; cases S i <;> simp
  have h2 := un_settled hc (fun i => by show (!f i) = !f (x.place i); rw [← hf]) (fun i => by show (!g i) = !g (x.place i); rw [← hg]) this i hi
  rw [fr_un, ← h2, Bool.not_not]
theorem mono_un (f g : Nat → Bool) (n : Nat) : Mono false n fun i b => g i || (f i && b) := by
  intro i _
  show (g i || (f i && false)) = !false → (g i || (f i && !false)) = !false
  generalize g i = a
  generalize f i = b
  cases a <;> cases b <;> simp
theorem mono_fr (f g : Nat → Bool) (n : Nat) : Mono true n fun i b => g i && (f i || b) := by
  intro i _
  show (g i && (f i || true)) = !true → (g i && (f i || !true)) = !true
  generalize g i = a
  generalize f i = b
  cases a <;> cases b <;> simp
end Go.Proofs.Ytedbjkjncfinnaa
