/-
  Properties without what does not count (T); the plain words of layer 15 over them. No program in sight.
-/
import Derived.Test.YtedbjkjncfinnaaLtl
namespace Go.Proofs.Ytedbjkjncfinnaa
open Go.RowKit

/-- A property: only what counts. -/
inductive T where
  | tt | ff
  | atom (i : Int)
  | not (p : T)
  | and (p q : T)
  | or (p q : T)
  | imp (p q : T)
  | next (p : T)
  | all (p : T)
  | some_ (p : T)
  | until_ (p q : T)
  | free (p q : T)

def T.build (k p : Int) (ts : List T) : T :=
  if k = 0 then .tt else if k = 2 then .atom p else if k = 3 then .not (ts.getD 0 .ff) else if k = 4 then .and (ts.getD 0 .ff) (ts.getD 1 .ff) else
  if k = 5 then .or (ts.getD 0 .ff) (ts.getD 1 .ff) else if k = 7 then .imp (ts.getD 0 .ff) (ts.getD 1 .ff) else if k = 8 then .next (ts.getD 0 .ff) else
  if k = 9 then .all (ts.getD 0 .ff) else if k = 10 then .some_ (ts.getD 0 .ff) else if k = 11 then .until_ (ts.getD 0 .ff) (ts.getD 1 .ff) else
  if k = 12 then .free (ts.getD 0 .ff) (ts.getD 1 .ff) else .ff
mutual
def Ltl.norm : Ltl → T
  | .mk k p r => T.build k p (Ltl.norms r)
def Ltl.norms : List Ltl → List T
  | [] => []
  | f :: r => f.norm :: Ltl.norms r
end
theorem Ltl.norms_eq (l : List Ltl) : Ltl.norms l = l.map Ltl.norm := by
  induction l with
  | nil => simp only [Ltl.norms, List.map_nil]
  | cons f r ih => simp only [Ltl.norms, List.map_cons, ih]

/-- TFalse. -/
def fls : Ltl := .mk 1 0 []
def Ltl.kid (f : Ltl) (i : Nat) : Ltl := f.kids.getD i fls
theorem fls_norm : fls.norm = .ff := by simp [fls, Ltl.norm, T.build]
theorem kid_norm (f : Ltl) (i : Nat) : (f.kid i).norm = (Ltl.norms f.kids).getD i .ff := by
  unfold Ltl.kid
  rw [Ltl.norms_eq]
  by_cases h : i < f.kids.length
  · simp [List.getD_eq_getElem?_getD, h]
  · simp [List.getD_eq_getElem?_getD, h, fls_norm]

/-- What the kind is, and what the kids, by what counts. -/
def KindOf (k p : Int) (f0 f1 : Ltl) : T → Prop
  | .tt => k = 0
  | .ff => k ≠ 0 ∧ k ≠ 2 ∧ k ≠ 3 ∧ k ≠ 4 ∧ k ≠ 5 ∧ k ≠ 7 ∧ k ≠ 8 ∧ k ≠ 9 ∧ k ≠ 10 ∧ k ≠ 11 ∧ k ≠ 12
  | .atom i => k = 2 ∧ p = i
  | .not a => k = 3 ∧ f0.norm = a
  | .and a b => k = 4 ∧ f0.norm = a ∧ f1.norm = b
  | .or a b => k = 5 ∧ f0.norm = a ∧ f1.norm = b
  | .imp a b => k = 7 ∧ f0.norm = a ∧ f1.norm = b
  | .next a => k = 8 ∧ f0.norm = a
  | .all a => k = 9 ∧ f0.norm = a
  | .some_ a => k = 10 ∧ f0.norm = a
  | .until_ a b => k = 11 ∧ f0.norm = a ∧ f1.norm = b
  | .free a b => k = 12 ∧ f0.norm = a ∧ f1.norm = b
theorem kind_of (k p : Int) (r : List Ltl) : KindOf k p (Ltl.kid (.mk k p r) 0) (Ltl.kid (.mk k p r) 1) (Ltl.norm (.mk k p r)) := by
  have e0 := kid_norm (.mk k p r) 0
  have e1 := kid_norm (.mk k p r) 1
  simp only [Ltl.kids] at e0 e1
  simp only [Ltl.norm]
  unfold T.build
  repeat (split; · simp_all [KindOf])
  simp_all [KindOf]

def arity (k : Int) : Nat := if k = 3 ∨ k = 8 ∨ k = 9 ∨ k = 10 then 1 else if k = 4 ∨ k = 5 ∨ k = 7 ∨ k = 11 ∨ k = 12 then 2 else 0

/-- As a property of the program. -/
def T.ltl : T → Ltl
  | .tt => .mk 0 0 []
  | .ff => .mk 1 0 []
  | .atom i => .mk 2 i []
  | .not p => .mk 3 0 [p.ltl]
  | .and p q => .mk 4 0 [p.ltl, q.ltl]
  | .or p q => .mk 5 0 [p.ltl, q.ltl]
  | .imp p q => .mk 7 0 [p.ltl, q.ltl]
  | .next p => .mk 8 0 [p.ltl]
  | .all p => .mk 9 0 [p.ltl]
  | .some_ p => .mk 10 0 [p.ltl]
  | .until_ p q => .mk 11 0 [p.ltl, q.ltl]
  | .free p q => .mk 12 0 [p.ltl, q.ltl]
theorem T.ltl_norm : ∀ t : T, t.ltl.norm = t
  | .tt | .ff | .atom _ => by simp [T.ltl, Ltl.norm, T.build]
  | .not p | .next p | .all p | .some_ p => by simp [T.ltl, Ltl.norm, Ltl.norms, T.build, p.ltl_norm]
  | .and p q | .or p q | .imp p q | .until_ p q | .free p q => by simp [T.ltl, Ltl.norm, Ltl.norms, T.build, p.ltl_norm, q.ltl_norm]

/-- Plain. -/
def T.plain : T → Bool → T
  | .tt, d => if d then .ff else .tt
  | .ff, d => if d then .tt else .ff
  | .atom i, d => if d then .not (.atom i) else .atom i
  | .not p, d => p.plain !d
  | .and p q, d => if d then .or (p.plain d) (q.plain d) else .and (p.plain d) (q.plain d)
  | .or p q, d => if d then .and (p.plain d) (q.plain d) else .or (p.plain d) (q.plain d)
  | .imp p q, d => if d then .and (p.plain !d) (q.plain d) else .or (p.plain !d) (q.plain d)
  | .next p, d => .next (p.plain d)
  | .all p, d => if d then .until_ .tt (p.plain d) else .free .ff (p.plain d)
  | .some_ p, d => if d then .free .ff (p.plain d) else .until_ .tt (p.plain d)
  | .until_ p q, d => if d then .free (p.plain d) (q.plain d) else .until_ (p.plain d) (q.plain d)
  | .free p q, d => if d then .until_ (p.plain d) (q.plain d) else .free (p.plain d) (q.plain d)

/-- How many properties count. -/
def T.size : T → Nat
  | .tt | .ff | .atom _ => 1
  | .not p | .next p | .all p | .some_ p => 1 + p.size
  | .and p q | .or p q | .imp p q | .until_ p q | .free p q => 1 + p.size + q.size

/-- How many kids count, and which. -/
def T.ar : T → Nat
  | .tt | .ff | .atom _ => 0
  | .not _ | .next _ | .all _ | .some_ _ => 1
  | .and _ _ | .or _ _ | .imp _ _ | .until_ _ _ | .free _ _ => 2
def T.kidAt : T → Nat → T
  | .tt, _ | .ff, _ | .atom _, _ => .ff
  | .not p, _ | .next p, _ | .all p, _ | .some_ p, _ => p
  | .and p q, i | .or p q, i | .imp p q, i | .until_ p q, i | .free p q, i => if i = 0 then p else q
theorem T.ar_le (t : T) : t.ar ≤ 2 := by cases t <;> simp [T.ar]
theorem T.kid_size (t : T) (i : Nat) (h : i < t.ar) : (t.kidAt i).size < t.size := by
  cases t <;> simp [T.ar] at h <;> simp only [T.kidAt, T.size] <;> (try split) <;> omega
/-- The sizes of the first i kids, and one. -/
def T.upto (t : T) : Nat → Nat
  | 0 => 1
  | i + 1 => t.upto i + (t.kidAt i).size
theorem T.size_eq (t : T) : t.size = t.upto t.ar := by cases t <;> simp [T.ar, T.upto, T.size, T.kidAt]
theorem T.upto_le (t : T) (i : Nat) (h : i ≤ t.ar) : t.upto i ≤ t.size := by
  cases t <;> simp [T.ar] at h <;> (rcases i with _ | _ | _ | i) <;> simp [T.upto, T.size, T.kidAt] <;> omega
theorem T.size_pos (t : T) : 1 ≤ t.size := by cases t <;> simp only [T.size] <;> omega
theorem ar_of (k p : Int) (r : List Ltl) : arity k = (Ltl.norm (.mk k p r)).ar := by
  have h := kind_of k p r
  generalize Ltl.norm (.mk k p r) = t at h
  cases t <;> simp only [KindOf] at h <;> simp [arity, T.ar, h]
theorem kid_of (f : Ltl) (i : Nat) (h : i < f.norm.ar) : (f.kid i).norm = f.norm.kidAt i := by
  obtain ⟨k, p, r⟩ := f
  have hk := kind_of k p r
  generalize Ltl.norm (.mk k p r) = t at h hk
  cases t <;> simp only [KindOf] at hk <;> simp [T.ar] at h <;> (try (obtain rfl : i = 0 := h)) <;> simp only [T.kidAt]
  all_goals first | exact hk.2 | (rcases (show i = 0 ∨ i = 1 by omega) with rfl | rfl <;> first | exact hk.2.1 | exact hk.2.2)

/-- Are they the same? -/
def T.same : T → T → Bool
  | .tt, .tt => true
  | .ff, .ff => true
  | .atom i, .atom j => i == j
  | .not p, .not q => p.same q
  | .next p, .next q => p.same q
  | .all p, .all q => p.same q
  | .some_ p, .some_ q => p.same q
  | .and p q, .and r s => p.same r && q.same s
  | .or p q, .or r s => p.same r && q.same s
  | .imp p q, .imp r s => p.same r && q.same s
  | .until_ p q, .until_ r s => p.same r && q.same s
  | .free p q, .free r s => p.same r && q.same s
  | _, _ => false
theorem T.same_iff : ∀ t u : T, t.same u = true ↔ t = u := by
  intro t
  induction t with
  | tt | ff | atom => intro u; cases u <;> simp [T.same]
  | not _ ih | next _ ih | all _ ih | some_ _ ih => intro u; cases u <;> simp [T.same, ih]
  | and _ _ ih1 ih2 | or _ _ ih1 ih2 | imp _ _ ih1 ih2 | until_ _ _ ih1 ih2 | free _ _ ih1 ih2 => intro u; cases u <;> simp [T.same, ih1, ih2]
theorem T.same_kind (t u : T) (h : t.ltl.kind ≠ u.ltl.kind) : t.same u = false := by
  cases t <;> cases u <;> simp [T.ltl, Ltl.kind] at h <;> simp [T.same]
theorem T.same_kids (t u : T) (h : t.ltl.kind = u.ltl.kind) (hp : t.ltl.prop = u.ltl.prop) : t.ar = u.ar ∧ (t.same u = true ↔ ∀ i, i < t.ar → (t.kidAt i).same (u.kidAt i) = true) := by
  have two : ∀ P : Nat → Prop, (∀ i, i < 2 → P i) ↔ P 0 ∧ P 1 := fun P => ⟨fun h => ⟨h 0 (by omega), h 1 (by omega)⟩, fun h i hi => by rcases (show i = 0 ∨ i = 1 by omega) with rfl | rfl; exact h.1; exact h.2⟩
  have one : ∀ P : Nat → Prop, (∀ i, i < 1 → P i) ↔ P 0 := fun P => ⟨fun h => h 0 (by omega), fun h i hi => by obtain rfl : i = 0 := (by omega); exact h⟩
  cases t <;> cases u <;> simp [T.ltl, Ltl.kind] at h <;> simp [T.ltl, Ltl.prop] at hp <;> simp [T.ar, T.same, T.kidAt, hp]
  all_goals (rw [two]; simp)
end Go.Proofs.Ytedbjkjncfinnaa
