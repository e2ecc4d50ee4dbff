/-
  A property as a tree (Ltl), as what is read (D), and what each function of layer 15 makes of it. No program in sight but for types' numbers.
-/
import Derived.Test.YtedbjkjncfinnaaRead
import Derived.Test.YtedbjkjncfinnaaRows
namespace Go.Proofs.Ytedbjkjncfinnaa
open Go.RowKit

/-- A property. -/
inductive Ltl where
  | mk (kind prop : Int) (kids : List Ltl)

mutual
def Ltl.d : Ltl → D
  | .mk k p r => .agg [.int .i64 k, .int .i64 p, .slice 3 (Ltl.ds r)]
def Ltl.ds : List Ltl → List D
  | [] => []
  | f :: r => f.d :: Ltl.ds r
end
theorem Ltl.ds_eq (l : List Ltl) : Ltl.ds l = l.map Ltl.d := by
  induction l with
  | nil => simp only [Ltl.ds, List.map_nil]
  | cons f r ih => simp only [Ltl.ds, List.map_cons, ih]
def Ltl.kind : Ltl → Int | .mk k _ _ => k
def Ltl.prop : Ltl → Int | .mk _ p _ => p
def Ltl.kids : Ltl → List Ltl | .mk _ _ r => r
mutual
/-- Its numbers are numbers of the machine. -/
def Ltl.ok : Ltl → Prop
  | .mk k p r => (Lit.int .i64 k).wf = true ∧ (Lit.int .i64 p).wf = true ∧ Ltl.oks r
def Ltl.oks : List Ltl → Prop
  | [] => True
  | f :: r => f.ok ∧ Ltl.oks r
end

/-- The property lies in w's blocks of S; cs are its three cells. -/
def Ltl.Is (w : World) (S : Nat → Prop) (f : Ltl) (cs : List Value) : Prop := D.Is w S f.d cs

theorem Ltl.Is.form {w : World} {S : Nat → Prop} {k p : Int} {r : List Ltl} {cs : List Value} (h : Ltl.Is w S (.mk k p r) cs) :
    ∃ A n c, cs = [.int .i64 k, .int .i64 p, .slice A n c] ∧ n = r.length ∧ n ≤ c ∧ c ≤ maxLen ∧
      (0 < n → ∃ b o, A = some ⟨b, o, none⟩ ∧ S b ∧ ∀ i (h : i < r.length), ∃ x y z, w.cell? ⟨b, o + i * 3, none⟩ = some x ∧ w.cell? ⟨b, o + i * 3 + 1, none⟩ = some y ∧ w.cell? ⟨b, o + i * 3 + 2, none⟩ = some z ∧ Ltl.Is w S r[i] [x, y, z]) := by
  unfold Ltl.Is at h
  simp only [Ltl.d, D.Is, D.Cat] at h
  obtain ⟨_, _, rfl, rfl, _, _, rfl, rfl, _, _, rfl, ⟨A, c, rfl, h1, h2, h3⟩, rfl⟩ := h
  have hl : (Ltl.ds r).length = r.length := by rw [Ltl.ds_eq]; simp
  refine ⟨A, r.length, c, by simp [hl], rfl, by omega, h2, fun hn => ?_⟩
  obtain ⟨b, o, hA, hS, hr⟩ := h3 (by intro e; rw [e] at hl; simp at hl; omega)
  refine ⟨b, o, hA, hS, fun i hi => ?_⟩
  obtain ⟨cs, h1, h2, h3⟩ := hr.at_ _ _ i (by omega)
  match cs, h1 with
  | [x, y, z], _ =>
    refine ⟨x, y, z, h2 0 x rfl, h2 1 y rfl, h2 2 z rfl, ?_⟩
    unfold Ltl.Is
    have : (Ltl.ds r)[i] = r[i].d := by simp [Ltl.ds_eq]
    rwa [this] at h3

theorem Ltl.Is.mk_ {w : World} {S : Nat → Prop} {k p : Int} {r : List Ltl} {A : Option Addr} {n c : Nat} (hn : n = r.length) (hc : n ≤ c) (hm : c ≤ maxLen)
    (h : 0 < n → ∃ b o, A = some ⟨b, o, none⟩ ∧ S b ∧ ∀ i (h : i < r.length), ∃ x y z, w.cell? ⟨b, o + i * 3, none⟩ = some x ∧ w.cell? ⟨b, o + i * 3 + 1, none⟩ = some y ∧ w.cell? ⟨b, o + i * 3 + 2, none⟩ = some z ∧ Ltl.Is w S r[i] [x, y, z]) :
    Ltl.Is w S (.mk k p r) [.int .i64 k, .int .i64 p, .slice A n c] := by
  unfold Ltl.Is
  have hl : (Ltl.ds r).length = r.length := by rw [Ltl.ds_eq]; simp
  have hs : D.Is w S (.slice 3 (Ltl.ds r)) [.slice A n c] := by
    refine D.Is.slice_mk (by omega) hc hm fun h0 => ?_
    obtain ⟨b, o, hA, hS, hr⟩ := h h0
    refine ⟨b, o, hA, hS, fun i hi => ?_⟩
    obtain ⟨x, y, z, h1, h2, h3, h4⟩ := hr i (by omega)
    refine ⟨[x, y, z], rfl, fun j u hj => ?_, ?_⟩
    · match j, hj with
      | 0, hj => simp at hj; subst hj; exact h1
      | 1, hj => simp at hj; subst hj; exact h2
      | 2, hj => simp at hj; subst hj; exact h3
      | j + 3, hj => simp at hj
    · unfold Ltl.Is at h4
      have : (Ltl.ds r)[i] = r[i].d := by simp [Ltl.ds_eq]
      rwa [this]
  simp only [Ltl.d, D.Is, D.Cat] at hs ⊢
  exact ⟨[_], [_, _], rfl, rfl, [_], [_], rfl, rfl, [_], [], rfl, hs, rfl⟩

section
variable {w w' : World} {S S' : Nat → Prop} {B B' : Nat} {f : Ltl} {cs : List Value}
theorem Ltl.Is.keep (h : Ltl.Is w S f cs) (hk : ∀ b, S b → S' b ∧ w'.heap[b]? = w.heap[b]?) : Ltl.Is w' S' f cs := D.Is.keep hk _ _ h
theorem Ltl.Is.more (h : Ltl.Is w (Lt B) f cs) (hs : B ≤ B') : Ltl.Is w (Lt B') f cs := D.Is.more h hs
theorem Ltl.Is.below (h : Ltl.Is w (Lt B) f cs) (hb : Below B w w') : Ltl.Is w' (Lt B) f cs := D.Is.below h hb
/-- From world to world, as the heap grows. -/
theorem Ltl.Is.call (h : Ltl.Is w S f cs) (hS : Bd S w) (hb : Below w.heap.size w w') : Ltl.Is w' S f cs := D.Is.call h hS hb
theorem Ltl.Is.ext_mono {w0 w1 : World} (h : Ltl.Is w1 (Ext S w w') f cs) (h0 : w0.heap.size ≤ w.heap.size) (h1 : w'.heap.size ≤ w1.heap.size) : Ltl.Is w1 (Ext S w0 w1) f cs := D.Is.ext_mono h h0 h1
theorem Ltl.Is.ext2 {w1 w2 : World} (h : Ltl.Is w2 (Ext (Ext S w w1) w1 w2) f cs) (h0 : w.heap.size ≤ w1.heap.size) (h1 : w1.heap.size ≤ w2.heap.size) : Ltl.Is w2 (Ext S w w2) f cs := D.Is.ext2 h h0 h1
theorem Ltl.Is.into {w0 w1 : World} (h : Ltl.Is w S f cs) : Ltl.Is w (Ext S w0 w1) f cs := D.Is.into h
theorem Ltl.Is.store {p : Addr} (h : Ltl.Is w S f cs) (hp : ¬ S p.block) (u : Value) : Ltl.Is (w.setCell p u) S f cs := D.Is.store h hp u
theorem Ltl.Is.mono (h : Ltl.Is w S f cs) (hs : ∀ b, S b → S' b) : Ltl.Is w S' f cs := D.Is.mono h hs
theorem Ltl.Is.undrew {w1 : World} (h : Ltl.Is w1 (Ext S w.drew w1) f cs) : Ltl.Is w1 (Ext S w w1) f cs := D.Is.mono h fun _ hb => hb
theorem Ltl.Is.grow_in (h : Ltl.Is w (Lt w.heap.size) f cs) (hb : Below w.heap.size w w') : Ltl.Is w' (Lt w'.heap.size) f cs := D.Is.more (D.Is.below h hb) hb.size
theorem Ltl.Is.grow (h : Ltl.Is w (Lt B) f cs) (hb : Below B w w') (hB : B ≤ B') : Ltl.Is w' (Lt B') f cs := (h.below hb).more hB
end

theorem Ltl.oks_of : ∀ (r : List Ltl), (∀ f ∈ r, f.ok) → Ltl.oks r
  | [], _ => by simp only [Ltl.oks]
  | f :: r, h => by
    simp only [Ltl.oks]
    exact ⟨h f (by simp), Ltl.oks_of r fun g hg => h g (by simp [hg])⟩

theorem ltl_of_aux (n : Nat) : ∀ x : D, SizeOf.sizeOf x ≤ n → D.Typed Try.prog x 24 → ∃ f : Ltl, x = f.d ∧ f.ok := by
  induction n with
  | zero => intro x hx; cases x <;> simp at hx
  | succ n ih =>
    intro x hx h
    obtain ⟨xs, rfl, g0⟩ := h.struct_ Try.underlying24
    obtain ⟨x0, r0, rfl, h0, g1⟩ := D.TypedFields.cons_ g0
    obtain ⟨x1, r1, rfl, h1, g2⟩ := D.TypedFields.cons_ g1
    obtain ⟨x2, r2, rfl, h2, g3⟩ := D.TypedFields.cons_ g2
    obtain rfl := D.TypedFields.nil_ g3
    obtain ⟨k, rfl, hk⟩ := h0.int_ Try.underlying3
    obtain ⟨p, rfl, hp⟩ := h1.int_ Try.underlying3
    obtain ⟨ys, rfl, hy⟩ := h2.slice_ Try.underlying22
    have hc : Try.prog.cellsOf 24 = 3 := by kernel_rfl
    obtain ⟨r, rfl, hr⟩ := unmap (g := Ltl.d) (Q := Ltl.ok) ys fun y hm => ih y (by
      have h3 := List.sizeOf_lt_of_mem hm
      simp at hx
      omega) (hy y hm)
    exact ⟨.mk k p r, by simp only [Ltl.d, Ltl.ds_eq, hc], by simp only [Ltl.ok]; exact ⟨hk, hp, Ltl.oks_of r hr⟩⟩

theorem ltl_of {x : D} (h : D.Typed Try.prog x 24) : ∃ f : Ltl, x = f.d ∧ f.ok := ltl_of_aux _ x (Nat.le_refl _) h
end Go.Proofs.Ytedbjkjncfinnaa
