/-
  A block of the call's own, known whole; boxes that a region of open order lays and fills. No program in sight.
-/
import Derived.WalkKit
import Derived.WalkSpells
import Derived.WalkLawsBesides
import Derived.Deep.Draws
import Derived.Lib.Hide
namespace Go.Proofs.Ytedbjkjncfinnaa
open Go.RowKit

theorem bcell {W w1 : World} (hb : Below W.heap.size W w1) : (∀ b o, b < W.heap.size → w1.cell? ⟨b, o, none⟩ = W.cell? ⟨b, o, none⟩) ∧ (∀ b o, b < W.heap.size → w1.frozen? ⟨b, o, none⟩ = W.frozen? ⟨b, o, none⟩) :=
  ⟨fun b o h => hb.cell (p := ⟨b, o, none⟩) h, fun b o h => hb.frozen (p := ⟨b, o, none⟩) h⟩
theorem kp_of {W w : World} (hb : Below W.heap.size W w) : Below W.heap.size W w ∧ (∀ b o, b < W.heap.size → w.cell? ⟨b, o, none⟩ = W.cell? ⟨b, o, none⟩) :=
  ⟨hb, (bcell hb).1⟩
theorem below_drew {B : Nat} {W w : World} (h : Below B W w) : Below B W w.drew := h.drew
theorem below_undrew {w w' : World} (h : Below w.drew.heap.size w.drew w') : Below w.heap.size w w' := ⟨h.os, h.tape, h.output, h.size, h.block⟩
theorem below_drewN {B : Nat} {W w : World} {n : Nat} (h : Below B W w) : Below B W (w.drewN n) := ⟨h.os, h.tape, h.output, h.size, h.block⟩
theorem below_alloc {W w : World} {o : Obj} (h : Below W.heap.size W w) : Below W.heap.size W (w.alloc o) := h.alloc h.size o
theorem below_set {W w : World} {p : Addr} {u : Value} (h : Below W.heap.size W w) (hp : W.heap.size ≤ p.block) : Below W.heap.size W (w.setCell p u) := h.setCell hp u
theorem below_call {W w w' : World} (h : Below W.heap.size W w) (hb : Below w.heap.size w w') : Below W.heap.size W w' := h.trans (hb.mono h.size)
theorem below_one (w : World) (o : Obj) : Below w.heap.size w (w.alloc o) := (Below.refl _ _).alloc (Nat.le_refl _) o

theorem ret_int {k : IntKind} {a b : Int} (h : a = b) : Ending.returned (.int k a) = .returned (.int k b) := by rw [h]
theorem ret_bool {a b : Bool} (h : a = b) : Ending.returned (.bool a) = .returned (.bool b) := by rw [h]

/-- Block g is just the cells cs of type t, none frozen. -/
def Blk (w : World) (g : Nat) (t : TypeId) (cs : Array Value) : Prop := w.heap[g]? = some (.cells cs t (0, 0))

section
variable {w w' : World} {g : Nat} {t : TypeId} {cs : Array Value}
theorem Blk.lt (h : Blk w g t cs) : g < w.heap.size := by
  rcases Nat.lt_or_ge g w.heap.size with hlt | hge
  · exact hlt
  · unfold Blk at h; rw [Array.getElem?_eq_none hge] at h; cases h
theorem Blk.cell (h : Blk w g t cs) (i : Nat) : w.cell? ⟨g, i, none⟩ = cs[i]? := cell_of_row w g i cs t (0, 0) h
theorem Blk.frozen (h : Blk w g t cs) (i : Nat) : w.frozen? ⟨g, i, none⟩ = false := by
  unfold Blk at h
  simp [World.frozen?, h]
theorem Blk.new (w : World) (t : TypeId) (cs : Array Value) : Blk (w.alloc (.cells cs t)) w.heap.size t cs := heap_alloc_new w _
theorem Blk.drew (h : Blk w g t cs) : Blk w.drew g t cs := h
theorem Blk.alloc (h : Blk w g t cs) (o : Obj) : Blk (w.alloc o) g t cs := (Below.heap_alloc w o g h.lt).trans h
theorem Blk.set_ (h : Blk w g t cs) (i : Nat) (u : Value) : Blk (w.setCell ⟨g, i, none⟩ u) g t (cs.setIfInBounds i u) := by
  unfold Blk at h ⊢
  simp [World.setCell, Array.getElem?_modify, h]
theorem Blk.far (h : Blk w g t cs) {p : Addr} (hp : g ≠ p.block) (u : Value) : Blk (w.setCell p u) g t cs := (Below.heap_setCell w p u g hp).trans h
theorem Blk.below {B : Nat} (h : Blk w g t cs) (hb : Below B w w') (hg : g < B) : Blk w' g t cs := (hb.block g hg).trans h
theorem Blk.call (h : Blk w g t cs) (hb : Below w.heap.size w w') : Blk w' g t cs := h.below hb h.lt
end

/-- The value of a slot, once its box is laid: a pointer to block g, which lies from B on and holds cs. -/
def Own (w : World) (B g : Nat) (t : TypeId) (v : Value) (cs : Array Value) : Prop := B ≤ g ∧ v = .pointer (some ⟨g, 0, none⟩) ∧ Blk w g t cs
section
variable {w w' : World} {B g : Nat} {t : TypeId} {v : Value} {cs : Array Value}
theorem Own.call (h : Own w B g t v cs) (hb : Below w.heap.size w w') : Own w' B g t v cs := ⟨h.1, h.2.1, h.2.2.call hb⟩
theorem Own.far (h : Own w B g t v cs) {p : Addr} (hp : g ≠ p.block) (u : Value) : Own (w.setCell p u) B g t v cs := ⟨h.1, h.2.1, h.2.2.far hp u⟩
theorem Own.far3 (h : Own w B g t v cs) {g' : Nat} (hp : g ≠ g') (a b c : Value) : Own (((w.setCell ⟨g', 0, none⟩ a).setCell ⟨g', 1, none⟩ b).setCell ⟨g', 2, none⟩ c) B g t v cs :=
  ((h.far (p := ⟨g', 0, none⟩) hp a).far (p := ⟨g', 1, none⟩) hp b).far (p := ⟨g', 2, none⟩) hp c
theorem Own.new {w : World} {B : Nat} (t : TypeId) (cs : Array Value) (hB : B ≤ w.heap.size) : Own (w.alloc (.cells cs t)) B w.heap.size t (.pointer (some ⟨w.heap.size, 0, none⟩)) cs := ⟨hB, rfl, Blk.new w t cs⟩
theorem Own.set3 {x y z : Value} (h : Own w B g t v #[x, y, z]) (a b c : Value) : Own (((w.setCell ⟨g, 0, none⟩ a).setCell ⟨g, 1, none⟩ b).setCell ⟨g, 2, none⟩ c) B g t v #[a, b, c] :=
  ⟨h.1, h.2.1, by simpa using ((h.2.2.set_ 0 a).set_ 1 b).set_ 2 c⟩
end
/-- Which of two, by whether the store is done. -/
def pick {α : Type} (d : Bool) (x y : α) : α := match d with | true => x | false => y

section
variable {w w' : World} {base base' e size n : Nat} {v : Value} {xs : List Value}
theorem grown_of_below {row : Option Nat} (hb : Below w.heap.size w w') : w.grownBy w' row := ⟨hb.os, hb.tape, hb.output, hb.size, fun k hk _ => hb.block k hk⟩
theorem own_call (h : w.ownsRow base e size v n xs) (hb : Below w.heap.size w w') : w'.ownsRow base e size v n xs := h.kept (row := none) (grown_of_below hb) (by cases hv : v.ownBlock <;> simp)
theorem own_base (h : w.ownsRow base e size v n xs) (hb : base' ≤ base) : w.ownsRow base' e size v n xs :=
  ⟨h.1, h.2.imp id fun ⟨g, cap, cur, h1, h2, h3⟩ => ⟨g, cap, cur, h1, Nat.le_trans hb h2, h3⟩⟩
theorem own_form (h : w.ownsRow base e size v n xs) (hn : 0 < n) : ∃ g cap, v = .slice (some ⟨g, 0, none⟩) n cap ∧ base ≤ g ∧ g < w.heap.size := by
  rcases h.2 with ⟨_, h0⟩ | ⟨g, cap, cur, h1, h2, h3, _⟩
  · omega
  · exact ⟨g, cap, h1, h2, (Array.getElem?_eq_some_iff.1 h3).1⟩
theorem own_shape (h : w.ownsRow base e size v n xs) : ∃ A c, v = .slice A n c := by
  rcases h.2 with ⟨h1, h0⟩ | ⟨g, cap, cur, h1, _⟩
  · exact ⟨none, 0, by rw [h1, h0]⟩
  · exact ⟨_, _, h1⟩
theorem below_grown {W : World} {row : Option Nat} (h : Below W.heap.size W w) (hg : w.grownBy w' row) (hr : ∀ k, row = some k → W.heap.size ≤ k) : Below W.heap.size W w' := h.grown hg h.size hr
theorem own_ge {B : Nat} (h : w.ownsRow base e size v n xs) (hB : B ≤ base) : ∀ k, v.ownBlock = some k → B ≤ k := fun k hk => Nat.le_trans hB (h.lt k hk).1
end
/-- A function of the program is entered by its value. -/
def Enters (P : Program) (g : FuncId) : Prop := ∀ (args : Array Value) (w : World), (callFunc g args).run P w = .ok (.enter g args) w
end Go.Proofs.Ytedbjkjncfinnaa
