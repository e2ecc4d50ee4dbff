/-
  A region that draws its order and whose operations each yield one value in whatever later world: one walk. No program in sight.
-/
import Derived.Test.YtedbjkjncfinnaaMem
import Derived.Deep.QuietTactic
import Derived.BigQuiet
namespace Go.Proofs.Ytedbjkjncfinnaa
open Go.RowKit

/-- W, with what x has beyond. -/
def later (W x : World) : World := { heap := W.heap ++ x.heap.extract W.heap.size x.heap.size, tape := W.tape, drawn := x.drawn, os := W.os, output := W.output }

theorem below_later (W x : World) : Below W.heap.size W (later W x) := by
  refine ⟨rfl, rfl, rfl, by simp [later], fun k hk => ?_⟩
  show (W.heap ++ _)[k]? = _
  rw [Array.getElem?_append_left hk]

theorem later_of {W w : World} (hb : Below W.heap.size W w) : w = later W w := by
  have hh : w.heap = W.heap ++ w.heap.extract W.heap.size w.heap.size := by
    apply Array.ext_getElem?
    intro i
    rcases Nat.lt_or_ge i W.heap.size with h | h
    · rw [Array.getElem?_append_left h, hb.block i h]
    · rw [Array.getElem?_append_right h, Array.getElem?_extract]
      by_cases hi : i < w.heap.size
      · rw [if_pos (by have := hb.size; omega)]
        congr 1
        omega
      · rw [if_neg (by omega), Array.getElem?_eq_none (by omega)]
  obtain ⟨h1, h2, h3, _, _⟩ := hb
  cases w
  simp only at h1 h2 h3 hh
  subst h1 h2 h3
  simp only [later, World.mk.injEq, and_true]
  exact hh

@[go_sem] theorem cell?_later (W x : World) (b o : Nat) (h : b < W.heap.size) : (later W x).cell? ⟨b, o, none⟩ = W.cell? ⟨b, o, none⟩ := (below_later W x).cell (p := ⟨b, o, none⟩) h
@[go_sem] theorem frozen?_later (W x : World) (b o : Nat) (h : b < W.heap.size) : (later W x).frozen? ⟨b, o, none⟩ = W.frozen? ⟨b, o, none⟩ := (below_later W x).frozen (p := ⟨b, o, none⟩) h

theorem wp_region_later {P : Program} {id : Nat} {Q : Exit → Act → World → Prop} {a : Act} {w : World} {l : List Oper} (hm : P.follows .mixedOrders = true) (hB : Region.lexB .any l.toArray = true)
    (h : wpQuiet P l.toArray (fun w' => ∃ x, w' = later w x) (fun a' => ∀ w', (∃ x, w' = later w x) → Q .normal a' w') l a) : (Code.region id l.toArray true).wp P Q a w :=
  wp_region_quiet (C := fun w' => ∃ x, w' = later w x) hm hB ⟨w.drew, later_of (Below.refl _ _).drew⟩ (by simpa using h)

/-- A callee that hands back v in whatever world, and lays new memory alone. -/
theorem later_call {P : Program} {f : FuncId} {args : Array Value} {W x : World} {v : Value} (h : Calls P f args (later W x) fun e w' => e = .returned v ∧ Below (later W x).heap.size (later W x) w') :
    Calls P f args (later W x) fun e w' => e = .returned v ∧ ∃ y, w' = later W y :=
  h.mono fun _ w' ⟨he, hb⟩ => ⟨he, w', later_of ((below_later W x).trans (hb.mono (below_later W x).size))⟩
theorem later_same {P : Program} {f : FuncId} {args : Array Value} {W x : World} {v : Value} (h : Calls P f args (later W x) fun e w' => e = .returned v ∧ later W x = w') :
    Calls P f args (later W x) fun e w' => e = .returned v ∧ ∃ y, w' = later W y :=
  h.mono fun _ _ ⟨he, hw⟩ => ⟨he, x, hw.symm⟩
end Go.Proofs.Ytedbjkjncfinnaa
