/-
  A region that draws its order, in a round of a range over a function (at the wide fence): from the plain calculus. No program in sight.
-/
import Derived.Test.YtedbjkjncfinnaaLater
import Derived.RangeFuncNested
import Derived.RangeFuncBound
import Derived.RangeFuncCalls
import Derived.RangeFuncLeaves
import Derived.RangeFuncWrites
import Derived.Shelf.Abstract
import Derived.WalkKit
import Derived.OwnWalkIn
import Derived.TacticsInMore
import Derived.LoopNIn
import Derived.LoopIn
namespace Go.Proofs.Ytedbjkjncfinnaa
open Go.RowKit Go.Shelf

section
variable {P : Program} {ops : Array Oper} {Q : Exit → Act → World → Prop} {md : Region.Mode}
theorem rowsIn_round {n l : Nat} {row : String} {args : Array Value} {w : World} {R : Value → World → Prop} (h : Rows P row args w R) : RowsIn (Fence.wide.inRound l) n P row args w R := by
  intro c cs _
  obtain ⟨v, w', r, s⟩ := h c cs
  exact ⟨v, w', r, stepsIn_wide.2 s⟩
theorem wpOp_round {n l : Nat} (hd : ∀ (i : Nat) (o : Oper), ops[i]? = some o → ∀ c, o.op ≠ .defer c) (hQ : ¬ LetsOut Q) {i : Nat} {a : Act} {w : World} {K : Act → World → Prop} (h : wpOp P ops Q i K a w) :
    wpOpIn (Fence.wide.inRound l) n P ops Q i K a w := by
  unfold wpOp at h
  unfold wpOpIn
  cases ho : ops[i]? with
  | none => simp only [ho] at h ⊢; exact h
  | some o =>
    simp only [ho] at h ⊢
    split
    · rename_i hw
      rw [if_pos hw] at h
      rcases h with h | ⟨_, h⟩
      · refine ⟨fun _ _ => trivial, ?_⟩
        show o.uponIn _ n P a K Q ((Oper.semAt (some l) a.eval o).run P w)
        rw [Oper.semAt_some l _ o (hd i o ho)]
        unfold Oper.wp at h
        generalize (execOp a.eval o).run P w = r at h ⊢
        cases r with
        | ok x w' =>
          cases x <;> simp only [Oper.upon, Oper.uponIn] at h ⊢ <;>
            first
              | exact h
              | exact ⟨fun h => (by cases h), CallsIn.inRound l (callsIn_wide.2 h)⟩
              | exact ⟨fun h => (by cases h), rowsIn_round h⟩
        | halt x w' => cases x <;> simp only [Oper.upon, Oper.uponIn] at h ⊢ <;> exact h
      · exact absurd h hQ
    · rename_i hw
      rw [if_neg hw] at h
      exact ⟨fun _ _ => trivial, h⟩
theorem wpAny_round {n l : Nat} (hd : ∀ (i : Nat) (o : Oper), ops[i]? = some o → ∀ c, o.op ≠ .defer c) (hQ : ¬ LetsOut Q) : ∀ (fuel : Nat) (listed : Array Bool) (a : Act) (w : World), wpAny P md ops Q fuel listed a w →
    wpAnyIn (Fence.wide.inRound l) n P md ops Q fuel listed a w
  | 0, _, _, _, h => h
  | fuel + 1, _, _, _, h => ⟨h.1, fun i hi => wpOpIn_mono (fun a w h => wpAny_round hd hQ fuel _ a w h) (wpOp_round hd hQ (h.2 i hi))⟩
end

/-- No operation defers a call. -/
def noDefer (l : List Oper) : Bool := l.all fun o => match o.op with | .defer _ => false | _ => true
theorem noDefer_out {l : List Oper} (h : noDefer l = true) : ∀ (i : Nat) (o : Oper), l.toArray[i]? = some o → ∀ c, o.op ≠ .defer c := by
  intro i o ho c hc
  have := List.all_eq_true.1 h o (by rw [List.getElem?_toArray] at ho; exact List.mem_of_getElem? ho)
  rw [hc] at this
  cases this
theorem wpIn_region_later {P : Program} {id n l : Nat} {Q : Exit → Act → World → Prop} {a : Act} {w : World} {os : List Oper} (hQ : ¬ LetsOut Q) (hm : P.follows .mixedOrders = true) (hB : Region.lexB .any os.toArray = true) (hd : noDefer os = true)
    (h : wpQuiet P os.toArray (fun w' => ∃ x, w' = later w x) (fun a' => ∀ w', (∃ x, w' = later w x) → Q .normal a' w') os a) : (Code.region id os.toArray true).wpIn (Fence.wide.inRound l) n P Q a w := by
  refine wpIn_region_any hm (wpAny_round (noDefer_out hd) hQ _ _ _ _ ?_)
  simp only [Region.lexB, Bool.and_eq_true] at hB
  refine wpAny_of_quiet (C := fun w' => ∃ x, w' = later w x) (Q := fun a' => ∀ w', (∃ x, w' = later w x) → Q .normal a' w') (fun _ w' hw' h => h w' hw') _ _ _ _ ⟨w.drew, later_of (Below.refl _ _).drew⟩ ?_
  have := wpAnyQ_lex (C := fun w' => ∃ x, w' = later w x) (md := .any) hB.1 os 0 (Array.replicate os.toArray.size false) a (by simp) (by simpa using hB.2) h
  simpa using this
end Go.Proofs.Ytedbjkjncfinnaa
