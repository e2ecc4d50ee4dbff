/-
  A closed run: a function run over the empty small heap, on arguments that speak of no block, answers so in every world.
-/
import Derived.Test.YtlmhajfbpplpoaaQG
set_option linter.unusedSectionVars false
set_option linter.unusedSimpArgs false
set_option linter.unusedVariables false
namespace Go.Proofs.Ytlmhajfbpplpoaa
open Go.RowKit
def nullH : AH := ⟨[], 0, none⟩
def noMu : Mu := fun _ => none
theorem hrep_null (F : Prot) (w : World) (h : ∀ g o, F g o → g < w.heap.size) : HRep noMu F w nullH.get := by
  refine ⟨fun b k hk => ?_, fun b b' k k' p p' _ hk => ?_, h⟩
  · simp [nullH, AH.get, look] at hk
  · simp [nullH, AH.get, look] at hk
/-- What a closed run says of every world. -/
theorem closed_calls {P : Program} {Γ : FuncId → List AV → AM AV} (hΓ : SoundG P Γ) {f : FuncId} {args : List AV} {r : AV} {H' : AH} {ft : Foot} (h : Γ f args nullH = some (r, H', ft)) (hwf : nullH.wf)
    {F : Prot} {w : World} (hF : ∀ g o, F g o → g < w.heap.size) {vals : Array Value} (hv : RepList noMu F w args vals.toList) :
    Calls P f vals w fun e w' => ∃ u, e = .returned u ∧ Post noMu F w nullH r H' u w' :=
  hΓ f args noMu F w nullH vals hv (hrep_null F w hF) hwf (fun _ _ _ => rfl) r H' ft h
/-- The same, all memory of before untouched. -/
theorem closed_below {P : Program} {Γ : FuncId → List AV → AM AV} (hΓ : SoundG P Γ) {f : FuncId} {args : List AV} {r : AV} {H' : AH} {ft : Foot} (h : Γ f args nullH = some (r, H', ft)) (hwf : nullH.wf)
    {w : World} {vals : Array Value} (hv : RepList noMu (fun g _ => g < w.heap.size) w args vals.toList) :
    Calls P f vals w fun e w' => ∃ u, e = .returned u ∧ Below w.heap.size w w' ∧ ∃ μ' F', Rep μ' F' w' r u := by
  refine (closed_calls hΓ h hwf (fun _ _ h => h) hv).mono ?_
  rintro e w' ⟨u, rfl, μ', F', h1, h2, h3, h4, h5⟩
  exact ⟨u, rfl, h4.below (Nat.le_refl _) (fun _ _ h => h), μ', F', h1⟩
/-- The functions whose bodies Ev reads. -/
def okFn (fn : Func) : Bool := match fn.body with
  | some c => okC c
  | none => true
def okTest (P : Program) (okm : Nat) : List Func → Nat → Bool
  | [], _ => true
  | fn :: r, i => (!okm.testBit i || okFn fn) && okTest P okm r (i + 1)
theorem okTest_get {P : Program} {okm : Nat} : ∀ {l : List Func} {i : Nat}, okTest P okm l i = true → ∀ {j : Nat} {fn : Func}, l[j]? = some fn → okm.testBit (i + j) = true → okFn fn = true
  | [], i, _, j, fn, hj, _ => by simp at hj
  | g :: r, i, h, j, fn, hj, hb => by
    simp only [okTest, Bool.and_eq_true, Bool.or_eq_true, Bool.not_eq_true'] at h
    cases j with
    | zero =>
      simp at hj; subst hj
      rcases h.1 with h1 | h1
      · rw [Nat.add_zero] at hb; rw [hb] at h1; cases h1
      · exact h1
    | succ j => exact okTest_get h.2 (by simpa using hj) (by rwa [Nat.add_assoc, Nat.add_comm 1 j])
theorem okAll_of {P : Program} {okm : Nat} (h : okTest P okm P.funcs.toList 0 = true) : OkAll P okm := fun f fn c hb hf hc => by
  have := okTest_get h (j := f) (fn := fn) (by rw [Array.getElem?_toList]; exact hf) (by rwa [Nat.zero_add])
  unfold okFn at this
  rw [hc] at this
  exact this
end Go.Proofs.Ytlmhajfbpplpoaa
