/-
  walking of layer 11, run in the kernel.
  ExprWalks: the contracts out of the hand-walked texts, and the row. (NOT BUILT YET: it wants LexRc over this seat.)
-/
import Derived.Test.YtlmhajfbpplpoaaQ9
import Derived.Test.YtlmhajfbpplpoaaQH
import Derived.Test.YtlmhajfbpplpoaaQD
import Derived.Test.YtlmhajfbpplpoaaQC
import Derived.Test.YtlmhajfbpplpoaaQB
set_option linter.unusedSectionVars false
set_option linter.unusedSimpArgs false
set_option linter.unusedVariables false
namespace Go.Proofs.Ytlmhajfbpplpoaa
open Go.RowKit

def G0 : FuncId → List AV → Option (AM AV) := fun _ _ => none
def saysTrue : Option (AV × AH × Foot) → Bool
  | some (.v (.bool true), _, _) => true
  | _ => false
theorem saysTrue_of {o : Option (AV × AH × Foot)} (h : saysTrue o = true) : ∃ H ft, o = some (bv true, H, ft) := by
  unfold saysTrue at h
  split at h
  · exact ⟨_, _, rfl⟩
  · cases h
theorem walking_run : saysTrue (evFunS Try.prog (2 ^ Try.prog.funcs.size - 1) G0 1000 30 4 [] nullH) = true := by kernel_rfl
theorem evG0_sound : SoundG Try.prog (evFun Try.prog (2 ^ Try.prog.funcs.size - 1) G0 1000 30) :=
  evFun_sound (by kernel_rfl) (okAll_of (by kernel_rfl)) (by intro f args μ F w H vals hv hH hw hfr r H' ft h; cases h) (by intro f args m h; cases h) 1000 30
theorem walking_any (w : World) : Calls Try.prog 4 #[] w fun e w' => e = .returned (.bool true) ∧ Below w.heap.size w w' := by
  obtain ⟨H, ft, h⟩ := saysTrue_of walking_run
  rw [evFunS_eq] at h
  refine Calls.mono (closed_below evG0_sound h (by simp [nullH, AH.wf, AH.get, look]) (w := w) (vals := #[]) rfl) ?_
  rintro e w' ⟨u, rfl, hb, μ', F', hr⟩
  unfold bv Rep at hr
  rw [hr.1]
  exact ⟨rfl, hb⟩
end Go.Proofs.Ytlmhajfbpplpoaa
namespace Go.Proofs.Ytlmhajfbpplpoaa
open Go.RowKit

theorem extC : ExtC where
  all := ext_all 60 fun s w hs => (all_any s w hs).mono fun e w' h => by
    unfold AllRet at h
    unfold AllSays
    exact h
  rall := ext_all 58 fun s w hs => (rall_any s w hs).mono fun e w' h => by
    unfold RAllRet at h
    unfold AllSays
    exact h
  name := ext_name fun s w hs => name_any s w hs
  rname := ext_name fun s w hs => (rname_any s w hs).mono fun e w' h => ⟨h.1, h.2 ▸ Below.refl _ _⟩
  walking := ext_true fun w => walking_any w
theorem exprWalks_holds : Rows.ExprWalksSaid := exprWalks_of extC
end Go.Proofs.Ytlmhajfbpplpoaa
