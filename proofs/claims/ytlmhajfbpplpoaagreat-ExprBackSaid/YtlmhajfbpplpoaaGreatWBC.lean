/-
  A seat of D: tables of functions, and what is told from elsewhere.
-/
import Derived.Test.YtlmhajfbpplpoaaGreatWAS
import Derived.Test.YtlmhajfbpplpoaaGreatWBA
import Derived.Test.YtlmhajfbpplpoaaGreatWAU
import Derived.Test.YtlmhajfbpplpoaaGreatWAV
import Derived.Test.YtlmhajfbpplpoaaGreatWBB
set_option linter.unusedSectionVars false
set_option linter.unusedSimpArgs false
set_option linter.unusedVariables false
namespace Go.Proofs.YtlmhajfbpplpoaaGreat
open Go.RowKit
noncomputable def tabsTw : List (Nat × MFn) := tabEa ++ (tabEb ++ (tabSa ++ (tabWa ++ (tabWb ++ (tabAv ++ (tabTa ++ (tabTx ++ (tabLc))))))))
noncomputable def extsTw : List (Nat × DF) := [(91, extD resAll), (109, extD resName), (108, extD resNumber), (22, extD resSumText), (44, (Dn realA seatAl 60).ask (.fn 44)), (27, (Dn realA seatAl 60).ask (.fn 27))]
noncomputable def seatTw : Seat := seatD ownC tabsTw extsTw
noncomputable def DTw : Orc := Dstar realA seatTw
set_option maxRecDepth 100000 in
theorem allEaTw : AllFn Tryz.prog entsC tabEa := ⟨⟨_, _, _, rfl⟩, by kernel_rfl, ⟨_, _, _, rfl⟩, by kernel_rfl, ⟨_, _, _, rfl⟩, by kernel_rfl, ⟨_, _, _, rfl⟩, by kernel_rfl, ⟨_, _, _, rfl⟩, by kernel_rfl, ⟨_, _, _, rfl⟩, by kernel_rfl, ⟨_, _, _, rfl⟩, by kernel_rfl, ⟨_, _, _, rfl⟩, by kernel_rfl, ⟨_, _, _, rfl⟩, by kernel_rfl, ⟨_, _, _, rfl⟩, by kernel_rfl, ⟨_, _, _, rfl⟩, by kernel_rfl, ⟨_, _, _, rfl⟩, by kernel_rfl, trivial⟩
set_option maxRecDepth 100000 in
theorem allEbTw : AllFn Tryz.prog entsC tabEb := ⟨⟨_, _, _, rfl⟩, by kernel_rfl, ⟨_, _, _, rfl⟩, by kernel_rfl, ⟨_, _, _, rfl⟩, by kernel_rfl, ⟨_, _, _, rfl⟩, by kernel_rfl, ⟨_, _, _, rfl⟩, by kernel_rfl, ⟨_, _, _, rfl⟩, by kernel_rfl, ⟨_, _, _, rfl⟩, by kernel_rfl, trivial⟩
set_option maxRecDepth 100000 in
theorem allSaTw : AllFn Tryz.prog entsC tabSa := ⟨⟨_, _, _, rfl⟩, by kernel_rfl, ⟨_, _, _, rfl⟩, by kernel_rfl, ⟨_, _, _, rfl⟩, by kernel_rfl, trivial⟩
set_option maxRecDepth 100000 in
theorem allWaTw : AllFn Tryz.prog entsC tabWa := ⟨⟨_, _, _, rfl⟩, by kernel_rfl, trivial⟩
set_option maxRecDepth 100000 in
theorem allWbTw : AllFn Tryz.prog entsC tabWb := ⟨⟨_, _, _, rfl⟩, by kernel_rfl, ⟨_, _, _, rfl⟩, by kernel_rfl, ⟨_, _, _, rfl⟩, by kernel_rfl, trivial⟩
set_option maxRecDepth 100000 in
theorem allAvTw : AllFn Tryz.prog entsC tabAv := ⟨⟨_, _, _, rfl⟩, by kernel_rfl, trivial⟩
set_option maxRecDepth 100000 in
theorem allTaTw : AllFn Tryz.prog entsC tabTa := ⟨⟨_, _, _, rfl⟩, by kernel_rfl, ⟨_, _, _, rfl⟩, by kernel_rfl, ⟨_, _, _, rfl⟩, by kernel_rfl, ⟨_, _, _, rfl⟩, by kernel_rfl, ⟨_, _, _, rfl⟩, by kernel_rfl, ⟨_, _, _, rfl⟩, by kernel_rfl, ⟨_, _, _, rfl⟩, by kernel_rfl, ⟨_, _, _, rfl⟩, by kernel_rfl, ⟨_, _, _, rfl⟩, by kernel_rfl, ⟨_, _, _, rfl⟩, by kernel_rfl, ⟨_, _, _, rfl⟩, by kernel_rfl, ⟨_, _, _, rfl⟩, by kernel_rfl, trivial⟩
set_option maxRecDepth 100000 in
theorem allTxTw : AllFn Tryz.prog entsC tabTx := ⟨⟨_, _, _, rfl⟩, by kernel_rfl, ⟨_, _, _, rfl⟩, by kernel_rfl, ⟨_, _, _, rfl⟩, by kernel_rfl, trivial⟩
set_option maxRecDepth 100000 in
theorem allLcTw : AllFn Tryz.prog entsC tabLc := ⟨⟨_, _, _, rfl⟩, by kernel_rfl, ⟨_, _, _, rfl⟩, by kernel_rfl, trivial⟩
theorem allTabsTw : AllFn Tryz.prog entsC tabsTw := allFn_app allEaTw (allFn_app allEbTw (allFn_app allSaTw (allFn_app allWaTw (allFn_app allWbTw (allFn_app allAvTw (allFn_app allTaTw (allFn_app allTxTw (allLcTw))))))))
set_option maxRecDepth 100000 in
theorem entTw_ok : EntOk Tryz.prog entsC := entOk_of (n := 307) (by kernel_rfl)
theorem kEaTw : Knows ownC tabEa DTw := knows_of (fun _ _ h => find_left h) (by kernel_rfl)
theorem kEbTw : Knows ownC tabEb DTw := knows_of (fun _ _ h => find_right (by kernel_rfl) (find_left h)) (by kernel_rfl)
theorem kSaTw : Knows ownC tabSa DTw := knows_of (fun _ _ h => find_right (by kernel_rfl) (find_right (by kernel_rfl) (find_left h))) (by kernel_rfl)
theorem kWaTw : Knows ownC tabWa DTw := knows_of (fun _ _ h => find_right (by kernel_rfl) (find_right (by kernel_rfl) (find_right (by kernel_rfl) (find_left h)))) (by kernel_rfl)
theorem kWbTw : Knows ownC tabWb DTw := knows_of (fun _ _ h => find_right (by kernel_rfl) (find_right (by kernel_rfl) (find_right (by kernel_rfl) (find_right (by kernel_rfl) (find_left h))))) (by kernel_rfl)
theorem kAvTw : Knows ownC tabAv DTw := knows_of (fun _ _ h => find_right (by kernel_rfl) (find_right (by kernel_rfl) (find_right (by kernel_rfl) (find_right (by kernel_rfl) (find_right (by kernel_rfl) (find_left h)))))) (by kernel_rfl)
theorem kTaTw : Knows ownC tabTa DTw := knows_of (fun _ _ h => find_right (by kernel_rfl) (find_right (by kernel_rfl) (find_right (by kernel_rfl) (find_right (by kernel_rfl) (find_right (by kernel_rfl) (find_right (by kernel_rfl) (find_left h))))))) (by kernel_rfl)
theorem kTxTw : Knows ownC tabTx DTw := knows_of (fun _ _ h => find_right (by kernel_rfl) (find_right (by kernel_rfl) (find_right (by kernel_rfl) (find_right (by kernel_rfl) (find_right (by kernel_rfl) (find_right (by kernel_rfl) (find_right (by kernel_rfl) (find_left h)))))))) (by kernel_rfl)
theorem kLcTw : Knows ownC tabLc DTw := knows_of (fun _ _ h => find_right (by kernel_rfl) (find_right (by kernel_rfl) (find_right (by kernel_rfl) (find_right (by kernel_rfl) (find_right (by kernel_rfl) (find_right (by kernel_rfl) (find_right (by kernel_rfl) (find_right (by kernel_rfl) (h))))))))) (by kernel_rfl)
theorem xAllTw {args : List AV} {bs : List ABlk} {r : AV × List BO} (h : (extD resAll : DF) args bs = some r) : DTw.ask (.fn 91) args bs = some r := star_ext (d := extD resAll) rfl h
theorem xNameTw {args : List AV} {bs : List ABlk} {r : AV × List BO} (h : (extD resName : DF) args bs = some r) : DTw.ask (.fn 109) args bs = some r := star_ext (d := extD resName) rfl h
theorem xNumberTw {args : List AV} {bs : List ABlk} {r : AV × List BO} (h : (extD resNumber : DF) args bs = some r) : DTw.ask (.fn 108) args bs = some r := star_ext (d := extD resNumber) rfl h
theorem xSumTextTw {args : List AV} {bs : List ABlk} {r : AV × List BO} (h : (extD resSumText : DF) args bs = some r) : DTw.ask (.fn 22) args bs = some r := star_ext (d := extD resSumText) rfl h
theorem xTermTw {args : List AV} {bs : List ABlk} {r : AV × List BO} (h : ((Dn realA seatAl 60).ask (.fn 44) : DF) args bs = some r) : DTw.ask (.fn 44) args bs = some r := star_ext (d := (Dn realA seatAl 60).ask (.fn 44)) rfl h
theorem xFormTw {args : List AV} {bs : List ABlk} {r : AV × List BO} (h : ((Dn realA seatAl 60).ask (.fn 27) : DF) args bs = some r) : DTw.ask (.fn 27) args bs = some r := star_ext (d := (Dn realA seatAl 60).ask (.fn 27)) rfl h
theorem seatTw_ok (hAll : GoodD (SemFn Tryz.prog 91) (extD resAll)) (hName : GoodD (SemFn Tryz.prog 109) (extD resName)) (hNumber : GoodD (SemFn Tryz.prog 108) (extD resNumber)) (hSumText : GoodD (SemFn Tryz.prog 22) (extD resSumText)) (hTerm : GoodD (SemFn Tryz.prog 44) ((Dn realA seatAl 60).ask (.fn 44))) (hForm : GoodD (SemFn Tryz.prog 27) ((Dn realA seatAl 60).ask (.fn 27))) : SeatOk Tryz.prog entsC seatTw where
 mixed := by kernel_rfl
 ent := entTw_ok
 fns f mf h := allFn_mem allTabsTw f mf (findN_mem h)
 ext f d h := by
  have hm : (f, d) ∈ extsTw := findN_mem h
  unfold extsTw at hm
  simp only [List.mem_cons, Prod.mk.injEq, List.not_mem_nil, or_false] at hm
  rcases hm with ⟨rfl, rfl⟩ | ⟨rfl, rfl⟩ | ⟨rfl, rfl⟩ | ⟨rfl, rfl⟩ | ⟨rfl, rfl⟩ | ⟨rfl, rfl⟩
  ·exact hAll
  ·exact hName
  ·exact hNumber
  ·exact hSumText
  ·exact hTerm
  ·exact hForm
end Go.Proofs.YtlmhajfbpplpoaaGreat
