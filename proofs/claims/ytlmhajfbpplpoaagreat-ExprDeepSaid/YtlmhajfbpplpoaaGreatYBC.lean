/-
  A seat of D: tables of functions, and what is told from elsewhere.
-/
import Derived.Test.YtlmhajfbpplpoaaGreatYAS
import Derived.Test.YtlmhajfbpplpoaaGreatYBA
import Derived.Test.YtlmhajfbpplpoaaGreatYAU
import Derived.Test.YtlmhajfbpplpoaaGreatYBB
set_option linter.unusedSectionVars false
set_option linter.unusedSimpArgs false
set_option linter.unusedVariables false
namespace Go.Proofs.YtlmhajfbpplpoaaGreat
open Go.RowKit
noncomputable def tabsDe : List (Nat × MFn) := tabEa ++ (tabEb ++ (tabWa ++ (tabWb ++ (tabAv ++ (tabTa ++ (tabLd))))))
noncomputable def extsDe : List (Nat × DF) := [(91, extD resAll), (109, extD resName), (108, extD resNumber), (22, extD resSumText), (44, (Dn realA seatAl 60).ask (.fn 44)), (27, (Dn realA seatAl 60).ask (.fn 27)), (25, (Dn realA seatAl 60).ask (.fn 25)), (47, (Dn realA seatAl 60).ask (.fn 47))]
noncomputable def seatDe : Seat := seatD ownC tabsDe extsDe
noncomputable def DDe : Orc := Dstar realA seatDe
set_option maxRecDepth 100000 in
theorem allEaDe : AllFn Tryz.prog entsC tabEa := ⟨⟨_, _, _, rfl⟩, by kernel_rfl, ⟨_, _, _, rfl⟩, by kernel_rfl, ⟨_, _, _, rfl⟩, by kernel_rfl, ⟨_, _, _, rfl⟩, by kernel_rfl, ⟨_, _, _, rfl⟩, by kernel_rfl, ⟨_, _, _, rfl⟩, by kernel_rfl, ⟨_, _, _, rfl⟩, by kernel_rfl, ⟨_, _, _, rfl⟩, by kernel_rfl, ⟨_, _, _, rfl⟩, by kernel_rfl, ⟨_, _, _, rfl⟩, by kernel_rfl, ⟨_, _, _, rfl⟩, by kernel_rfl, ⟨_, _, _, rfl⟩, by kernel_rfl, trivial⟩
set_option maxRecDepth 100000 in
theorem allEbDe : AllFn Tryz.prog entsC tabEb := ⟨⟨_, _, _, rfl⟩, by kernel_rfl, ⟨_, _, _, rfl⟩, by kernel_rfl, ⟨_, _, _, rfl⟩, by kernel_rfl, ⟨_, _, _, rfl⟩, by kernel_rfl, ⟨_, _, _, rfl⟩, by kernel_rfl, ⟨_, _, _, rfl⟩, by kernel_rfl, ⟨_, _, _, rfl⟩, by kernel_rfl, trivial⟩
set_option maxRecDepth 100000 in
theorem allWaDe : AllFn Tryz.prog entsC tabWa := ⟨⟨_, _, _, rfl⟩, by kernel_rfl, trivial⟩
set_option maxRecDepth 100000 in
theorem allWbDe : AllFn Tryz.prog entsC tabWb := ⟨⟨_, _, _, rfl⟩, by kernel_rfl, ⟨_, _, _, rfl⟩, by kernel_rfl, ⟨_, _, _, rfl⟩, by kernel_rfl, trivial⟩
set_option maxRecDepth 100000 in
theorem allAvDe : AllFn Tryz.prog entsC tabAv := ⟨⟨_, _, _, rfl⟩, by kernel_rfl, trivial⟩
set_option maxRecDepth 100000 in
theorem allTaDe : AllFn Tryz.prog entsC tabTa := ⟨⟨_, _, _, rfl⟩, by kernel_rfl, ⟨_, _, _, rfl⟩, by kernel_rfl, ⟨_, _, _, rfl⟩, by kernel_rfl, ⟨_, _, _, rfl⟩, by kernel_rfl, ⟨_, _, _, rfl⟩, by kernel_rfl, ⟨_, _, _, rfl⟩, by kernel_rfl, ⟨_, _, _, rfl⟩, by kernel_rfl, ⟨_, _, _, rfl⟩, by kernel_rfl, ⟨_, _, _, rfl⟩, by kernel_rfl, ⟨_, _, _, rfl⟩, by kernel_rfl, ⟨_, _, _, rfl⟩, by kernel_rfl, ⟨_, _, _, rfl⟩, by kernel_rfl, trivial⟩
set_option maxRecDepth 100000 in
theorem allLdDe : AllFn Tryz.prog entsC tabLd := ⟨⟨_, _, _, rfl⟩, by kernel_rfl, trivial⟩
theorem allTabsDe : AllFn Tryz.prog entsC tabsDe := allFn_app allEaDe (allFn_app allEbDe (allFn_app allWaDe (allFn_app allWbDe (allFn_app allAvDe (allFn_app allTaDe (allLdDe))))))
set_option maxRecDepth 100000 in
theorem entDe_ok : EntOk Tryz.prog entsC := entOk_of (n := 307) (by kernel_rfl)
theorem kEaDe : Knows ownC tabEa DDe := knows_of (fun _ _ h => find_left h) (by kernel_rfl)
theorem kEbDe : Knows ownC tabEb DDe := knows_of (fun _ _ h => find_right (by kernel_rfl) (find_left h)) (by kernel_rfl)
theorem kWaDe : Knows ownC tabWa DDe := knows_of (fun _ _ h => find_right (by kernel_rfl) (find_right (by kernel_rfl) (find_left h))) (by kernel_rfl)
theorem kWbDe : Knows ownC tabWb DDe := knows_of (fun _ _ h => find_right (by kernel_rfl) (find_right (by kernel_rfl) (find_right (by kernel_rfl) (find_left h)))) (by kernel_rfl)
theorem kAvDe : Knows ownC tabAv DDe := knows_of (fun _ _ h => find_right (by kernel_rfl) (find_right (by kernel_rfl) (find_right (by kernel_rfl) (find_right (by kernel_rfl) (find_left h))))) (by kernel_rfl)
theorem kTaDe : Knows ownC tabTa DDe := knows_of (fun _ _ h => find_right (by kernel_rfl) (find_right (by kernel_rfl) (find_right (by kernel_rfl) (find_right (by kernel_rfl) (find_right (by kernel_rfl) (find_left h)))))) (by kernel_rfl)
theorem kLdDe : Knows ownC tabLd DDe := knows_of (fun _ _ h => find_right (by kernel_rfl) (find_right (by kernel_rfl) (find_right (by kernel_rfl) (find_right (by kernel_rfl) (find_right (by kernel_rfl) (find_right (by kernel_rfl) (h))))))) (by kernel_rfl)
theorem xAllDe {args : List AV} {bs : List ABlk} {r : AV × List BO} (h : (extD resAll : DF) args bs = some r) : DDe.ask (.fn 91) args bs = some r := star_ext (d := extD resAll) rfl h
theorem xNameDe {args : List AV} {bs : List ABlk} {r : AV × List BO} (h : (extD resName : DF) args bs = some r) : DDe.ask (.fn 109) args bs = some r := star_ext (d := extD resName) rfl h
theorem xNumberDe {args : List AV} {bs : List ABlk} {r : AV × List BO} (h : (extD resNumber : DF) args bs = some r) : DDe.ask (.fn 108) args bs = some r := star_ext (d := extD resNumber) rfl h
theorem xSumTextDe {args : List AV} {bs : List ABlk} {r : AV × List BO} (h : (extD resSumText : DF) args bs = some r) : DDe.ask (.fn 22) args bs = some r := star_ext (d := extD resSumText) rfl h
theorem xTermDe {args : List AV} {bs : List ABlk} {r : AV × List BO} (h : ((Dn realA seatAl 60).ask (.fn 44) : DF) args bs = some r) : DDe.ask (.fn 44) args bs = some r := star_ext (d := (Dn realA seatAl 60).ask (.fn 44)) rfl h
theorem xFormDe {args : List AV} {bs : List ABlk} {r : AV × List BO} (h : ((Dn realA seatAl 60).ask (.fn 27) : DF) args bs = some r) : DDe.ask (.fn 27) args bs = some r := star_ext (d := (Dn realA seatAl 60).ask (.fn 27)) rfl h
theorem xTextDe {args : List AV} {bs : List ABlk} {r : AV × List BO} (h : ((Dn realA seatAl 60).ask (.fn 25) : DF) args bs = some r) : DDe.ask (.fn 25) args bs = some r := star_ext (d := (Dn realA seatAl 60).ask (.fn 25)) rfl h
theorem xCompareTextDe {args : List AV} {bs : List ABlk} {r : AV × List BO} (h : ((Dn realA seatAl 60).ask (.fn 47) : DF) args bs = some r) : DDe.ask (.fn 47) args bs = some r := star_ext (d := (Dn realA seatAl 60).ask (.fn 47)) rfl h
theorem seatDe_ok (hAll : GoodD (SemFn Tryz.prog 91) (extD resAll)) (hName : GoodD (SemFn Tryz.prog 109) (extD resName)) (hNumber : GoodD (SemFn Tryz.prog 108) (extD resNumber)) (hSumText : GoodD (SemFn Tryz.prog 22) (extD resSumText)) (hTerm : GoodD (SemFn Tryz.prog 44) ((Dn realA seatAl 60).ask (.fn 44))) (hForm : GoodD (SemFn Tryz.prog 27) ((Dn realA seatAl 60).ask (.fn 27))) (hText : GoodD (SemFn Tryz.prog 25) ((Dn realA seatAl 60).ask (.fn 25))) (hCompareText : GoodD (SemFn Tryz.prog 47) ((Dn realA seatAl 60).ask (.fn 47))) : SeatOk Tryz.prog entsC seatDe where
 mixed := by kernel_rfl
 ent := entDe_ok
 fns f mf h := allFn_mem allTabsDe f mf (findN_mem h)
 ext f d h := by
  have hm : (f, d) ∈ extsDe := findN_mem h
  unfold extsDe at hm
  simp only [List.mem_cons, Prod.mk.injEq, List.not_mem_nil, or_false] at hm
  rcases hm with ⟨rfl, rfl⟩ | ⟨rfl, rfl⟩ | ⟨rfl, rfl⟩ | ⟨rfl, rfl⟩ | ⟨rfl, rfl⟩ | ⟨rfl, rfl⟩ | ⟨rfl, rfl⟩ | ⟨rfl, rfl⟩
  ·exact hAll
  ·exact hName
  ·exact hNumber
  ·exact hSumText
  ·exact hTerm
  ·exact hForm
  ·exact hText
  ·exact hCompareText
end Go.Proofs.YtlmhajfbpplpoaaGreat
