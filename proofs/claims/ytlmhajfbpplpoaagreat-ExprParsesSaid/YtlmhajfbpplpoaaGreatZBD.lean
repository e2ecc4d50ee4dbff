/-
  A seat of D: tables of functions, and what is told from elsewhere.
-/
import Derived.Test.YtlmhajfbpplpoaaGreatZAS
import Derived.Test.YtlmhajfbpplpoaaGreatZBB
import Derived.Test.YtlmhajfbpplpoaaGreatZAU
import Derived.Test.YtlmhajfbpplpoaaGreatZAV
import Derived.Test.YtlmhajfbpplpoaaGreatZBC
set_option linter.unusedSectionVars false
set_option linter.unusedSimpArgs false
set_option linter.unusedVariables false
namespace Go.Proofs.YtlmhajfbpplpoaaGreat
open Go.RowKit
noncomputable def tabsM : List (Nat × MFn) := tabEa ++ (tabEb ++ (tabSa ++ (tabRa ++ (tabWa ++ (tabWb ++ (tabRb ++ (tabAv ++ (tabLb))))))))
noncomputable def extsM : List (Nat × DF) := [(91, extD resAll), (50, extD resAll), (109, extD resName), (77, extD resName), (22, extD resSumText), (44, (Dn realA seatAl 60).ask (.fn 44)), (27, (Dn realA seatAl 60).ask (.fn 27)), (25, (Dn realA seatAl 60).ask (.fn 25)), (24, (Dn realA seatAl 60).ask (.fn 24)), (23, (Dn realA seatAl 60).ask (.fn 23)), (45, (Dn realA seatAl 60).ask (.fn 45)), (46, (Dn realA seatAl 60).ask (.fn 46)), (47, (Dn realA seatAl 60).ask (.fn 47))]
noncomputable def seatM : Seat := seatD ownC tabsM extsM
noncomputable def DM : Orc := Dstar realA seatM
set_option maxRecDepth 100000 in
theorem allEaM : AllFn Tryz.prog entsC tabEa := ⟨⟨_, _, _, rfl⟩, by kernel_rfl, ⟨_, _, _, rfl⟩, by kernel_rfl, ⟨_, _, _, rfl⟩, by kernel_rfl, ⟨_, _, _, rfl⟩, by kernel_rfl, ⟨_, _, _, rfl⟩, by kernel_rfl, ⟨_, _, _, rfl⟩, by kernel_rfl, ⟨_, _, _, rfl⟩, by kernel_rfl, ⟨_, _, _, rfl⟩, by kernel_rfl, ⟨_, _, _, rfl⟩, by kernel_rfl, ⟨_, _, _, rfl⟩, by kernel_rfl, ⟨_, _, _, rfl⟩, by kernel_rfl, ⟨_, _, _, rfl⟩, by kernel_rfl, trivial⟩
set_option maxRecDepth 100000 in
theorem allEbM : AllFn Tryz.prog entsC tabEb := ⟨⟨_, _, _, rfl⟩, by kernel_rfl, ⟨_, _, _, rfl⟩, by kernel_rfl, ⟨_, _, _, rfl⟩, by kernel_rfl, ⟨_, _, _, rfl⟩, by kernel_rfl, ⟨_, _, _, rfl⟩, by kernel_rfl, ⟨_, _, _, rfl⟩, by kernel_rfl, ⟨_, _, _, rfl⟩, by kernel_rfl, trivial⟩
set_option maxRecDepth 100000 in
theorem allSaM : AllFn Tryz.prog entsC tabSa := ⟨⟨_, _, _, rfl⟩, by kernel_rfl, ⟨_, _, _, rfl⟩, by kernel_rfl, ⟨_, _, _, rfl⟩, by kernel_rfl, trivial⟩
set_option maxRecDepth 100000 in
theorem allRaM : AllFn Tryz.prog entsC tabRa := ⟨⟨_, _, _, rfl⟩, by kernel_rfl, ⟨_, _, _, rfl⟩, by kernel_rfl, ⟨_, _, _, rfl⟩, by kernel_rfl, ⟨_, _, _, rfl⟩, by kernel_rfl, ⟨_, _, _, rfl⟩, by kernel_rfl, ⟨_, _, _, rfl⟩, by kernel_rfl, ⟨_, _, _, rfl⟩, by kernel_rfl, ⟨_, _, _, rfl⟩, by kernel_rfl, ⟨_, _, _, rfl⟩, by kernel_rfl, ⟨_, _, _, rfl⟩, by kernel_rfl, ⟨_, _, _, rfl⟩, by kernel_rfl, ⟨_, _, _, rfl⟩, by kernel_rfl, ⟨_, _, _, rfl⟩, by kernel_rfl, trivial⟩
set_option maxRecDepth 100000 in
theorem allWaM : AllFn Tryz.prog entsC tabWa := ⟨⟨_, _, _, rfl⟩, by kernel_rfl, trivial⟩
set_option maxRecDepth 100000 in
theorem allWbM : AllFn Tryz.prog entsC tabWb := ⟨⟨_, _, _, rfl⟩, by kernel_rfl, ⟨_, _, _, rfl⟩, by kernel_rfl, ⟨_, _, _, rfl⟩, by kernel_rfl, trivial⟩
set_option maxRecDepth 100000 in
theorem allRbM : AllFn Tryz.prog entsC tabRb := ⟨⟨_, _, _, rfl⟩, by kernel_rfl, ⟨_, _, _, rfl⟩, by kernel_rfl, trivial⟩
set_option maxRecDepth 100000 in
theorem allAvM : AllFn Tryz.prog entsC tabAv := ⟨⟨_, _, _, rfl⟩, by kernel_rfl, trivial⟩
set_option maxRecDepth 100000 in
theorem allLbM : AllFn Tryz.prog entsC tabLb := ⟨⟨_, _, _, rfl⟩, by kernel_rfl, trivial⟩
theorem allTabsM : AllFn Tryz.prog entsC tabsM := allFn_app allEaM (allFn_app allEbM (allFn_app allSaM (allFn_app allRaM (allFn_app allWaM (allFn_app allWbM (allFn_app allRbM (allFn_app allAvM (allLbM))))))))
set_option maxRecDepth 100000 in
theorem entM_ok : EntOk Tryz.prog entsC := entOk_of (n := 307) (by kernel_rfl)
theorem kEaM : Knows ownC tabEa DM := knows_of (fun _ _ h => find_left h) (by kernel_rfl)
theorem kEbM : Knows ownC tabEb DM := knows_of (fun _ _ h => find_right (by kernel_rfl) (find_left h)) (by kernel_rfl)
theorem kSaM : Knows ownC tabSa DM := knows_of (fun _ _ h => find_right (by kernel_rfl) (find_right (by kernel_rfl) (find_left h))) (by kernel_rfl)
theorem kRaM : Knows ownC tabRa DM := knows_of (fun _ _ h => find_right (by kernel_rfl) (find_right (by kernel_rfl) (find_right (by kernel_rfl) (find_left h)))) (by kernel_rfl)
theorem kWaM : Knows ownC tabWa DM := knows_of (fun _ _ h => find_right (by kernel_rfl) (find_right (by kernel_rfl) (find_right (by kernel_rfl) (find_right (by kernel_rfl) (find_left h))))) (by kernel_rfl)
theorem kWbM : Knows ownC tabWb DM := knows_of (fun _ _ h => find_right (by kernel_rfl) (find_right (by kernel_rfl) (find_right (by kernel_rfl) (find_right (by kernel_rfl) (find_right (by kernel_rfl) (find_left h)))))) (by kernel_rfl)
theorem kRbM : Knows ownC tabRb DM := knows_of (fun _ _ h => find_right (by kernel_rfl) (find_right (by kernel_rfl) (find_right (by kernel_rfl) (find_right (by kernel_rfl) (find_right (by kernel_rfl) (find_right (by kernel_rfl) (find_left h))))))) (by kernel_rfl)
theorem kAvM : Knows ownC tabAv DM := knows_of (fun _ _ h => find_right (by kernel_rfl) (find_right (by kernel_rfl) (find_right (by kernel_rfl) (find_right (by kernel_rfl) (find_right (by kernel_rfl) (find_right (by kernel_rfl) (find_right (by kernel_rfl) (find_left h)))))))) (by kernel_rfl)
theorem kLbM : Knows ownC tabLb DM := knows_of (fun _ _ h => find_right (by kernel_rfl) (find_right (by kernel_rfl) (find_right (by kernel_rfl) (find_right (by kernel_rfl) (find_right (by kernel_rfl) (find_right (by kernel_rfl) (find_right (by kernel_rfl) (find_right (by kernel_rfl) (h))))))))) (by kernel_rfl)
theorem xAllM {args : List AV} {bs : List ABlk} {r : AV × List BO} (h : (extD resAll : DF) args bs = some r) : DM.ask (.fn 91) args bs = some r := star_ext (d := extD resAll) rfl h
theorem xRAllM {args : List AV} {bs : List ABlk} {r : AV × List BO} (h : (extD resAll : DF) args bs = some r) : DM.ask (.fn 50) args bs = some r := star_ext (d := extD resAll) rfl h
theorem xNameM {args : List AV} {bs : List ABlk} {r : AV × List BO} (h : (extD resName : DF) args bs = some r) : DM.ask (.fn 109) args bs = some r := star_ext (d := extD resName) rfl h
theorem xRNameM {args : List AV} {bs : List ABlk} {r : AV × List BO} (h : (extD resName : DF) args bs = some r) : DM.ask (.fn 77) args bs = some r := star_ext (d := extD resName) rfl h
theorem xSumTextM {args : List AV} {bs : List ABlk} {r : AV × List BO} (h : (extD resSumText : DF) args bs = some r) : DM.ask (.fn 22) args bs = some r := star_ext (d := extD resSumText) rfl h
theorem xTermM {args : List AV} {bs : List ABlk} {r : AV × List BO} (h : ((Dn realA seatAl 60).ask (.fn 44) : DF) args bs = some r) : DM.ask (.fn 44) args bs = some r := star_ext (d := (Dn realA seatAl 60).ask (.fn 44)) rfl h
theorem xFormM {args : List AV} {bs : List ABlk} {r : AV × List BO} (h : ((Dn realA seatAl 60).ask (.fn 27) : DF) args bs = some r) : DM.ask (.fn 27) args bs = some r := star_ext (d := (Dn realA seatAl 60).ask (.fn 27)) rfl h
theorem xTextM {args : List AV} {bs : List ABlk} {r : AV × List BO} (h : ((Dn realA seatAl 60).ask (.fn 25) : DF) args bs = some r) : DM.ask (.fn 25) args bs = some r := star_ext (d := (Dn realA seatAl 60).ask (.fn 25)) rfl h
theorem xRightM {args : List AV} {bs : List ABlk} {r : AV × List BO} (h : ((Dn realA seatAl 60).ask (.fn 24) : DF) args bs = some r) : DM.ask (.fn 24) args bs = some r := star_ext (d := (Dn realA seatAl 60).ask (.fn 24)) rfl h
theorem xRightSumM {args : List AV} {bs : List ABlk} {r : AV × List BO} (h : ((Dn realA seatAl 60).ask (.fn 23) : DF) args bs = some r) : DM.ask (.fn 23) args bs = some r := star_ext (d := (Dn realA seatAl 60).ask (.fn 23)) rfl h
theorem xBareM {args : List AV} {bs : List ABlk} {r : AV × List BO} (h : ((Dn realA seatAl 60).ask (.fn 45) : DF) args bs = some r) : DM.ask (.fn 45) args bs = some r := star_ext (d := (Dn realA seatAl 60).ask (.fn 45)) rfl h
theorem xComparesM {args : List AV} {bs : List ABlk} {r : AV × List BO} (h : ((Dn realA seatAl 60).ask (.fn 46) : DF) args bs = some r) : DM.ask (.fn 46) args bs = some r := star_ext (d := (Dn realA seatAl 60).ask (.fn 46)) rfl h
theorem xCompareTextM {args : List AV} {bs : List ABlk} {r : AV × List BO} (h : ((Dn realA seatAl 60).ask (.fn 47) : DF) args bs = some r) : DM.ask (.fn 47) args bs = some r := star_ext (d := (Dn realA seatAl 60).ask (.fn 47)) rfl h
theorem seatM_ok (hAll : GoodD (SemFn Tryz.prog 91) (extD resAll)) (hRAll : GoodD (SemFn Tryz.prog 50) (extD resAll)) (hName : GoodD (SemFn Tryz.prog 109) (extD resName)) (hRName : GoodD (SemFn Tryz.prog 77) (extD resName)) (hSumText : GoodD (SemFn Tryz.prog 22) (extD resSumText)) (hTerm : GoodD (SemFn Tryz.prog 44) ((Dn realA seatAl 60).ask (.fn 44))) (hForm : GoodD (SemFn Tryz.prog 27) ((Dn realA seatAl 60).ask (.fn 27))) (hText : GoodD (SemFn Tryz.prog 25) ((Dn realA seatAl 60).ask (.fn 25))) (hRight : GoodD (SemFn Tryz.prog 24) ((Dn realA seatAl 60).ask (.fn 24))) (hRightSum : GoodD (SemFn Tryz.prog 23) ((Dn realA seatAl 60).ask (.fn 23))) (hBare : GoodD (SemFn Tryz.prog 45) ((Dn realA seatAl 60).ask (.fn 45))) (hCompares : GoodD (SemFn Tryz.prog 46) ((Dn realA seatAl 60).ask (.fn 46))) (hCompareText : GoodD (SemFn Tryz.prog 47) ((Dn realA seatAl 60).ask (.fn 47))) : SeatOk Tryz.prog entsC seatM where
 mixed := by kernel_rfl
 ent := entM_ok
 fns f mf h := allFn_mem allTabsM f mf (findN_mem h)
 ext f d h := by
  have hm : (f, d) ∈ extsM := findN_mem h
  unfold extsM at hm
  simp only [List.mem_cons, Prod.mk.injEq, List.not_mem_nil, or_false] at hm
  rcases hm with ⟨rfl, rfl⟩ | ⟨rfl, rfl⟩ | ⟨rfl, rfl⟩ | ⟨rfl, rfl⟩ | ⟨rfl, rfl⟩ | ⟨rfl, rfl⟩ | ⟨rfl, rfl⟩ | ⟨rfl, rfl⟩ | ⟨rfl, rfl⟩ | ⟨rfl, rfl⟩ | ⟨rfl, rfl⟩ | ⟨rfl, rfl⟩ | ⟨rfl, rfl⟩
  ·exact hAll
  ·exact hRAll
  ·exact hName
  ·exact hRName
  ·exact hSumText
  ·exact hTerm
  ·exact hForm
  ·exact hText
  ·exact hRight
  ·exact hRightSum
  ·exact hBare
  ·exact hCompares
  ·exact hCompareText
end Go.Proofs.YtlmhajfbpplpoaaGreat
