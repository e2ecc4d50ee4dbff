/-
  A seat of D: tables of functions, and what is told from elsewhere.
-/
import Derived.Test.YtlmhajfbpplpoaaGreatVAS
import Derived.Test.YtlmhajfbpplpoaaGreatVAZ
import Derived.Test.YtlmhajfbpplpoaaGreatVAU
import Derived.Test.YtlmhajfbpplpoaaGreatVBA
set_option linter.unusedSectionVars false
set_option linter.unusedSimpArgs false
set_option linter.unusedVariables false
namespace Go.Proofs.YtlmhajfbpplpoaaGreat
open Go.RowKit
noncomputable def tabsLd4 : List (Nat × MFn) := tabEa ++ (tabEb ++ (tabWa ++ (tabTa ++ (tabTl ++ (tabTq ++ (tabTr ++ (tabAv4 ++ (tabLe4))))))))
noncomputable def extsLd4 : List (Nat × DF) := [(91, extD resAll), (109, extD resName), (108, extD resNumber), (22, extD resSumText), (34, (Dn realA seatAm 60).ask (.fn 34)), (38, (Dn realA seatAm 60).ask (.fn 38))]
noncomputable def seatLd4 : Seat := seatD ownC tabsLd4 extsLd4
noncomputable def DLd4 : Orc := Dstar realA seatLd4
set_option maxRecDepth 100000 in
theorem allEaLd4 : AllFn Tryz.prog entsC tabEa := ⟨⟨_, _, _, rfl⟩, by kernel_rfl, ⟨_, _, _, rfl⟩, by kernel_rfl, ⟨_, _, _, rfl⟩, by kernel_rfl, ⟨_, _, _, rfl⟩, by kernel_rfl, ⟨_, _, _, rfl⟩, by kernel_rfl, ⟨_, _, _, rfl⟩, by kernel_rfl, ⟨_, _, _, rfl⟩, by kernel_rfl, ⟨_, _, _, rfl⟩, by kernel_rfl, ⟨_, _, _, rfl⟩, by kernel_rfl, ⟨_, _, _, rfl⟩, by kernel_rfl, ⟨_, _, _, rfl⟩, by kernel_rfl, ⟨_, _, _, rfl⟩, by kernel_rfl, trivial⟩
set_option maxRecDepth 100000 in
theorem allEbLd4 : AllFn Tryz.prog entsC tabEb := ⟨⟨_, _, _, rfl⟩, by kernel_rfl, ⟨_, _, _, rfl⟩, by kernel_rfl, ⟨_, _, _, rfl⟩, by kernel_rfl, ⟨_, _, _, rfl⟩, by kernel_rfl, ⟨_, _, _, rfl⟩, by kernel_rfl, ⟨_, _, _, rfl⟩, by kernel_rfl, ⟨_, _, _, rfl⟩, by kernel_rfl, trivial⟩
set_option maxRecDepth 100000 in
theorem allWaLd4 : AllFn Tryz.prog entsC tabWa := ⟨⟨_, _, _, rfl⟩, by kernel_rfl, trivial⟩
set_option maxRecDepth 100000 in
theorem allTaLd4 : AllFn Tryz.prog entsC tabTa := ⟨⟨_, _, _, rfl⟩, by kernel_rfl, ⟨_, _, _, rfl⟩, by kernel_rfl, ⟨_, _, _, rfl⟩, by kernel_rfl, ⟨_, _, _, rfl⟩, by kernel_rfl, ⟨_, _, _, rfl⟩, by kernel_rfl, ⟨_, _, _, rfl⟩, by kernel_rfl, ⟨_, _, _, rfl⟩, by kernel_rfl, ⟨_, _, _, rfl⟩, by kernel_rfl, ⟨_, _, _, rfl⟩, by kernel_rfl, ⟨_, _, _, rfl⟩, by kernel_rfl, ⟨_, _, _, rfl⟩, by kernel_rfl, ⟨_, _, _, rfl⟩, by kernel_rfl, trivial⟩
set_option maxRecDepth 100000 in
theorem allTlLd4 : AllFn Tryz.prog entsC tabTl := ⟨⟨_, _, _, rfl⟩, by kernel_rfl, ⟨_, _, _, rfl⟩, by kernel_rfl, ⟨_, _, _, rfl⟩, by kernel_rfl, ⟨_, _, _, rfl⟩, by kernel_rfl, ⟨_, _, _, rfl⟩, by kernel_rfl, ⟨_, _, _, rfl⟩, by kernel_rfl, trivial⟩
set_option maxRecDepth 100000 in
theorem allTqLd4 : AllFn Tryz.prog entsC tabTq := ⟨⟨_, _, _, rfl⟩, by kernel_rfl, ⟨_, _, _, rfl⟩, by kernel_rfl, ⟨_, _, _, rfl⟩, by kernel_rfl, ⟨_, _, _, rfl⟩, by kernel_rfl, ⟨_, _, _, rfl⟩, by kernel_rfl, ⟨_, _, _, rfl⟩, by kernel_rfl, ⟨_, _, _, rfl⟩, by kernel_rfl, ⟨_, _, _, rfl⟩, by kernel_rfl, ⟨_, _, _, rfl⟩, by kernel_rfl, ⟨_, _, _, rfl⟩, by kernel_rfl, ⟨_, _, _, rfl⟩, by kernel_rfl, ⟨_, _, _, rfl⟩, by kernel_rfl, trivial⟩
set_option maxRecDepth 100000 in
theorem allTrLd4 : AllFn Tryz.prog entsC tabTr := ⟨⟨_, _, _, rfl⟩, by kernel_rfl, ⟨_, _, _, rfl⟩, by kernel_rfl, trivial⟩
set_option maxRecDepth 100000 in
theorem allAv4Ld4 : AllFn Tryz.prog entsC tabAv4 := ⟨⟨_, _, _, rfl⟩, by kernel_rfl, ⟨_, _, _, rfl⟩, by kernel_rfl, ⟨_, _, _, rfl⟩, by kernel_rfl, trivial⟩
set_option maxRecDepth 100000 in
theorem allLe4Ld4 : AllFn Tryz.prog entsC tabLe4 := ⟨⟨_, _, _, rfl⟩, by kernel_rfl, trivial⟩
theorem allTabsLd4 : AllFn Tryz.prog entsC tabsLd4 := allFn_app allEaLd4 (allFn_app allEbLd4 (allFn_app allWaLd4 (allFn_app allTaLd4 (allFn_app allTlLd4 (allFn_app allTqLd4 (allFn_app allTrLd4 (allFn_app allAv4Ld4 (allLe4Ld4))))))))
set_option maxRecDepth 100000 in
theorem entLd4_ok : EntOk Tryz.prog entsC := entOk_of (n := 307) (by kernel_rfl)
theorem kEaLd4 : Knows ownC tabEa DLd4 := knows_of (fun _ _ h => find_left h) (by kernel_rfl)
theorem kEbLd4 : Knows ownC tabEb DLd4 := knows_of (fun _ _ h => find_right (by kernel_rfl) (find_left h)) (by kernel_rfl)
theorem kWaLd4 : Knows ownC tabWa DLd4 := knows_of (fun _ _ h => find_right (by kernel_rfl) (find_right (by kernel_rfl) (find_left h))) (by kernel_rfl)
theorem kTaLd4 : Knows ownC tabTa DLd4 := knows_of (fun _ _ h => find_right (by kernel_rfl) (find_right (by kernel_rfl) (find_right (by kernel_rfl) (find_left h)))) (by kernel_rfl)
theorem kTlLd4 : Knows ownC tabTl DLd4 := knows_of (fun _ _ h => find_right (by kernel_rfl) (find_right (by kernel_rfl) (find_right (by kernel_rfl) (find_right (by kernel_rfl) (find_left h))))) (by kernel_rfl)
theorem kTqLd4 : Knows ownC tabTq DLd4 := knows_of (fun _ _ h => find_right (by kernel_rfl) (find_right (by kernel_rfl) (find_right (by kernel_rfl) (find_right (by kernel_rfl) (find_right (by kernel_rfl) (find_left h)))))) (by kernel_rfl)
theorem kTrLd4 : Knows ownC tabTr DLd4 := knows_of (fun _ _ h => find_right (by kernel_rfl) (find_right (by kernel_rfl) (find_right (by kernel_rfl) (find_right (by kernel_rfl) (find_right (by kernel_rfl) (find_right (by kernel_rfl) (find_left h))))))) (by kernel_rfl)
theorem kAv4Ld4 : Knows ownC tabAv4 DLd4 := knows_of (fun _ _ h => find_right (by kernel_rfl) (find_right (by kernel_rfl) (find_right (by kernel_rfl) (find_right (by kernel_rfl) (find_right (by kernel_rfl) (find_right (by kernel_rfl) (find_right (by kernel_rfl) (find_left h)))))))) (by kernel_rfl)
theorem kLe4Ld4 : Knows ownC tabLe4 DLd4 := knows_of (fun _ _ h => find_right (by kernel_rfl) (find_right (by kernel_rfl) (find_right (by kernel_rfl) (find_right (by kernel_rfl) (find_right (by kernel_rfl) (find_right (by kernel_rfl) (find_right (by kernel_rfl) (find_right (by kernel_rfl) (h))))))))) (by kernel_rfl)
theorem xAllLd4 {args : List AV} {bs : List ABlk} {r : AV × List BO} (h : (extD resAll : DF) args bs = some r) : DLd4.ask (.fn 91) args bs = some r := star_ext (d := extD resAll) rfl h
theorem xNameLd4 {args : List AV} {bs : List ABlk} {r : AV × List BO} (h : (extD resName : DF) args bs = some r) : DLd4.ask (.fn 109) args bs = some r := star_ext (d := extD resName) rfl h
theorem xNumberLd4 {args : List AV} {bs : List ABlk} {r : AV × List BO} (h : (extD resNumber : DF) args bs = some r) : DLd4.ask (.fn 108) args bs = some r := star_ext (d := extD resNumber) rfl h
theorem xResolveLd4 {args : List AV} {bs : List ABlk} {r : AV × List BO} (h : ((Dn realA seatAm 60).ask (.fn 34) : DF) args bs = some r) : DLd4.ask (.fn 34) args bs = some r := star_ext (d := (Dn realA seatAm 60).ask (.fn 34)) rfl h
theorem xTextLd4 {args : List AV} {bs : List ABlk} {r : AV × List BO} (h : ((Dn realA seatAm 60).ask (.fn 38) : DF) args bs = some r) : DLd4.ask (.fn 38) args bs = some r := star_ext (d := (Dn realA seatAm 60).ask (.fn 38)) rfl h
theorem seatLd4_ok (hAll : GoodD (SemFn Tryz.prog 91) (extD resAll)) (hName : GoodD (SemFn Tryz.prog 109) (extD resName)) (hNumber : GoodD (SemFn Tryz.prog 108) (extD resNumber)) (hSumText : GoodD (SemFn Tryz.prog 22) (extD resSumText)) (hResolve : GoodD (SemFn Tryz.prog 34) ((Dn realA seatAm 60).ask (.fn 34))) (hText : GoodD (SemFn Tryz.prog 38) ((Dn realA seatAm 60).ask (.fn 38))) : SeatOk Tryz.prog entsC seatLd4 where
 mixed := by kernel_rfl
 ent := entLd4_ok
 fns f mf h := allFn_mem allTabsLd4 f mf (findN_mem h)
 ext f d h := by
  have hm : (f, d) ∈ extsLd4 := findN_mem h
  unfold extsLd4 at hm
  simp only [List.mem_cons, Prod.mk.injEq, List.not_mem_nil, or_false] at hm
  rcases hm with ⟨rfl, rfl⟩ | ⟨rfl, rfl⟩ | ⟨rfl, rfl⟩ | ⟨rfl, rfl⟩ | ⟨rfl, rfl⟩ | ⟨rfl, rfl⟩
  ·exact hAll
  ·exact hName
  ·exact hNumber
  ·exact hSumText
  ·exact hResolve
  ·exact hText
end Go.Proofs.YtlmhajfbpplpoaaGreat
