/-
  A seat of D: tables of functions, and what is told from elsewhere.
-/
import Derived.Test.YtlmhajfbpplpoaaGreatUAS
import Derived.Test.YtlmhajfbpplpoaaGreatUBA
import Derived.Test.YtlmhajfbpplpoaaGreatUAU
import Derived.Test.YtlmhajfbpplpoaaGreatUAV
import Derived.Test.YtlmhajfbpplpoaaGreatUBB
import Derived.Test.YtlmhajfbpplpoaaGreatUBC
set_option linter.unusedSectionVars false
set_option linter.unusedSimpArgs false
set_option linter.unusedVariables false
namespace Go.Proofs.YtlmhajfbpplpoaaGreat
open Go.RowKit
noncomputable def tabsLp4:List (Nat × MFn):=tabEa++(tabEb++(tabSa++(tabRa++(tabWa++(tabTa++(tabTl++(tabTq++(tabTr++(tabRl++(tabAv4++(tabLp4)))))))))))
noncomputable def extsLp4:List (Nat × DF):=[(91,extD resAll),(50,extD resAll),(109,extD resName),(77,extD resName),(108,extD resNumber),(22,extD resSumText),(34,(Dn realA seatAm 60).ask (.fn 34)),(38,(Dn realA seatAm 60).ask (.fn 38))]
noncomputable def seatLp4:Seat:=seatD ownC tabsLp4 extsLp4
noncomputable def DLp4:Orc:=Dstar realA seatLp4
set_option maxRecDepth 100000 in
theorem allEaLp4:AllFn Tryz.prog entsC tabEa:=⟨⟨_,_,_,rfl⟩,by kernel_rfl,⟨_,_,_,rfl⟩,by kernel_rfl,⟨_,_,_,rfl⟩,by kernel_rfl,⟨_,_,_,rfl⟩,by kernel_rfl,⟨_,_,_,rfl⟩,by kernel_rfl,⟨_,_,_,rfl⟩,by kernel_rfl,⟨_,_,_,rfl⟩,by kernel_rfl,⟨_,_,_,rfl⟩,by kernel_rfl,⟨_,_,_,rfl⟩,by kernel_rfl,⟨_,_,_,rfl⟩,by kernel_rfl,⟨_,_,_,rfl⟩,by kernel_rfl,⟨_,_,_,rfl⟩,by kernel_rfl,trivial⟩
set_option maxRecDepth 100000 in
theorem allEbLp4:AllFn Tryz.prog entsC tabEb:=⟨⟨_,_,_,rfl⟩,by kernel_rfl,⟨_,_,_,rfl⟩,by kernel_rfl,⟨_,_,_,rfl⟩,by kernel_rfl,⟨_,_,_,rfl⟩,by kernel_rfl,⟨_,_,_,rfl⟩,by kernel_rfl,⟨_,_,_,rfl⟩,by kernel_rfl,⟨_,_,_,rfl⟩,by kernel_rfl,trivial⟩
set_option maxRecDepth 100000 in
theorem allSaLp4:AllFn Tryz.prog entsC tabSa:=⟨⟨_,_,_,rfl⟩,by kernel_rfl,⟨_,_,_,rfl⟩,by kernel_rfl,⟨_,_,_,rfl⟩,by kernel_rfl,trivial⟩
set_option maxRecDepth 100000 in
theorem allRaLp4:AllFn Tryz.prog entsC tabRa:=⟨⟨_,_,_,rfl⟩,by kernel_rfl,⟨_,_,_,rfl⟩,by kernel_rfl,⟨_,_,_,rfl⟩,by kernel_rfl,⟨_,_,_,rfl⟩,by kernel_rfl,⟨_,_,_,rfl⟩,by kernel_rfl,⟨_,_,_,rfl⟩,by kernel_rfl,⟨_,_,_,rfl⟩,by kernel_rfl,⟨_,_,_,rfl⟩,by kernel_rfl,⟨_,_,_,rfl⟩,by kernel_rfl,⟨_,_,_,rfl⟩,by kernel_rfl,⟨_,_,_,rfl⟩,by kernel_rfl,⟨_,_,_,rfl⟩,by kernel_rfl,⟨_,_,_,rfl⟩,by kernel_rfl,trivial⟩
set_option maxRecDepth 100000 in
theorem allWaLp4:AllFn Tryz.prog entsC tabWa:=⟨⟨_,_,_,rfl⟩,by kernel_rfl,trivial⟩
set_option maxRecDepth 100000 in
theorem allTaLp4:AllFn Tryz.prog entsC tabTa:=⟨⟨_,_,_,rfl⟩,by kernel_rfl,⟨_,_,_,rfl⟩,by kernel_rfl,⟨_,_,_,rfl⟩,by kernel_rfl,⟨_,_,_,rfl⟩,by kernel_rfl,⟨_,_,_,rfl⟩,by kernel_rfl,⟨_,_,_,rfl⟩,by kernel_rfl,⟨_,_,_,rfl⟩,by kernel_rfl,⟨_,_,_,rfl⟩,by kernel_rfl,⟨_,_,_,rfl⟩,by kernel_rfl,⟨_,_,_,rfl⟩,by kernel_rfl,⟨_,_,_,rfl⟩,by kernel_rfl,⟨_,_,_,rfl⟩,by kernel_rfl,trivial⟩
set_option maxRecDepth 100000 in
theorem allTlLp4:AllFn Tryz.prog entsC tabTl:=⟨⟨_,_,_,rfl⟩,by kernel_rfl,⟨_,_,_,rfl⟩,by kernel_rfl,⟨_,_,_,rfl⟩,by kernel_rfl,⟨_,_,_,rfl⟩,by kernel_rfl,⟨_,_,_,rfl⟩,by kernel_rfl,⟨_,_,_,rfl⟩,by kernel_rfl,trivial⟩
set_option maxRecDepth 100000 in
theorem allTqLp4:AllFn Tryz.prog entsC tabTq:=⟨⟨_,_,_,rfl⟩,by kernel_rfl,⟨_,_,_,rfl⟩,by kernel_rfl,⟨_,_,_,rfl⟩,by kernel_rfl,⟨_,_,_,rfl⟩,by kernel_rfl,⟨_,_,_,rfl⟩,by kernel_rfl,⟨_,_,_,rfl⟩,by kernel_rfl,⟨_,_,_,rfl⟩,by kernel_rfl,⟨_,_,_,rfl⟩,by kernel_rfl,⟨_,_,_,rfl⟩,by kernel_rfl,⟨_,_,_,rfl⟩,by kernel_rfl,⟨_,_,_,rfl⟩,by kernel_rfl,⟨_,_,_,rfl⟩,by kernel_rfl,trivial⟩
set_option maxRecDepth 100000 in
theorem allTrLp4:AllFn Tryz.prog entsC tabTr:=⟨⟨_,_,_,rfl⟩,by kernel_rfl,⟨_,_,_,rfl⟩,by kernel_rfl,trivial⟩
set_option maxRecDepth 100000 in
theorem allRlLp4:AllFn Tryz.prog entsC tabRl:=⟨⟨_,_,_,rfl⟩,by kernel_rfl,⟨_,_,_,rfl⟩,by kernel_rfl,⟨_,_,_,rfl⟩,by kernel_rfl,⟨_,_,_,rfl⟩,by kernel_rfl,⟨_,_,_,rfl⟩,by kernel_rfl,⟨_,_,_,rfl⟩,by kernel_rfl,⟨_,_,_,rfl⟩,by kernel_rfl,⟨_,_,_,rfl⟩,by kernel_rfl,⟨_,_,_,rfl⟩,by kernel_rfl,⟨_,_,_,rfl⟩,by kernel_rfl,trivial⟩
set_option maxRecDepth 100000 in
theorem allAv4Lp4:AllFn Tryz.prog entsC tabAv4:=⟨⟨_,_,_,rfl⟩,by kernel_rfl,⟨_,_,_,rfl⟩,by kernel_rfl,⟨_,_,_,rfl⟩,by kernel_rfl,trivial⟩
set_option maxRecDepth 100000 in
theorem allLp4Lp4:AllFn Tryz.prog entsC tabLp4:=⟨⟨_,_,_,rfl⟩,by kernel_rfl,trivial⟩
theorem allTabsLp4:AllFn Tryz.prog entsC tabsLp4:=allFn_app allEaLp4 (allFn_app allEbLp4 (allFn_app allSaLp4 (allFn_app allRaLp4 (allFn_app allWaLp4 (allFn_app allTaLp4 (allFn_app allTlLp4 (allFn_app allTqLp4 (allFn_app allTrLp4 (allFn_app allRlLp4 (allFn_app allAv4Lp4 (allLp4Lp4)))))))))))
set_option maxRecDepth 100000 in
theorem entLp4_ok:EntOk Tryz.prog entsC:=entOk_of (n:=307) (by kernel_rfl)
theorem kEaLp4:Knows ownC tabEa DLp4:=knows_of (fun _ _ h=>find_left h) (by kernel_rfl)
theorem kEbLp4:Knows ownC tabEb DLp4:=knows_of (fun _ _ h=>find_right (by kernel_rfl) (find_left h)) (by kernel_rfl)
theorem kSaLp4:Knows ownC tabSa DLp4:=knows_of (fun _ _ h=>find_right (by kernel_rfl) (find_right (by kernel_rfl) (find_left h))) (by kernel_rfl)
theorem kRaLp4:Knows ownC tabRa DLp4:=knows_of (fun _ _ h=>find_right (by kernel_rfl) (find_right (by kernel_rfl) (find_right (by kernel_rfl) (find_left h)))) (by kernel_rfl)
theorem kWaLp4:Knows ownC tabWa DLp4:=knows_of (fun _ _ h=>find_right (by kernel_rfl) (find_right (by kernel_rfl) (find_right (by kernel_rfl) (find_right (by kernel_rfl) (find_left h))))) (by kernel_rfl)
theorem kTaLp4:Knows ownC tabTa DLp4:=knows_of (fun _ _ h=>find_right (by kernel_rfl) (find_right (by kernel_rfl) (find_right (by kernel_rfl) (find_right (by kernel_rfl) (find_right (by kernel_rfl) (find_left h)))))) (by kernel_rfl)
theorem kTlLp4:Knows ownC tabTl DLp4:=knows_of (fun _ _ h=>find_right (by kernel_rfl) (find_right (by kernel_rfl) (find_right (by kernel_rfl) (find_right (by kernel_rfl) (find_right (by kernel_rfl) (find_right (by kernel_rfl) (find_left h))))))) (by kernel_rfl)
theorem kTqLp4:Knows ownC tabTq DLp4:=knows_of (fun _ _ h=>find_right (by kernel_rfl) (find_right (by kernel_rfl) (find_right (by kernel_rfl) (find_right (by kernel_rfl) (find_right (by kernel_rfl) (find_right (by kernel_rfl) (find_right (by kernel_rfl) (find_left h)))))))) (by kernel_rfl)
theorem kTrLp4:Knows ownC tabTr DLp4:=knows_of (fun _ _ h=>find_right (by kernel_rfl) (find_right (by kernel_rfl) (find_right (by kernel_rfl) (find_right (by kernel_rfl) (find_right (by kernel_rfl) (find_right (by kernel_rfl) (find_right (by kernel_rfl) (find_right (by kernel_rfl) (find_left h))))))))) (by kernel_rfl)
theorem kRlLp4:Knows ownC tabRl DLp4:=knows_of (fun _ _ h=>find_right (by kernel_rfl) (find_right (by kernel_rfl) (find_right (by kernel_rfl) (find_right (by kernel_rfl) (find_right (by kernel_rfl) (find_right (by kernel_rfl) (find_right (by kernel_rfl) (find_right (by kernel_rfl) (find_right (by kernel_rfl) (find_left h)))))))))) (by kernel_rfl)
theorem kAv4Lp4:Knows ownC tabAv4 DLp4:=knows_of (fun _ _ h=>find_right (by kernel_rfl) (find_right (by kernel_rfl) (find_right (by kernel_rfl) (find_right (by kernel_rfl) (find_right (by kernel_rfl) (find_right (by kernel_rfl) (find_right (by kernel_rfl) (find_right (by kernel_rfl) (find_right (by kernel_rfl) (find_right (by kernel_rfl) (find_left h))))))))))) (by kernel_rfl)
theorem kLp4Lp4:Knows ownC tabLp4 DLp4:=knows_of (fun _ _ h=>find_right (by kernel_rfl) (find_right (by kernel_rfl) (find_right (by kernel_rfl) (find_right (by kernel_rfl) (find_right (by kernel_rfl) (find_right (by kernel_rfl) (find_right (by kernel_rfl) (find_right (by kernel_rfl) (find_right (by kernel_rfl) (find_right (by kernel_rfl) (find_right (by kernel_rfl) (h)))))))))))) (by kernel_rfl)
theorem xAllLp4{args:List AV}{bs:List ABlk}{r:AV × List BO}(h:(extD resAll:DF) args bs=some r):DLp4.ask (.fn 91) args bs=some r:=star_ext (d:=extD resAll) rfl h
theorem xRAllLp4{args:List AV}{bs:List ABlk}{r:AV × List BO}(h:(extD resAll:DF) args bs=some r):DLp4.ask (.fn 50) args bs=some r:=star_ext (d:=extD resAll) rfl h
theorem xNameLp4{args:List AV}{bs:List ABlk}{r:AV × List BO}(h:(extD resName:DF) args bs=some r):DLp4.ask (.fn 109) args bs=some r:=star_ext (d:=extD resName) rfl h
theorem xRNameLp4{args:List AV}{bs:List ABlk}{r:AV × List BO}(h:(extD resName:DF) args bs=some r):DLp4.ask (.fn 77) args bs=some r:=star_ext (d:=extD resName) rfl h
theorem xNumberLp4{args:List AV}{bs:List ABlk}{r:AV × List BO}(h:(extD resNumber:DF) args bs=some r):DLp4.ask (.fn 108) args bs=some r:=star_ext (d:=extD resNumber) rfl h
theorem xResolveLp4{args:List AV}{bs:List ABlk}{r:AV × List BO}(h:((Dn realA seatAm 60).ask (.fn 34):DF) args bs=some r):DLp4.ask (.fn 34) args bs=some r:=star_ext (d:=(Dn realA seatAm 60).ask (.fn 34)) rfl h
theorem xTextLp4{args:List AV}{bs:List ABlk}{r:AV × List BO}(h:((Dn realA seatAm 60).ask (.fn 38):DF) args bs=some r):DLp4.ask (.fn 38) args bs=some r:=star_ext (d:=(Dn realA seatAm 60).ask (.fn 38)) rfl h
theorem seatLp4_ok(hAll:GoodD (SemFn Tryz.prog 91) (extD resAll))(hRAll:GoodD (SemFn Tryz.prog 50) (extD resAll))(hName:GoodD (SemFn Tryz.prog 109) (extD resName))(hRName:GoodD (SemFn Tryz.prog 77) (extD resName))(hNumber:GoodD (SemFn Tryz.prog 108) (extD resNumber))(hSumText:GoodD (SemFn Tryz.prog 22) (extD resSumText))(hResolve:GoodD (SemFn Tryz.prog 34) ((Dn realA seatAm 60).ask (.fn 34)))(hText:GoodD (SemFn Tryz.prog 38) ((Dn realA seatAm 60).ask (.fn 38))):SeatOk Tryz.prog entsC seatLp4 where
 mixed:=by kernel_rfl
 ent:=entLp4_ok
 fns f mf h:=allFn_mem allTabsLp4 f mf (findN_mem h)
 ext f d h:=by
  have hm:(f,d)∈extsLp4:=findN_mem h
  unfold extsLp4 at hm
  simp only[List.mem_cons,Prod.mk.injEq,List.not_mem_nil,or_false]at hm
  rcases hm with⟨rfl,rfl⟩|⟨rfl,rfl⟩|⟨rfl,rfl⟩|⟨rfl,rfl⟩|⟨rfl,rfl⟩|⟨rfl,rfl⟩|⟨rfl,rfl⟩|⟨rfl,rfl⟩
  .exact hAll
  .exact hRAll
  .exact hName
  .exact hRName
  .exact hNumber
  .exact hSumText
  .exact hResolve
  .exact hText
end Go.Proofs.YtlmhajfbpplpoaaGreat
