/-
  A seat of D: tables of functions, and what is told from elsewhere.
-/
import Derived.Test.YtpncilciembjdaaGreatDoorRAO
import Derived.Test.YtpncilciembjdaaGreatDoorRBF
set_option linter.unusedSectionVars false
set_option linter.unusedSimpArgs false
set_option linter.unusedVariables false
namespace Go.Proofs.YtpncilciembjdaaGreatDoor
open Go.RowKit
noncomputable def tabsHv:List (Nat × MFn):=tabNa++(tabZi++(tabTe++(tabHv++(tabFw++(tabRn++(tabRz++(tabRh++(tabLr1))))))))
noncomputable def extsHv:List (Nat × DF):=[(236,ownD 1 (resClone 1 4)),(135,ownD 3 (resClone 3 40)),(262,ownD 3 (resGrow 40)),(15,(Dstar realA seatSy).ask (.fn 15))]
noncomputable def seatHv:Seat:=seatD ownC tabsHv extsHv
noncomputable def DHv:Orc:=Dstar realA seatHv
set_option maxRecDepth 100000 in
theorem allNaHv:AllFn Tryz.prog entsC tabNa:=⟨⟨_,_,_,rfl⟩,by kernel_rfl,⟨_,_,_,rfl⟩,by kernel_rfl,⟨_,_,_,rfl⟩,by kernel_rfl,⟨_,_,_,rfl⟩,by kernel_rfl,⟨_,_,_,rfl⟩,by kernel_rfl,⟨_,_,_,rfl⟩,by kernel_rfl,⟨_,_,_,rfl⟩,by kernel_rfl,⟨_,_,_,rfl⟩,by kernel_rfl,trivial⟩
set_option maxRecDepth 100000 in
theorem allZiHv:AllFn Tryz.prog entsC tabZi:=⟨⟨_,_,_,rfl⟩,by kernel_rfl,⟨_,_,_,rfl⟩,by kernel_rfl,⟨_,_,_,rfl⟩,by kernel_rfl,⟨_,_,_,rfl⟩,by kernel_rfl,⟨_,_,_,rfl⟩,by kernel_rfl,⟨_,_,_,rfl⟩,by kernel_rfl,⟨_,_,_,rfl⟩,by kernel_rfl,⟨_,_,_,rfl⟩,by kernel_rfl,trivial⟩
set_option maxRecDepth 100000 in
theorem allTeHv:AllFn Tryz.prog entsC tabTe:=⟨⟨_,_,_,rfl⟩,by kernel_rfl,⟨_,_,_,rfl⟩,by kernel_rfl,trivial⟩
set_option maxRecDepth 100000 in
theorem allHvHv:AllFn Tryz.prog entsC tabHv:=⟨⟨_,_,_,rfl⟩,by kernel_rfl,⟨_,_,_,rfl⟩,by kernel_rfl,trivial⟩
set_option maxRecDepth 100000 in
theorem allFwHv:AllFn Tryz.prog entsC tabFw:=⟨⟨_,_,_,rfl⟩,by kernel_rfl,trivial⟩
set_option maxRecDepth 100000 in
theorem allRnHv:AllFn Tryz.prog entsC tabRn:=⟨⟨_,_,_,rfl⟩,by kernel_rfl,⟨_,_,_,rfl⟩,by kernel_rfl,⟨_,_,_,rfl⟩,by kernel_rfl,⟨_,_,_,rfl⟩,by kernel_rfl,⟨_,_,_,rfl⟩,by kernel_rfl,⟨_,_,_,rfl⟩,by kernel_rfl,⟨_,_,_,rfl⟩,by kernel_rfl,⟨_,_,_,rfl⟩,by kernel_rfl,⟨_,_,_,rfl⟩,by kernel_rfl,trivial⟩
set_option maxRecDepth 100000 in
theorem allRzHv:AllFn Tryz.prog entsC tabRz:=⟨⟨_,_,_,rfl⟩,by kernel_rfl,⟨_,_,_,rfl⟩,by kernel_rfl,⟨_,_,_,rfl⟩,by kernel_rfl,⟨_,_,_,rfl⟩,by kernel_rfl,⟨_,_,_,rfl⟩,by kernel_rfl,⟨_,_,_,rfl⟩,by kernel_rfl,⟨_,_,_,rfl⟩,by kernel_rfl,⟨_,_,_,rfl⟩,by kernel_rfl,⟨_,_,_,rfl⟩,by kernel_rfl,⟨_,_,_,rfl⟩,by kernel_rfl,trivial⟩
set_option maxRecDepth 100000 in
theorem allRhHv:AllFn Tryz.prog entsC tabRh:=⟨⟨_,_,_,rfl⟩,by kernel_rfl,⟨_,_,_,rfl⟩,by kernel_rfl,⟨_,_,_,rfl⟩,by kernel_rfl,⟨_,_,_,rfl⟩,by kernel_rfl,⟨_,_,_,rfl⟩,by kernel_rfl,trivial⟩
set_option maxRecDepth 100000 in
theorem allLr1Hv:AllFn Tryz.prog entsC tabLr1:=⟨⟨_,_,_,rfl⟩,by kernel_rfl,trivial⟩
theorem allTabsHv:AllFn Tryz.prog entsC tabsHv:=allFn_app allNaHv (allFn_app allZiHv (allFn_app allTeHv (allFn_app allHvHv (allFn_app allFwHv (allFn_app allRnHv (allFn_app allRzHv (allFn_app allRhHv (allLr1Hv))))))))
set_option maxRecDepth 100000 in
theorem entHv_ok:EntOk Tryz.prog entsC:=entOk_of (n:=310) (by kernel_rfl)
theorem kNaHv:Knows ownC tabNa DHv:=knows_of (fun _ _ h=>find_left h) (by kernel_rfl)
theorem kZiHv:Knows ownC tabZi DHv:=knows_of (fun _ _ h=>find_right (by kernel_rfl) (find_left h)) (by kernel_rfl)
theorem kTeHv:Knows ownC tabTe DHv:=knows_of (fun _ _ h=>find_right (by kernel_rfl) (find_right (by kernel_rfl) (find_left h))) (by kernel_rfl)
theorem kHvHv:Knows ownC tabHv DHv:=knows_of (fun _ _ h=>find_right (by kernel_rfl) (find_right (by kernel_rfl) (find_right (by kernel_rfl) (find_left h)))) (by kernel_rfl)
theorem kFwHv:Knows ownC tabFw DHv:=knows_of (fun _ _ h=>find_right (by kernel_rfl) (find_right (by kernel_rfl) (find_right (by kernel_rfl) (find_right (by kernel_rfl) (find_left h))))) (by kernel_rfl)
theorem kRnHv:Knows ownC tabRn DHv:=knows_of (fun _ _ h=>find_right (by kernel_rfl) (find_right (by kernel_rfl) (find_right (by kernel_rfl) (find_right (by kernel_rfl) (find_right (by kernel_rfl) (find_left h)))))) (by kernel_rfl)
theorem kRzHv:Knows ownC tabRz DHv:=knows_of (fun _ _ h=>find_right (by kernel_rfl) (find_right (by kernel_rfl) (find_right (by kernel_rfl) (find_right (by kernel_rfl) (find_right (by kernel_rfl) (find_right (by kernel_rfl) (find_left h))))))) (by kernel_rfl)
theorem kRhHv:Knows ownC tabRh DHv:=knows_of (fun _ _ h=>find_right (by kernel_rfl) (find_right (by kernel_rfl) (find_right (by kernel_rfl) (find_right (by kernel_rfl) (find_right (by kernel_rfl) (find_right (by kernel_rfl) (find_right (by kernel_rfl) (find_left h)))))))) (by kernel_rfl)
theorem kLr1Hv:Knows ownC tabLr1 DHv:=knows_of (fun _ _ h=>find_right (by kernel_rfl) (find_right (by kernel_rfl) (find_right (by kernel_rfl) (find_right (by kernel_rfl) (find_right (by kernel_rfl) (find_right (by kernel_rfl) (find_right (by kernel_rfl) (find_right (by kernel_rfl) (h))))))))) (by kernel_rfl)
theorem xCloneNHv{args:List AV}{bs:List ABlk}{r:AV × List BO}(h:(ownD 1 (resClone 1 4):DF) args bs=some r):DHv.ask (.fn 236) args bs=some r:=star_ext (d:=ownD 1 (resClone 1 4)) rfl h
theorem xSayHv{args:List AV}{bs:List ABlk}{r:AV × List BO}(h:((Dstar realA seatSy).ask (.fn 15):DF) args bs=some r):DHv.ask (.fn 15) args bs=some r:=star_ext (d:=(Dstar realA seatSy).ask (.fn 15)) rfl h
theorem seatHv_ok(hCloneN:GoodD (SemFn Tryz.prog 236) (ownD 1 (resClone 1 4)))(hCloneP:GoodD (SemFn Tryz.prog 135) (ownD 3 (resClone 3 40)))(hGrowP:GoodD (SemFn Tryz.prog 262) (ownD 3 (resGrow 40)))(hSay:GoodD (SemFn Tryz.prog 15) ((Dstar realA seatSy).ask (.fn 15))):SeatOk Tryz.prog entsC seatHv where
 mixed:=by kernel_rfl
 ent:=entHv_ok
 fns f mf h:=allFn_mem allTabsHv f mf (findN_mem h)
 ext f d h:=by
  have hm:(f,d)∈extsHv:=findN_mem h
  unfold extsHv at hm
  simp only[List.mem_cons,Prod.mk.injEq,List.not_mem_nil,or_false]at hm
  rcases hm with⟨rfl,rfl⟩|⟨rfl,rfl⟩|⟨rfl,rfl⟩|⟨rfl,rfl⟩
  .exact hCloneN
  .exact hCloneP
  .exact hGrowP
  .exact hSay
end Go.Proofs.YtpncilciembjdaaGreatDoor
