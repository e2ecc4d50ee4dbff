/-
  A seat of D: tables of functions, and what is told from elsewhere.
-/
import Derived.Test.YtpncilciembjdaaGreatDoorAAO
import Derived.Test.YtpncilciembjdaaGreatDoorABR
set_option linter.unusedSectionVars false
set_option linter.unusedSimpArgs false
set_option linter.unusedVariables false
namespace Go.Proofs.YtpncilciembjdaaGreatDoor
open Go.RowKit
noncomputable def tabsL5:List (Nat × MFn):=tabNa++(tabZi++(tabTe++(tabHv++(tabFw++(tabRn++(tabRz++(tabRh++(tabRk++(tabFz++(tabLw++(tabL51)))))))))))
noncomputable def extsL5:List (Nat × DF):=[(236,ownD 1 (resClone 1 4)),(135,ownD 3 (resClone 3 40)),(262,ownD 3 (resGrow 40)),(34,(Dstar realA seatSv).ask (.fn 34))]
noncomputable def seatL5:Seat:=seatD ownC tabsL5 extsL5
noncomputable def DL5:Orc:=Dstar realA seatL5
set_option maxRecDepth 100000 in
theorem allNaL5:AllFn Tryz.prog entsC tabNa:=⟨⟨_,_,_,rfl⟩,by kernel_rfl,⟨_,_,_,rfl⟩,by kernel_rfl,⟨_,_,_,rfl⟩,by kernel_rfl,⟨_,_,_,rfl⟩,by kernel_rfl,⟨_,_,_,rfl⟩,by kernel_rfl,⟨_,_,_,rfl⟩,by kernel_rfl,⟨_,_,_,rfl⟩,by kernel_rfl,⟨_,_,_,rfl⟩,by kernel_rfl,trivial⟩
set_option maxRecDepth 100000 in
theorem allZiL5:AllFn Tryz.prog entsC tabZi:=⟨⟨_,_,_,rfl⟩,by kernel_rfl,⟨_,_,_,rfl⟩,by kernel_rfl,⟨_,_,_,rfl⟩,by kernel_rfl,⟨_,_,_,rfl⟩,by kernel_rfl,⟨_,_,_,rfl⟩,by kernel_rfl,⟨_,_,_,rfl⟩,by kernel_rfl,⟨_,_,_,rfl⟩,by kernel_rfl,⟨_,_,_,rfl⟩,by kernel_rfl,trivial⟩
set_option maxRecDepth 100000 in
theorem allTeL5:AllFn Tryz.prog entsC tabTe:=⟨⟨_,_,_,rfl⟩,by kernel_rfl,⟨_,_,_,rfl⟩,by kernel_rfl,trivial⟩
set_option maxRecDepth 100000 in
theorem allHvL5:AllFn Tryz.prog entsC tabHv:=⟨⟨_,_,_,rfl⟩,by kernel_rfl,⟨_,_,_,rfl⟩,by kernel_rfl,trivial⟩
set_option maxRecDepth 100000 in
theorem allFwL5:AllFn Tryz.prog entsC tabFw:=⟨⟨_,_,_,rfl⟩,by kernel_rfl,trivial⟩
set_option maxRecDepth 100000 in
theorem allRnL5:AllFn Tryz.prog entsC tabRn:=⟨⟨_,_,_,rfl⟩,by kernel_rfl,⟨_,_,_,rfl⟩,by kernel_rfl,⟨_,_,_,rfl⟩,by kernel_rfl,⟨_,_,_,rfl⟩,by kernel_rfl,⟨_,_,_,rfl⟩,by kernel_rfl,⟨_,_,_,rfl⟩,by kernel_rfl,⟨_,_,_,rfl⟩,by kernel_rfl,⟨_,_,_,rfl⟩,by kernel_rfl,⟨_,_,_,rfl⟩,by kernel_rfl,trivial⟩
set_option maxRecDepth 100000 in
theorem allRzL5:AllFn Tryz.prog entsC tabRz:=⟨⟨_,_,_,rfl⟩,by kernel_rfl,⟨_,_,_,rfl⟩,by kernel_rfl,⟨_,_,_,rfl⟩,by kernel_rfl,⟨_,_,_,rfl⟩,by kernel_rfl,⟨_,_,_,rfl⟩,by kernel_rfl,⟨_,_,_,rfl⟩,by kernel_rfl,⟨_,_,_,rfl⟩,by kernel_rfl,⟨_,_,_,rfl⟩,by kernel_rfl,⟨_,_,_,rfl⟩,by kernel_rfl,⟨_,_,_,rfl⟩,by kernel_rfl,trivial⟩
set_option maxRecDepth 100000 in
theorem allRhL5:AllFn Tryz.prog entsC tabRh:=⟨⟨_,_,_,rfl⟩,by kernel_rfl,⟨_,_,_,rfl⟩,by kernel_rfl,⟨_,_,_,rfl⟩,by kernel_rfl,⟨_,_,_,rfl⟩,by kernel_rfl,⟨_,_,_,rfl⟩,by kernel_rfl,trivial⟩
set_option maxRecDepth 100000 in
theorem allRkL5:AllFn Tryz.prog entsC tabRk:=⟨⟨_,_,_,rfl⟩,by kernel_rfl,trivial⟩
set_option maxRecDepth 100000 in
theorem allFzL5:AllFn Tryz.prog entsC tabFz:=⟨⟨_,_,_,rfl⟩,by kernel_rfl,⟨_,_,_,rfl⟩,by kernel_rfl,⟨_,_,_,rfl⟩,by kernel_rfl,trivial⟩
set_option maxRecDepth 100000 in
theorem allLwL5:AllFn Tryz.prog entsC tabLw:=⟨⟨_,_,_,rfl⟩,by kernel_rfl,⟨_,_,_,rfl⟩,by kernel_rfl,⟨_,_,_,rfl⟩,by kernel_rfl,⟨_,_,_,rfl⟩,by kernel_rfl,⟨_,_,_,rfl⟩,by kernel_rfl,trivial⟩
set_option maxRecDepth 100000 in
theorem allL51L5:AllFn Tryz.prog entsC tabL51:=⟨⟨_,_,_,rfl⟩,by kernel_rfl,trivial⟩
theorem allTabsL5:AllFn Tryz.prog entsC tabsL5:=allFn_app allNaL5 (allFn_app allZiL5 (allFn_app allTeL5 (allFn_app allHvL5 (allFn_app allFwL5 (allFn_app allRnL5 (allFn_app allRzL5 (allFn_app allRhL5 (allFn_app allRkL5 (allFn_app allFzL5 (allFn_app allLwL5 (allL51L5)))))))))))
set_option maxRecDepth 100000 in
theorem entL5_ok:EntOk Tryz.prog entsC:=entOk_of (n:=310) (by kernel_rfl)
theorem kNaL5:Knows ownC tabNa DL5:=knows_of (fun _ _ h=>find_left h) (by kernel_rfl)
theorem kZiL5:Knows ownC tabZi DL5:=knows_of (fun _ _ h=>find_right (by kernel_rfl) (find_left h)) (by kernel_rfl)
theorem kTeL5:Knows ownC tabTe DL5:=knows_of (fun _ _ h=>find_right (by kernel_rfl) (find_right (by kernel_rfl) (find_left h))) (by kernel_rfl)
theorem kHvL5:Knows ownC tabHv DL5:=knows_of (fun _ _ h=>find_right (by kernel_rfl) (find_right (by kernel_rfl) (find_right (by kernel_rfl) (find_left h)))) (by kernel_rfl)
theorem kFwL5:Knows ownC tabFw DL5:=knows_of (fun _ _ h=>find_right (by kernel_rfl) (find_right (by kernel_rfl) (find_right (by kernel_rfl) (find_right (by kernel_rfl) (find_left h))))) (by kernel_rfl)
theorem kRnL5:Knows ownC tabRn DL5:=knows_of (fun _ _ h=>find_right (by kernel_rfl) (find_right (by kernel_rfl) (find_right (by kernel_rfl) (find_right (by kernel_rfl) (find_right (by kernel_rfl) (find_left h)))))) (by kernel_rfl)
theorem kRzL5:Knows ownC tabRz DL5:=knows_of (fun _ _ h=>find_right (by kernel_rfl) (find_right (by kernel_rfl) (find_right (by kernel_rfl) (find_right (by kernel_rfl) (find_right (by kernel_rfl) (find_right (by kernel_rfl) (find_left h))))))) (by kernel_rfl)
theorem kRhL5:Knows ownC tabRh DL5:=knows_of (fun _ _ h=>find_right (by kernel_rfl) (find_right (by kernel_rfl) (find_right (by kernel_rfl) (find_right (by kernel_rfl) (find_right (by kernel_rfl) (find_right (by kernel_rfl) (find_right (by kernel_rfl) (find_left h)))))))) (by kernel_rfl)
theorem kRkL5:Knows ownC tabRk DL5:=knows_of (fun _ _ h=>find_right (by kernel_rfl) (find_right (by kernel_rfl) (find_right (by kernel_rfl) (find_right (by kernel_rfl) (find_right (by kernel_rfl) (find_right (by kernel_rfl) (find_right (by kernel_rfl) (find_right (by kernel_rfl) (find_left h))))))))) (by kernel_rfl)
theorem kFzL5:Knows ownC tabFz DL5:=knows_of (fun _ _ h=>find_right (by kernel_rfl) (find_right (by kernel_rfl) (find_right (by kernel_rfl) (find_right (by kernel_rfl) (find_right (by kernel_rfl) (find_right (by kernel_rfl) (find_right (by kernel_rfl) (find_right (by kernel_rfl) (find_right (by kernel_rfl) (find_left h)))))))))) (by kernel_rfl)
theorem kLwL5:Knows ownC tabLw DL5:=knows_of (fun _ _ h=>find_right (by kernel_rfl) (find_right (by kernel_rfl) (find_right (by kernel_rfl) (find_right (by kernel_rfl) (find_right (by kernel_rfl) (find_right (by kernel_rfl) (find_right (by kernel_rfl) (find_right (by kernel_rfl) (find_right (by kernel_rfl) (find_right (by kernel_rfl) (find_left h))))))))))) (by kernel_rfl)
theorem kL51L5:Knows ownC tabL51 DL5:=knows_of (fun _ _ h=>find_right (by kernel_rfl) (find_right (by kernel_rfl) (find_right (by kernel_rfl) (find_right (by kernel_rfl) (find_right (by kernel_rfl) (find_right (by kernel_rfl) (find_right (by kernel_rfl) (find_right (by kernel_rfl) (find_right (by kernel_rfl) (find_right (by kernel_rfl) (find_right (by kernel_rfl) (h)))))))))))) (by kernel_rfl)
theorem xCloneNL5{args:List AV}{bs:List ABlk}{r:AV × List BO}(h:(ownD 1 (resClone 1 4):DF) args bs=some r):DL5.ask (.fn 236) args bs=some r:=star_ext (d:=ownD 1 (resClone 1 4)) rfl h
theorem xLiveL5{args:List AV}{bs:List ABlk}{r:AV × List BO}(h:((Dstar realA seatSv).ask (.fn 34):DF) args bs=some r):DL5.ask (.fn 34) args bs=some r:=star_ext (d:=(Dstar realA seatSv).ask (.fn 34)) rfl h
theorem seatL5_ok(hCloneN:GoodD (SemFn Tryz.prog 236) (ownD 1 (resClone 1 4)))(hCloneP:GoodD (SemFn Tryz.prog 135) (ownD 3 (resClone 3 40)))(hGrowP:GoodD (SemFn Tryz.prog 262) (ownD 3 (resGrow 40)))(hLive:GoodD (SemFn Tryz.prog 34) ((Dstar realA seatSv).ask (.fn 34))):SeatOk Tryz.prog entsC seatL5 where
 mixed:=by kernel_rfl
 ent:=entL5_ok
 fns f mf h:=allFn_mem allTabsL5 f mf (findN_mem h)
 ext f d h:=by
  have hm:(f,d)∈extsL5:=findN_mem h
  unfold extsL5 at hm
  simp only[List.mem_cons,Prod.mk.injEq,List.not_mem_nil,or_false]at hm
  rcases hm with⟨rfl,rfl⟩|⟨rfl,rfl⟩|⟨rfl,rfl⟩|⟨rfl,rfl⟩
  .exact hCloneN
  .exact hCloneP
  .exact hGrowP
  .exact hLive
end Go.Proofs.YtpncilciembjdaaGreatDoor
