/-
  A seat of D: tables of functions, and what is told from elsewhere.
-/
import Derived.Test.YtpncilciembjdaaGreatDoorTAO
import Derived.Test.YtpncilciembjdaaGreatDoorTBF
import Derived.Test.YtpncilciembjdaaGreatDoorTAS
set_option linter.unusedSectionVars false
set_option linter.unusedSimpArgs false
set_option linter.unusedVariables false
namespace Go.Proofs.YtpncilciembjdaaGreatDoor
open Go.RowKit
noncomputable def tabsDy:List (Nat × MFn):=tabNa++(tabZi++(tabSo++(tabTe++(tabTf++(tabHv++(tabRd++(tabFw++(tabRh++(tabLr2)))))))))
noncomputable def extsDy:List (Nat × DF):=[(236,ownD 1 (resClone 1 4)),(135,ownD 3 (resClone 3 40)),(262,ownD 3 (resGrow 40)),(15,(Dstar realA seatSy).ask (.fn 15))]
noncomputable def seatDy:Seat:=seatD ownC tabsDy extsDy
noncomputable def DDy:Orc:=Dstar realA seatDy
set_option maxRecDepth 100000 in
theorem allNaDy:AllFn Tryz.prog entsC tabNa:=⟨⟨_,_,_,rfl⟩,by kernel_rfl,⟨_,_,_,rfl⟩,by kernel_rfl,⟨_,_,_,rfl⟩,by kernel_rfl,⟨_,_,_,rfl⟩,by kernel_rfl,⟨_,_,_,rfl⟩,by kernel_rfl,⟨_,_,_,rfl⟩,by kernel_rfl,⟨_,_,_,rfl⟩,by kernel_rfl,⟨_,_,_,rfl⟩,by kernel_rfl,trivial⟩
set_option maxRecDepth 100000 in
theorem allZiDy:AllFn Tryz.prog entsC tabZi:=⟨⟨_,_,_,rfl⟩,by kernel_rfl,⟨_,_,_,rfl⟩,by kernel_rfl,⟨_,_,_,rfl⟩,by kernel_rfl,⟨_,_,_,rfl⟩,by kernel_rfl,⟨_,_,_,rfl⟩,by kernel_rfl,⟨_,_,_,rfl⟩,by kernel_rfl,⟨_,_,_,rfl⟩,by kernel_rfl,⟨_,_,_,rfl⟩,by kernel_rfl,trivial⟩
set_option maxRecDepth 100000 in
theorem allSoDy:AllFn Tryz.prog entsC tabSo:=⟨⟨_,_,_,rfl⟩,by kernel_rfl,⟨_,_,_,rfl⟩,by kernel_rfl,⟨_,_,_,rfl⟩,by kernel_rfl,⟨_,_,_,rfl⟩,by kernel_rfl,⟨_,_,_,rfl⟩,by kernel_rfl,⟨_,_,_,rfl⟩,by kernel_rfl,⟨_,_,_,rfl⟩,by kernel_rfl,⟨_,_,_,rfl⟩,by kernel_rfl,⟨_,_,_,rfl⟩,by kernel_rfl,⟨_,_,_,rfl⟩,by kernel_rfl,⟨_,_,_,rfl⟩,by kernel_rfl,⟨_,_,_,rfl⟩,by kernel_rfl,trivial⟩
set_option maxRecDepth 100000 in
theorem allTeDy:AllFn Tryz.prog entsC tabTe:=⟨⟨_,_,_,rfl⟩,by kernel_rfl,⟨_,_,_,rfl⟩,by kernel_rfl,trivial⟩
set_option maxRecDepth 100000 in
theorem allTfDy:AllFn Tryz.prog entsC tabTf:=⟨⟨_,_,_,rfl⟩,by kernel_rfl,⟨_,_,_,rfl⟩,by kernel_rfl,⟨_,_,_,rfl⟩,by kernel_rfl,⟨_,_,_,rfl⟩,by kernel_rfl,⟨_,_,_,rfl⟩,by kernel_rfl,⟨_,_,_,rfl⟩,by kernel_rfl,⟨_,_,_,rfl⟩,by kernel_rfl,⟨_,_,_,rfl⟩,by kernel_rfl,trivial⟩
set_option maxRecDepth 100000 in
theorem allHvDy:AllFn Tryz.prog entsC tabHv:=⟨⟨_,_,_,rfl⟩,by kernel_rfl,⟨_,_,_,rfl⟩,by kernel_rfl,trivial⟩
set_option maxRecDepth 100000 in
theorem allRdDy:AllFn Tryz.prog entsC tabRd:=⟨⟨_,_,_,rfl⟩,by kernel_rfl,⟨_,_,_,rfl⟩,by kernel_rfl,trivial⟩
set_option maxRecDepth 100000 in
theorem allFwDy:AllFn Tryz.prog entsC tabFw:=⟨⟨_,_,_,rfl⟩,by kernel_rfl,trivial⟩
set_option maxRecDepth 100000 in
theorem allRhDy:AllFn Tryz.prog entsC tabRh:=⟨⟨_,_,_,rfl⟩,by kernel_rfl,⟨_,_,_,rfl⟩,by kernel_rfl,⟨_,_,_,rfl⟩,by kernel_rfl,⟨_,_,_,rfl⟩,by kernel_rfl,⟨_,_,_,rfl⟩,by kernel_rfl,trivial⟩
set_option maxRecDepth 100000 in
theorem allLr2Dy:AllFn Tryz.prog entsC tabLr2:=⟨⟨_,_,_,rfl⟩,by kernel_rfl,trivial⟩
theorem allTabsDy:AllFn Tryz.prog entsC tabsDy:=allFn_app allNaDy (allFn_app allZiDy (allFn_app allSoDy (allFn_app allTeDy (allFn_app allTfDy (allFn_app allHvDy (allFn_app allRdDy (allFn_app allFwDy (allFn_app allRhDy (allLr2Dy)))))))))
set_option maxRecDepth 100000 in
theorem entDy_ok:EntOk Tryz.prog entsC:=entOk_of (n:=310) (by kernel_rfl)
theorem kNaDy:Knows ownC tabNa DDy:=knows_of (fun _ _ h=>find_left h) (by kernel_rfl)
theorem kZiDy:Knows ownC tabZi DDy:=knows_of (fun _ _ h=>find_right (by kernel_rfl) (find_left h)) (by kernel_rfl)
theorem kSoDy:Knows ownC tabSo DDy:=knows_of (fun _ _ h=>find_right (by kernel_rfl) (find_right (by kernel_rfl) (find_left h))) (by kernel_rfl)
theorem kTeDy:Knows ownC tabTe DDy:=knows_of (fun _ _ h=>find_right (by kernel_rfl) (find_right (by kernel_rfl) (find_right (by kernel_rfl) (find_left h)))) (by kernel_rfl)
theorem kTfDy:Knows ownC tabTf DDy:=knows_of (fun _ _ h=>find_right (by kernel_rfl) (find_right (by kernel_rfl) (find_right (by kernel_rfl) (find_right (by kernel_rfl) (find_left h))))) (by kernel_rfl)
theorem kHvDy:Knows ownC tabHv DDy:=knows_of (fun _ _ h=>find_right (by kernel_rfl) (find_right (by kernel_rfl) (find_right (by kernel_rfl) (find_right (by kernel_rfl) (find_right (by kernel_rfl) (find_left h)))))) (by kernel_rfl)
theorem kRdDy:Knows ownC tabRd DDy:=knows_of (fun _ _ h=>find_right (by kernel_rfl) (find_right (by kernel_rfl) (find_right (by kernel_rfl) (find_right (by kernel_rfl) (find_right (by kernel_rfl) (find_right (by kernel_rfl) (find_left h))))))) (by kernel_rfl)
theorem kFwDy:Knows ownC tabFw DDy:=knows_of (fun _ _ h=>find_right (by kernel_rfl) (find_right (by kernel_rfl) (find_right (by kernel_rfl) (find_right (by kernel_rfl) (find_right (by kernel_rfl) (find_right (by kernel_rfl) (find_right (by kernel_rfl) (find_left h)))))))) (by kernel_rfl)
theorem kRhDy:Knows ownC tabRh DDy:=knows_of (fun _ _ h=>find_right (by kernel_rfl) (find_right (by kernel_rfl) (find_right (by kernel_rfl) (find_right (by kernel_rfl) (find_right (by kernel_rfl) (find_right (by kernel_rfl) (find_right (by kernel_rfl) (find_right (by kernel_rfl) (find_left h))))))))) (by kernel_rfl)
theorem kLr2Dy:Knows ownC tabLr2 DDy:=knows_of (fun _ _ h=>find_right (by kernel_rfl) (find_right (by kernel_rfl) (find_right (by kernel_rfl) (find_right (by kernel_rfl) (find_right (by kernel_rfl) (find_right (by kernel_rfl) (find_right (by kernel_rfl) (find_right (by kernel_rfl) (find_right (by kernel_rfl) (h)))))))))) (by kernel_rfl)
theorem xCloneNDy{args:List AV}{bs:List ABlk}{r:AV × List BO}(h:(ownD 1 (resClone 1 4):DF) args bs=some r):DDy.ask (.fn 236) args bs=some r:=star_ext (d:=ownD 1 (resClone 1 4)) rfl h
theorem xClonePDy{args:List AV}{bs:List ABlk}{r:AV × List BO}(h:(ownD 3 (resClone 3 40):DF) args bs=some r):DDy.ask (.fn 135) args bs=some r:=star_ext (d:=ownD 3 (resClone 3 40)) rfl h
theorem xGrowPDy{args:List AV}{bs:List ABlk}{r:AV × List BO}(h:(ownD 3 (resGrow 40):DF) args bs=some r):DDy.ask (.fn 262) args bs=some r:=star_ext (d:=ownD 3 (resGrow 40)) rfl h
theorem xSayDy{args:List AV}{bs:List ABlk}{r:AV × List BO}(h:((Dstar realA seatSy).ask (.fn 15):DF) args bs=some r):DDy.ask (.fn 15) args bs=some r:=star_ext (d:=(Dstar realA seatSy).ask (.fn 15)) rfl h
theorem seatDy_ok(hCloneN:GoodD (SemFn Tryz.prog 236) (ownD 1 (resClone 1 4)))(hCloneP:GoodD (SemFn Tryz.prog 135) (ownD 3 (resClone 3 40)))(hGrowP:GoodD (SemFn Tryz.prog 262) (ownD 3 (resGrow 40)))(hSay:GoodD (SemFn Tryz.prog 15) ((Dstar realA seatSy).ask (.fn 15))):SeatOk Tryz.prog entsC seatDy where
 mixed:=by kernel_rfl
 ent:=entDy_ok
 fns f mf h:=allFn_mem allTabsDy f mf (findN_mem h)
 ext f d h:=by
  have hm:(f,d)∈extsDy:=findN_mem h
  unfold extsDy at hm
  simp only[List.mem_cons,Prod.mk.injEq,List.not_mem_nil,or_false]at hm
  rcases hm with⟨rfl,rfl⟩|⟨rfl,rfl⟩|⟨rfl,rfl⟩|⟨rfl,rfl⟩
  .exact hCloneN
  .exact hCloneP
  .exact hGrowP
  .exact hSay
end Go.Proofs.YtpncilciembjdaaGreatDoor
