/-
  A seat of D: tables of functions, and what is told from elsewhere.
-/
import Derived.Test.YtpncilciembjdaaGreatDoorAAO
import Derived.Test.YtpncilciembjdaaGreatDoorABD
import Derived.Test.YtpncilciembjdaaGreatDoorABF
set_option linter.unusedSectionVars false
set_option linter.unusedSimpArgs false
set_option linter.unusedVariables false
namespace Go.Proofs.YtpncilciembjdaaGreatDoor
open Go.RowKit
noncomputable def tabsAx:List (Nat × MFn):=tabAx
noncomputable def extsAx:List (Nat × DF):=[(236,ownD 1 (resClone 1 4)),(135,ownD 3 (resClone 3 40)),(262,ownD 3 (resGrow 40))]
noncomputable def seatAx:Seat:=seatD ownAx tabsAx extsAx
set_option maxRecDepth 100000 in
theorem allAxAx:AllFn Tryz.prog entsC tabAx:=⟨⟨_,_,_,rfl⟩,by kernel_rfl,⟨_,_,_,rfl⟩,by kernel_rfl,⟨_,_,_,rfl⟩,by kernel_rfl,⟨_,_,_,rfl⟩,by kernel_rfl,⟨_,_,_,rfl⟩,by kernel_rfl,⟨_,_,_,rfl⟩,by kernel_rfl,⟨_,_,_,rfl⟩,by kernel_rfl,⟨_,_,_,rfl⟩,by kernel_rfl,⟨_,_,_,rfl⟩,by kernel_rfl,⟨_,_,_,rfl⟩,by kernel_rfl,⟨_,_,_,rfl⟩,by kernel_rfl,⟨_,_,_,rfl⟩,by kernel_rfl,⟨_,_,_,rfl⟩,by kernel_rfl,⟨_,_,_,rfl⟩,by kernel_rfl,⟨_,_,_,rfl⟩,by kernel_rfl,⟨_,_,_,rfl⟩,by kernel_rfl,⟨_,_,_,rfl⟩,by kernel_rfl,⟨_,_,_,rfl⟩,by kernel_rfl,⟨_,_,_,rfl⟩,by kernel_rfl,⟨_,_,_,rfl⟩,by kernel_rfl,⟨_,_,_,rfl⟩,by kernel_rfl,⟨_,_,_,rfl⟩,by kernel_rfl,⟨_,_,_,rfl⟩,by kernel_rfl,⟨_,_,_,rfl⟩,by kernel_rfl,⟨_,_,_,rfl⟩,by kernel_rfl,⟨_,_,_,rfl⟩,by kernel_rfl,⟨_,_,_,rfl⟩,by kernel_rfl,⟨_,_,_,rfl⟩,by kernel_rfl,⟨_,_,_,rfl⟩,by kernel_rfl,⟨_,_,_,rfl⟩,by kernel_rfl,⟨_,_,_,rfl⟩,by kernel_rfl,⟨_,_,_,rfl⟩,by kernel_rfl,⟨_,_,_,rfl⟩,by kernel_rfl,⟨_,_,_,rfl⟩,by kernel_rfl,⟨_,_,_,rfl⟩,by kernel_rfl,⟨_,_,_,rfl⟩,by kernel_rfl,⟨_,_,_,rfl⟩,by kernel_rfl,⟨_,_,_,rfl⟩,by kernel_rfl,⟨_,_,_,rfl⟩,by kernel_rfl,⟨_,_,_,rfl⟩,by kernel_rfl,⟨_,_,_,rfl⟩,by kernel_rfl,⟨_,_,_,rfl⟩,by kernel_rfl,⟨_,_,_,rfl⟩,by kernel_rfl,⟨_,_,_,rfl⟩,by kernel_rfl,⟨_,_,_,rfl⟩,by kernel_rfl,⟨_,_,_,rfl⟩,by kernel_rfl,trivial⟩
theorem allTabsAx:AllFn Tryz.prog entsC tabsAx:=allAxAx
set_option maxRecDepth 100000 in
theorem entAx_ok:EntOk Tryz.prog entsC:=entOk_of (n:=310) (by kernel_rfl)
theorem seatAx_ok(hCloneN:GoodD (SemFn Tryz.prog 236) (ownD 1 (resClone 1 4)))(hCloneP:GoodD (SemFn Tryz.prog 135) (ownD 3 (resClone 3 40)))(hGrowP:GoodD (SemFn Tryz.prog 262) (ownD 3 (resGrow 40))):SeatOk Tryz.prog entsC seatAx where
 mixed:=by kernel_rfl
 ent:=entAx_ok
 fns f mf h:=allFn_mem allTabsAx f mf (findN_mem h)
 ext f d h:=by
  have hm:(f,d)∈extsAx:=findN_mem h
  unfold extsAx at hm
  simp only[List.mem_cons,Prod.mk.injEq,List.not_mem_nil,or_false]at hm
  rcases hm with⟨rfl,rfl⟩|⟨rfl,rfl⟩|⟨rfl,rfl⟩
  .exact hCloneN
  .exact hCloneP
  .exact hGrowP
end Go.Proofs.YtpncilciembjdaaGreatDoor
