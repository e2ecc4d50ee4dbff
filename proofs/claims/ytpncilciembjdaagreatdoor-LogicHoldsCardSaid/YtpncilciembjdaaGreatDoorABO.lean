/-
  A seat of D: tables of functions, and what is told from elsewhere.
-/
import Derived.Test.YtpncilciembjdaaGreatDoorAAO
import Derived.Test.YtpncilciembjdaaGreatDoorABN
set_option linter.unusedSectionVars false
set_option linter.unusedSimpArgs false
set_option linter.unusedVariables false
namespace Go.Proofs.YtpncilciembjdaaGreatDoor
open Go.RowKit
noncomputable def tabsBu:List (Nat × MFn):=tabBu
noncomputable def extsBu:List (Nat × DF):=[(17,extD (lookT tTight)),(23,extD (lookT tDeny)),(33,extD (lookT tTidy)),(261,ownD 4 (resGrow 64))]
noncomputable def seatBu:Seat:=seatD ownBu tabsBu extsBu
set_option maxRecDepth 100000 in
theorem allBuBu:AllFn Tryz.prog entsC tabBu:=⟨⟨_,_,_,rfl⟩,by kernel_rfl,⟨_,_,_,rfl⟩,by kernel_rfl,⟨_,_,_,rfl⟩,by kernel_rfl,⟨_,_,_,rfl⟩,by kernel_rfl,⟨_,_,_,rfl⟩,by kernel_rfl,⟨_,_,_,rfl⟩,by kernel_rfl,⟨_,_,_,rfl⟩,by kernel_rfl,⟨_,_,_,rfl⟩,by kernel_rfl,⟨_,_,_,rfl⟩,by kernel_rfl,⟨_,_,_,rfl⟩,by kernel_rfl,⟨_,_,_,rfl⟩,by kernel_rfl,trivial⟩
theorem allTabsBu:AllFn Tryz.prog entsC tabsBu:=allBuBu
set_option maxRecDepth 100000 in
theorem entBu_ok:EntOk Tryz.prog entsC:=entOk_of (n:=310) (by kernel_rfl)
theorem seatBu_ok(hTight:GoodD (SemFn Tryz.prog 17) (extD (lookT tTight)))(hDeny:GoodD (SemFn Tryz.prog 23) (extD (lookT tDeny)))(hTidy:GoodD (SemFn Tryz.prog 33) (extD (lookT tTidy)))(hGrowR:GoodD (SemFn Tryz.prog 261) (ownD 4 (resGrow 64))):SeatOk Tryz.prog entsC seatBu where
 mixed:=by kernel_rfl
 ent:=entBu_ok
 fns f mf h:=allFn_mem allTabsBu f mf (findN_mem h)
 ext f d h:=by
  have hm:(f,d)∈extsBu:=findN_mem h
  unfold extsBu at hm
  simp only[List.mem_cons,Prod.mk.injEq,List.not_mem_nil,or_false]at hm
  rcases hm with⟨rfl,rfl⟩|⟨rfl,rfl⟩|⟨rfl,rfl⟩|⟨rfl,rfl⟩
  .exact hTight
  .exact hDeny
  .exact hTidy
  .exact hGrowR
end Go.Proofs.YtpncilciembjdaaGreatDoor
