/-
  A seat of D: tables of functions, and what is told from elsewhere.
-/
import Derived.Test.YtpncilciembjdaaGreatDoorAAO
import Derived.Test.YtpncilciembjdaaGreatDoorABL
set_option linter.unusedSectionVars false
set_option linter.unusedSimpArgs false
set_option linter.unusedVariables false
namespace Go.Proofs.YtpncilciembjdaaGreatDoor
open Go.RowKit
noncomputable def tabsTy:List (Nat × MFn):=tabTy
noncomputable def extsTy:List (Nat × DF):=[(17,extD (lookT tTight)),(125,extD (lookT tNumber)),(127,extD (lookT tSub)),(64,extD (lookT tSign)),(213,extD (lookT tSame)),(161,extD (lookT tNeg)),(68,extD (lookT tTNeg)),(28,extD (lookT tLeast)),(27,extD (lookT tZero)),(155,extD (lookT tZCmp)),(25,extD (lookT tCmp))]
noncomputable def seatTy:Seat:=seatD ownTy tabsTy extsTy
set_option maxRecDepth 100000 in
theorem allTyTy:AllFn Tryz.prog entsC tabTy:=⟨⟨_,_,_,rfl⟩,by kernel_rfl,⟨_,_,_,rfl⟩,by kernel_rfl,⟨_,_,_,rfl⟩,by kernel_rfl,⟨_,_,_,rfl⟩,by kernel_rfl,⟨_,_,_,rfl⟩,by kernel_rfl,⟨_,_,_,rfl⟩,by kernel_rfl,⟨_,_,_,rfl⟩,by kernel_rfl,⟨_,_,_,rfl⟩,by kernel_rfl,⟨_,_,_,rfl⟩,by kernel_rfl,trivial⟩
theorem allTabsTy:AllFn Tryz.prog entsC tabsTy:=allTyTy
set_option maxRecDepth 100000 in
theorem entTy_ok:EntOk Tryz.prog entsC:=entOk_of (n:=310) (by kernel_rfl)
theorem seatTy_ok(hTight:GoodD (SemFn Tryz.prog 17) (extD (lookT tTight)))(hNumber:GoodD (SemFn Tryz.prog 125) (extD (lookT tNumber)))(hSub:GoodD (SemFn Tryz.prog 127) (extD (lookT tSub)))(hSign:GoodD (SemFn Tryz.prog 64) (extD (lookT tSign)))(hSame:GoodD (SemFn Tryz.prog 213) (extD (lookT tSame)))(hNeg:GoodD (SemFn Tryz.prog 161) (extD (lookT tNeg)))(hTNeg:GoodD (SemFn Tryz.prog 68) (extD (lookT tTNeg)))(hLeast:GoodD (SemFn Tryz.prog 28) (extD (lookT tLeast)))(hZero:GoodD (SemFn Tryz.prog 27) (extD (lookT tZero)))(hZCmp:GoodD (SemFn Tryz.prog 155) (extD (lookT tZCmp)))(hCmp:GoodD (SemFn Tryz.prog 25) (extD (lookT tCmp))):SeatOk Tryz.prog entsC seatTy where
 mixed:=by kernel_rfl
 ent:=entTy_ok
 fns f mf h:=allFn_mem allTabsTy f mf (findN_mem h)
 ext f d h:=by
  have hm:(f,d)∈extsTy:=findN_mem h
  unfold extsTy at hm
  simp only[List.mem_cons,Prod.mk.injEq,List.not_mem_nil,or_false]at hm
  rcases hm with⟨rfl,rfl⟩|⟨rfl,rfl⟩|⟨rfl,rfl⟩|⟨rfl,rfl⟩|⟨rfl,rfl⟩|⟨rfl,rfl⟩|⟨rfl,rfl⟩|⟨rfl,rfl⟩|⟨rfl,rfl⟩|⟨rfl,rfl⟩|⟨rfl,rfl⟩
  .exact hTight
  .exact hNumber
  .exact hSub
  .exact hSign
  .exact hSame
  .exact hNeg
  .exact hTNeg
  .exact hLeast
  .exact hZero
  .exact hZCmp
  .exact hCmp
end Go.Proofs.YtpncilciembjdaaGreatDoor
