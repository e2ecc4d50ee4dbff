/-
  A seat of D: tables of functions, and what is told from elsewhere.
-/
import Derived.Test.YtlmhajfbpplpoaaGreatUAS
set_option linter.unusedSectionVars false
set_option linter.unusedSimpArgs false
set_option linter.unusedVariables false
namespace Go.Proofs.YtlmhajfbpplpoaaGreat
open Go.RowKit
noncomputable def tabsT:List (Nat × MFn):=tabTa
noncomputable def extsT:List (Nat × DF):=[(109,extD resName),(108,extD resNumber)]
noncomputable def seatT:Seat:=seatD ownC tabsT extsT
noncomputable def DT:Orc:=Dstar realA seatT
set_option maxRecDepth 100000 in
theorem allTaT:AllFn Tryz.prog entsC tabTa:=⟨⟨_,_,_,rfl⟩,by kernel_rfl,⟨_,_,_,rfl⟩,by kernel_rfl,⟨_,_,_,rfl⟩,by kernel_rfl,⟨_,_,_,rfl⟩,by kernel_rfl,⟨_,_,_,rfl⟩,by kernel_rfl,⟨_,_,_,rfl⟩,by kernel_rfl,⟨_,_,_,rfl⟩,by kernel_rfl,⟨_,_,_,rfl⟩,by kernel_rfl,⟨_,_,_,rfl⟩,by kernel_rfl,⟨_,_,_,rfl⟩,by kernel_rfl,⟨_,_,_,rfl⟩,by kernel_rfl,⟨_,_,_,rfl⟩,by kernel_rfl,trivial⟩
theorem allTabsT:AllFn Tryz.prog entsC tabsT:=allTaT
set_option maxRecDepth 100000 in
theorem entT_ok:EntOk Tryz.prog entsC:=entOk_of (n:=307) (by kernel_rfl)
theorem kTaT:Knows ownC tabTa DT:=knows_of (fun _ _ h=>h) (by kernel_rfl)
theorem xNameT{args:List AV}{bs:List ABlk}{r:AV × List BO}(h:(extD resName:DF) args bs=some r):DT.ask (.fn 109) args bs=some r:=star_ext (d:=extD resName) rfl h
theorem xNumberT{args:List AV}{bs:List ABlk}{r:AV × List BO}(h:(extD resNumber:DF) args bs=some r):DT.ask (.fn 108) args bs=some r:=star_ext (d:=extD resNumber) rfl h
theorem seatT_ok(hName:GoodD (SemFn Tryz.prog 109) (extD resName))(hNumber:GoodD (SemFn Tryz.prog 108) (extD resNumber)):SeatOk Tryz.prog entsC seatT where
 mixed:=by kernel_rfl
 ent:=entT_ok
 fns f mf h:=allFn_mem allTabsT f mf (findN_mem h)
 ext f d h:=by
  have hm:(f,d)∈extsT:=findN_mem h
  unfold extsT at hm
  simp only[List.mem_cons,Prod.mk.injEq,List.not_mem_nil,or_false]at hm
  rcases hm with⟨rfl,rfl⟩|⟨rfl,rfl⟩
  .exact hName
  .exact hNumber
end Go.Proofs.YtlmhajfbpplpoaaGreat
