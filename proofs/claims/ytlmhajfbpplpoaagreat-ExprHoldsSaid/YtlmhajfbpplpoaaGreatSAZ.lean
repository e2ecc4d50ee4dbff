/- A seat of D: tables of functions, and what is told -/
import Derived.Test.YtlmhajfbpplpoaaGreatSAS
import Derived.Test.YtlmhajfbpplpoaaGreatSAW
import Derived.Test.YtlmhajfbpplpoaaGreatSAY
set_option linter.unusedSectionVars false
set_option linter.unusedSimpArgs false
set_option linter.unusedVariables false
namespace Go.Proofs.YtlmhajfbpplpoaaGreat
open Go.RowKit
noncomputable def Aaw:List (Nat × MFn):=Afq
noncomputable def TF:List (Nat × DF):=[(91,Cx NJ),(109,Cx CF),(108,Cx BV),(22,Cx Co)]
noncomputable def Cp:Seat:=Pq AkO Aaw TF
set_option maxRecDepth 100000 in
theorem Aa2:CG Tryz.prog Ah Afq:=⟨⟨_,_,_,rfl⟩,by kernel_rfl,⟨_,_,_,rfl⟩,by kernel_rfl,⟨_,_,_,rfl⟩,by kernel_rfl,⟨_,_,_,rfl⟩,by kernel_rfl,⟨_,_,_,rfl⟩,by kernel_rfl,⟨_,_,_,rfl⟩,by kernel_rfl,⟨_,_,_,rfl⟩,by kernel_rfl,⟨_,_,_,rfl⟩,by kernel_rfl,⟨_,_,_,rfl⟩,by kernel_rfl,⟨_,_,_,rfl⟩,by kernel_rfl,⟨_,_,_,rfl⟩,by kernel_rfl,⟨_,_,_,rfl⟩,by kernel_rfl,⟨_,_,_,rfl⟩,by kernel_rfl,⟨_,_,_,rfl⟩,by kernel_rfl,⟨_,_,_,rfl⟩,by kernel_rfl,⟨_,_,_,rfl⟩,by kernel_rfl,⟨_,_,_,rfl⟩,by kernel_rfl,⟨_,_,_,rfl⟩,by kernel_rfl,⟨_,_,_,rfl⟩,by kernel_rfl,⟨_,_,_,rfl⟩,by kernel_rfl,⟨_,_,_,rfl⟩,by kernel_rfl,⟨_,_,_,rfl⟩,by kernel_rfl,⟨_,_,_,rfl⟩,by kernel_rfl,⟨_,_,_,rfl⟩,by kernel_rfl,⟨_,_,_,rfl⟩,by kernel_rfl,⟨_,_,_,rfl⟩,by kernel_rfl,⟨_,_,_,rfl⟩,by kernel_rfl,⟨_,_,_,rfl⟩,by kernel_rfl,⟨_,_,_,rfl⟩,by kernel_rfl,⟨_,_,_,rfl⟩,by kernel_rfl,⟨_,_,_,rfl⟩,by kernel_rfl,⟨_,_,_,rfl⟩,by kernel_rfl,⟨_,_,_,rfl⟩,by kernel_rfl,⟨_,_,_,rfl⟩,by kernel_rfl,⟨_,_,_,rfl⟩,by kernel_rfl,⟨_,_,_,rfl⟩,by kernel_rfl,⟨_,_,_,rfl⟩,by kernel_rfl,trivial⟩
theorem VU:CG Tryz.prog Ah Aaw:=Aa2
set_option maxRecDepth 100000 in
theorem YK:G4 Tryz.prog Ah:=MV (n:=307) (by kernel_rfl)
theorem Xc(hAll:BC (BZ Tryz.prog 91) (Cx NJ))(hName:BC (BZ Tryz.prog 109) (Cx CF))(hNumber:BC (BZ Tryz.prog 108) (Cx BV))(hSumText:BC (BZ Tryz.prog 22) (Cx Co)):SeatOk Tryz.prog Ah Cp where
 mixed:=by kernel_rfl
 ent:=YK
 fns f mf h:=Ic VU f mf (Df h)
 ext f d h:=by
  have hm:(f,d)∈TF:=Df h
  unfold TF at hm
  simp only[List.mem_cons,Prod.mk.injEq,List.not_mem_nil,or_false]at hm
  rcases hm with⟨rfl,rfl⟩|⟨rfl,rfl⟩|⟨rfl,rfl⟩|⟨rfl,rfl⟩
  .exact hAll
  .exact hName
  .exact hNumber
  .exact hSumText
end Go.Proofs.YtlmhajfbpplpoaaGreat
