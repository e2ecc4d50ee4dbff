/- A seat of D: tables of functions, and what is told -/
import Derived.Test.YtlmhajfbpplpoaaGreatSAS
set_option linter.unusedSectionVars false
set_option linter.unusedSimpArgs false
set_option linter.unusedVariables false
namespace Go.Proofs.YtlmhajfbpplpoaaGreat
open Go.RowKit
noncomputable def Aft:List (Nat × MFn):=GY
noncomputable def YQ:List (Nat × DF):=[(109,Cx CF),(108,Cx BV)]
noncomputable def Afm:Seat:=Pq As Aft YQ
noncomputable def DT:Orc:=Ck Ao Afm
set_option maxRecDepth 100000 in
theorem AfH:CG Tryz.prog Ah GY:=⟨⟨_,_,_,rfl⟩,by kernel_rfl,⟨_,_,_,rfl⟩,by kernel_rfl,⟨_,_,_,rfl⟩,by kernel_rfl,⟨_,_,_,rfl⟩,by kernel_rfl,⟨_,_,_,rfl⟩,by kernel_rfl,⟨_,_,_,rfl⟩,by kernel_rfl,⟨_,_,_,rfl⟩,by kernel_rfl,⟨_,_,_,rfl⟩,by kernel_rfl,⟨_,_,_,rfl⟩,by kernel_rfl,⟨_,_,_,rfl⟩,by kernel_rfl,⟨_,_,_,rfl⟩,by kernel_rfl,⟨_,_,_,rfl⟩,by kernel_rfl,trivial⟩
theorem XR:CG Tryz.prog Ah Aft:=AfH
set_option maxRecDepth 100000 in
theorem AbB:G4 Tryz.prog Ah:=MV (n:=307) (by kernel_rfl)
theorem Aj5:Knows As GY DT:=B0 (fun _ _ h=>h) (by kernel_rfl)
theorem AhC{args:List AV}{bs:List ABlk}{r:AV × List BO}(h:(Cx CF:DF) args bs=some r):DT.ask (.fn 109) args bs=some r:=CU (d:=Cx CF) rfl h
theorem AaP{args:List AV}{bs:List ABlk}{r:AV × List BO}(h:(Cx BV:DF) args bs=some r):DT.ask (.fn 108) args bs=some r:=CU (d:=Cx BV) rfl h
theorem SB(hName:BC (BZ Tryz.prog 109) (Cx CF))(hNumber:BC (BZ Tryz.prog 108) (Cx BV)):SeatOk Tryz.prog Ah Afm where
 mixed:=by kernel_rfl
 ent:=AbB
 fns f mf h:=Ic XR f mf (Df h)
 ext f d h:=by
  have hm:(f,d)∈YQ:=Df h
  unfold YQ at hm
  simp only[List.mem_cons,Prod.mk.injEq,List.not_mem_nil,or_false]at hm
  rcases hm with⟨rfl,rfl⟩|⟨rfl,rfl⟩
  .exact hName
  .exact hNumber
end Go.Proofs.YtlmhajfbpplpoaaGreat
