/- A seat of D: tables of f -/
import Derived.Test.YtlmhajfbpplpoaaGreatOAY
set_option linter.all false
namespace Go.Proofs.YtlmhajfbpplpoaaGreat
open Tryz renaming prog->φ
open Go.RowKit
noncomputable def AcC:List (Nat × MFn):=Aiu
noncomputable def UD:List (Nat × DF):=[(91,CG Oj),(109,CG Cy),(108,CG BN),(22,CG E8)]
noncomputable def CH:Seat:=Mh Amx AcC UD
set_option maxRecDepth 100000 in
theorem Adf:B6 φ Bb Aiu:=by
 repeat refine⟨⟨_,_,_,rfl⟩,by kernel_rfl,?_⟩
 trivial
theorem Xd:B6 φ Bb AcC:=Adf
set_option maxRecDepth 100000 in
theorem Aar:FQ φ Bb:=Hm (n:=307) (by kernel_rfl)
theorem YC(hAll:Bo (BH φ 91) (CG Oj))(hName:Bo (BH φ 109) (CG Cy))(hNumber:Bo (BH φ 108) (CG BN))(hSumText:Bo (BH φ 22) (CG E8)):SeatOk φ Bb CH where
 mixed:=by kernel_rfl
 ent:=Aar
 fns f mf h:=EI Xd f mf (Cd h)
 ext f d h:=by
  have hm:(f,d)∈UD:=Cd h;unfold UD at hm;simp only[List.mem_cons,Prod.mk.injEq,List.not_mem_nil,or_false]at hm;rcases hm with⟨rfl,rfl⟩|⟨rfl,rfl⟩|⟨rfl,rfl⟩|⟨rfl,rfl⟩
  .exact hAll
  .exact hName
  .exact hNumber
  .exact hSumText
end Go.Proofs.YtlmhajfbpplpoaaGreat
