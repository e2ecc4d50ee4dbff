/- A seat of D: tables of functions, and what is told -/
import Derived.Test.YtlmhajfbpplpoaaGreatOAW
set_option linter.all false
namespace Go.Proofs.YtlmhajfbpplpoaaGreat
open Go.RowKit
noncomputable def AcC:List (Nat × MFn):=Air
noncomputable def UI:List (Nat × DF):=[(91,CS Oq),(109,CS CJ),(108,CS B0),(22,CS Fh)]
noncomputable def CT:Seat:=Mn Amv AcC UI
set_option maxRecDepth 100000 in
theorem Ade:Cj Tryz.prog Bk Air:=by
 repeat refine⟨⟨_,_,_,rfl⟩,by kernel_rfl,?_⟩
 trivial
theorem Xf:Cj Tryz.prog Bk AcC:=Ade
set_option maxRecDepth 100000 in
theorem Aaq:FY Tryz.prog Bk:=Hr (n:=307) (by kernel_rfl)
theorem YD(hAll:Bz (BS Tryz.prog 91) (CS Oq))(hName:Bz (BS Tryz.prog 109) (CS CJ))(hNumber:Bz (BS Tryz.prog 108) (CS B0))(hSumText:Bz (BS Tryz.prog 22) (CS Fh)):SeatOk Tryz.prog Bk CT where
 mixed:=by kernel_rfl
 ent:=Aaq
 fns f mf h:=ER Xf f mf (Cq h)
 ext f d h:=by
  have hm:(f,d)∈UI:=Cq h;unfold UI at hm;simp only[List.mem_cons,Prod.mk.injEq,List.not_mem_nil,or_false]at hm;rcases hm with⟨rfl,rfl⟩|⟨rfl,rfl⟩|⟨rfl,rfl⟩|⟨rfl,rfl⟩
  .exact hAll
  .exact hName
  .exact hNumber
  .exact hSumText
end Go.Proofs.YtlmhajfbpplpoaaGreat
