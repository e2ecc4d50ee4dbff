/- A seat of D: tables of functions, and what is told -/
import Derived.Test.YtlmhajfbpplpoaaGreatOAS
set_option linter.all false
namespace Go.Proofs.YtlmhajfbpplpoaaGreat
noncomputable section
open Go.RowKit
def Aiu:List (Nat × MFn):=FN
def Aax:List (Nat × DF):=[(109,CS CJ),(108,CS B0)]
def Aio:Seat:=Mn Al Aiu Aax
def DT:Orc:=Bo Aj Aio
set_option maxRecDepth 100000 in
theorem AiI:Cj Tryz.prog Bk FN:=by
 repeat refine⟨⟨_,_,_,rfl⟩,by kernel_rfl,?_⟩
 trivial
theorem Zo:Cj Tryz.prog Bk Aiu:=AiI
set_option maxRecDepth 100000 in
theorem AdT:FY Tryz.prog Bk:=Hr (n:=307) (by kernel_rfl)
theorem AlX:Knows Al FN DT:=BK (λ_ _ h=>h) (by kernel_rfl)
theorem Akj{args:List AV}{bs:List ABlk}{r:AV × List BO}(h:(CS CJ:DF) args bs=some r):DT.ask (.fn 109) args bs=some r:=Cm (d:=CS CJ) rfl h
theorem AcW{args:List AV}{bs:List ABlk}{r:AV × List BO}(h:(CS B0:DF) args bs=some r):DT.ask (.fn 108) args bs=some r:=Cm (d:=CS B0) rfl h
theorem Ty(hName:Bz (BS Tryz.prog 109) (CS CJ))(hNumber:Bz (BS Tryz.prog 108) (CS B0)):SeatOk Tryz.prog Bk Aio where
 mixed:=by kernel_rfl
 ent:=AdT
 fns f mf h:=ER Zo f mf (Cq h)
 ext f d h:=by
  have hm:(f,d)∈Aax:=Cq h;unfold Aax at hm;simp only[List.mem_cons,Prod.mk.injEq,List.not_mem_nil,or_false]at hm;rcases hm with⟨rfl,rfl⟩|⟨rfl,rfl⟩
  .exact hName
  .exact hNumber
end
end Go.Proofs.YtlmhajfbpplpoaaGreat
