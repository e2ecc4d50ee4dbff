/- A seat of D: tables of f -/
import Derived.Test.YtlmhajfbpplpoaaGreatPBC
import Derived.Test.YtlmhajfbpplpoaaGreatPBD
set_option linter.all false
namespace Go.Proofs.YtlmhajfbpplpoaaGreat
noncomputable section
open Tryz renaming prog->ψ
open Go.RowKit
def Aeh:List (Nat × MFn):=PI
def VO:List (Nat × DF):=[(27,(A8 Ah CD).ask (.fn 27)),(233,(A8 Ah CD).ask (.fn 233)),(88,(A8 Ah CD).ask (.fn 88)),(232,(A8 Ah CD).ask (.fn 232)),(36,(A8 Ah CD).ask (.fn 36))]
def Ig:Seat:=PA FX Aeh VO
def DRv:Orc:=A8 Ah Ig
set_option maxRecDepth 100000 in
theorem Afd:B8 ψ AL PI:=by
 repeat refine⟨⟨_,_,_,rfl⟩,by kernel_rfl,?_⟩
 trivial
theorem YF:B8 ψ AL Aeh:=Afd
set_option maxRecDepth 100000 in
theorem AbK:In ψ AL:=Lc (n:=307) (by kernel_rfl)
theorem Ans:Knows FX PI DRv:=Bl (λ_ _ h=>h) (by kernel_rfl)
theorem Ahh{args:List AV}{bs:List ABlk}{r:AV × List BO}(h:((A8 Ah CD).ask (.fn 27):DF) args bs=some r):DRv.ask (.fn 27) args bs=some r:=Cd (d:=(A8 Ah CD).ask (.fn 27)) rfl h
theorem Ahj{args:List AV}{bs:List ABlk}{r:AV × List BO}(h:((A8 Ah CD).ask (.fn 233):DF) args bs=some r):DRv.ask (.fn 233) args bs=some r:=Cd (d:=(A8 Ah CD).ask (.fn 233)) rfl h
theorem Aez{args:List AV}{bs:List ABlk}{r:AV × List BO}(h:((A8 Ah CD).ask (.fn 88):DF) args bs=some r):DRv.ask (.fn 88) args bs=some r:=Cd (d:=(A8 Ah CD).ask (.fn 88)) rfl h
theorem AeB{args:List AV}{bs:List ABlk}{r:AV × List BO}(h:((A8 Ah CD).ask (.fn 232):DF) args bs=some r):DRv.ask (.fn 232) args bs=some r:=Cd (d:=(A8 Ah CD).ask (.fn 232)) rfl h
theorem AeC{args:List AV}{bs:List ABlk}{r:AV × List BO}(h:((A8 Ah CD).ask (.fn 36):DF) args bs=some r):DRv.ask (.fn 36) args bs=some r:=Cd (d:=(A8 Ah CD).ask (.fn 36)) rfl h
theorem Z2(hForm:Bx (BY ψ 27) ((A8 Ah CD).ask (.fn 27)))(hSame:Bx (BY ψ 233) ((A8 Ah CD).ask (.fn 233)))(hIndex:Bx (BY ψ 88) ((A8 Ah CD).ask (.fn 88)))(hProcs:Bx (BY ψ 232) ((A8 Ah CD).ask (.fn 232)))(hRight:Bx (BY ψ 36) ((A8 Ah CD).ask (.fn 36))):SeatOk ψ AL Ig where
 mixed:=by kernel_rfl
 ent:=AbK
 fns f mf h:=GP YF f mf (CX h)
 ext f d h:=by
  have hm:(f,d)∈VO:=CX h;unfold VO at hm;simp only[List.mem_cons,Prod.mk.injEq,List.not_mem_nil,or_false]at hm;rcases hm with⟨rfl,rfl⟩|⟨rfl,rfl⟩|⟨rfl,rfl⟩|⟨rfl,rfl⟩|⟨rfl,rfl⟩
  .exact hForm
  .exact hSame
  .exact hIndex
  .exact hProcs
  .exact hRight
end
end Go.Proofs.YtlmhajfbpplpoaaGreat
