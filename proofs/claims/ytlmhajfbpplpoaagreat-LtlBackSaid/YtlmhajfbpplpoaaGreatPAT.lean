/- A seat of D: tables of f -/
import Derived.Test.YtlmhajfbpplpoaaGreatPAS
set_option linter.all false
namespace Go.Proofs.YtlmhajfbpplpoaaGreat
noncomputable section
open Tryz renaming prog->ψ
open Go.RowKit
def Aj9:List (Nat × MFn):=D9
def AbP:List (Nat × DF):=[(109,B9 Ch),(108,B9 BH)]
def Aj7:Seat:=PA Ag Aj9 AbP
def DT:Orc:=A8 Ah Aj7
set_option maxRecDepth 100000 in
theorem Akm:B8 ψ AL D9:=by
 repeat refine⟨⟨_,_,_,rfl⟩,by kernel_rfl,?_⟩
 trivial
theorem AaO:B8 ψ AL Aj9:=Akm
set_option maxRecDepth 100000 in
theorem AfH:In ψ AL:=Lc (n:=307) (by kernel_rfl)
theorem Anp:Knows Ag D9 DT:=Bl (λ_ _ h=>h) (by kernel_rfl)
theorem AlN{args:List AV}{bs:List ABlk}{r:AV × List BO}(h:(B9 Ch:DF) args bs=some r):DT.ask (.fn 109) args bs=some r:=Cd (d:=B9 Ch) rfl h
theorem AeA{args:List AV}{bs:List ABlk}{r:AV × List BO}(h:(B9 BH:DF) args bs=some r):DT.ask (.fn 108) args bs=some r:=Cd (d:=B9 BH) rfl h
theorem UN(hName:Bx (BY ψ 109) (B9 Ch))(hNumber:Bx (BY ψ 108) (B9 BH)):SeatOk ψ AL Aj7 where
 mixed:=by kernel_rfl
 ent:=AfH
 fns f mf h:=GP AaO f mf (CX h)
 ext f d h:=by
  have hm:(f,d)∈AbP:=CX h;unfold AbP at hm;simp only[List.mem_cons,Prod.mk.injEq,List.not_mem_nil,or_false]at hm;rcases hm with⟨rfl,rfl⟩|⟨rfl,rfl⟩
  .exact hName
  .exact hNumber
end
end Go.Proofs.YtlmhajfbpplpoaaGreat
