/- A seat of D: tables of f -/
import Derived.Test.YtlmhajfbpplpoaaGreatOAS
set_option linter.all false
namespace Go.Proofs.YtlmhajfbpplpoaaGreat
noncomputable section
open Tryz renaming prog->φ
open Go.RowKit
def Aiv:List (Nat × MFn):=Gk
def Aay:List (Nat × DF):=[(109,CG Cy),(108,CG BN)]
def Air:Seat:=Mh Al Aiv Aay
def DT:Orc:=Be Af Air
set_option maxRecDepth 100000 in
theorem AiI:B6 φ Bb Gk:=by
 repeat refine⟨⟨_,_,_,rfl⟩,by kernel_rfl,?_⟩
 trivial
theorem Zp:B6 φ Bb Aiv:=AiI
set_option maxRecDepth 100000 in
theorem AdV:FQ φ Bb:=Hm (n:=307) (by kernel_rfl)
theorem AlY:Knows Al Gk DT:=BA (λ_ _ h=>h) (by kernel_rfl)
theorem Aki{args:List AV}{bs:List ABlk}{r:AV × List BO}(h:(CG Cy:DF) args bs=some r):DT.ask (.fn 109) args bs=some r:=B9 (d:=CG Cy) rfl h
theorem AcW{args:List AV}{bs:List ABlk}{r:AV × List BO}(h:(CG BN:DF) args bs=some r):DT.ask (.fn 108) args bs=some r:=B9 (d:=CG BN) rfl h
theorem Tv(hName:Bo (BH φ 109) (CG Cy))(hNumber:Bo (BH φ 108) (CG BN)):SeatOk φ Bb Air where
 mixed:=by kernel_rfl
 ent:=AdV
 fns f mf h:=EI Zp f mf (Cd h)
 ext f d h:=by
  have hm:(f,d)∈Aay:=Cd h;unfold Aay at hm;simp only[List.mem_cons,Prod.mk.injEq,List.not_mem_nil,or_false]at hm;rcases hm with⟨rfl,rfl⟩|⟨rfl,rfl⟩
  .exact hName
  .exact hNumber
end
end Go.Proofs.YtlmhajfbpplpoaaGreat
