/- A seat of D: tables of f -/
import Derived.Test.YtlmhajfbpplpoaaGreatOBD
import Derived.Test.YtlmhajfbpplpoaaGreatOBE
set_option linter.all false
namespace Go.Proofs.YtlmhajfbpplpoaaGreat
noncomputable section
open Tryz renaming prog->φ
open Go.RowKit
def AcE:List (Nat × MFn):=OC
def UF:List (Nat × DF):=[(27,(Be Af Ci).ask (.fn 27)),(233,(Be Af Ci).ask (.fn 233)),(88,(Be Af Ci).ask (.fn 88)),(232,(Be Af Ci).ask (.fn 232)),(36,(Be Af Ci).ask (.fn 36))]
def GR:Seat:=Mh E0 AcE UF
def DRv:Orc:=Be Af GR
set_option maxRecDepth 100000 in
theorem Ady:B6 φ Bb OC:=by
 repeat refine⟨⟨_,_,_,rfl⟩,by kernel_rfl,?_⟩
 trivial
theorem Xf:B6 φ Bb AcE:=Ady
set_option maxRecDepth 100000 in
theorem Aau:FQ φ Bb:=Hm (n:=307) (by kernel_rfl)
theorem Al1:Knows E0 OC DRv:=BA (λ_ _ h=>h) (by kernel_rfl)
theorem AfU{args:List AV}{bs:List ABlk}{r:AV × List BO}(h:((Be Af Ci).ask (.fn 27):DF) args bs=some r):DRv.ask (.fn 27) args bs=some r:=B9 (d:=(Be Af Ci).ask (.fn 27)) rfl h
theorem AfW{args:List AV}{bs:List ABlk}{r:AV × List BO}(h:((Be Af Ci).ask (.fn 233):DF) args bs=some r):DRv.ask (.fn 233) args bs=some r:=B9 (d:=(Be Af Ci).ask (.fn 233)) rfl h
theorem AcV{args:List AV}{bs:List ABlk}{r:AV × List BO}(h:((Be Af Ci).ask (.fn 88):DF) args bs=some r):DRv.ask (.fn 88) args bs=some r:=B9 (d:=(Be Af Ci).ask (.fn 88)) rfl h
theorem AcX{args:List AV}{bs:List ABlk}{r:AV × List BO}(h:((Be Af Ci).ask (.fn 232):DF) args bs=some r):DRv.ask (.fn 232) args bs=some r:=B9 (d:=(Be Af Ci).ask (.fn 232)) rfl h
theorem AcZ{args:List AV}{bs:List ABlk}{r:AV × List BO}(h:((Be Af Ci).ask (.fn 36):DF) args bs=some r):DRv.ask (.fn 36) args bs=some r:=B9 (d:=(Be Af Ci).ask (.fn 36)) rfl h
theorem YE(hForm:Bo (BH φ 27) ((Be Af Ci).ask (.fn 27)))(hSame:Bo (BH φ 233) ((Be Af Ci).ask (.fn 233)))(hIndex:Bo (BH φ 88) ((Be Af Ci).ask (.fn 88)))(hProcs:Bo (BH φ 232) ((Be Af Ci).ask (.fn 232)))(hRight:Bo (BH φ 36) ((Be Af Ci).ask (.fn 36))):SeatOk φ Bb GR where
 mixed:=by kernel_rfl
 ent:=Aau
 fns f mf h:=EI Xf f mf (Cd h)
 ext f d h:=by
  have hm:(f,d)∈UF:=Cd h;unfold UF at hm;simp only[List.mem_cons,Prod.mk.injEq,List.not_mem_nil,or_false]at hm;rcases hm with⟨rfl,rfl⟩|⟨rfl,rfl⟩|⟨rfl,rfl⟩|⟨rfl,rfl⟩|⟨rfl,rfl⟩
  .exact hForm
  .exact hSame
  .exact hIndex
  .exact hProcs
  .exact hRight
end
end Go.Proofs.YtlmhajfbpplpoaaGreat
