/- A seat of D: tables of functions, and what is told -/
import Derived.Test.YtlmhajfbpplpoaaGreatOBB
import Derived.Test.YtlmhajfbpplpoaaGreatOBC
set_option linter.all false
namespace Go.Proofs.YtlmhajfbpplpoaaGreat
noncomputable section
open Go.RowKit
def AcE:List (Nat × MFn):=OJ
def UK:List (Nat × DF):=[(27,(Bo Aj Cv).ask (.fn 27)),(233,(Bo Aj Cv).ask (.fn 233)),(88,(Bo Aj Cv).ask (.fn 88)),(232,(Bo Aj Cv).ask (.fn 232)),(36,(Bo Aj Cv).ask (.fn 36))]
def GW:Seat:=Mn E9 AcE UK
def DRv:Orc:=Bo Aj GW
set_option maxRecDepth 100000 in
theorem Adx:Cj Tryz.prog Bk OJ:=by
 repeat refine⟨⟨_,_,_,rfl⟩,by kernel_rfl,?_⟩
 trivial
theorem Xh:Cj Tryz.prog Bk AcE:=Adx
set_option maxRecDepth 100000 in
theorem Aat:FY Tryz.prog Bk:=Hr (n:=307) (by kernel_rfl)
theorem Al0:Knows E9 OJ DRv:=BK (λ_ _ h=>h) (by kernel_rfl)
theorem AfR{args:List AV}{bs:List ABlk}{r:AV × List BO}(h:((Bo Aj Cv).ask (.fn 27):DF) args bs=some r):DRv.ask (.fn 27) args bs=some r:=Cm (d:=(Bo Aj Cv).ask (.fn 27)) rfl h
theorem AfT{args:List AV}{bs:List ABlk}{r:AV × List BO}(h:((Bo Aj Cv).ask (.fn 233):DF) args bs=some r):DRv.ask (.fn 233) args bs=some r:=Cm (d:=(Bo Aj Cv).ask (.fn 233)) rfl h
theorem AcV{args:List AV}{bs:List ABlk}{r:AV × List BO}(h:((Bo Aj Cv).ask (.fn 88):DF) args bs=some r):DRv.ask (.fn 88) args bs=some r:=Cm (d:=(Bo Aj Cv).ask (.fn 88)) rfl h
theorem AcX{args:List AV}{bs:List ABlk}{r:AV × List BO}(h:((Bo Aj Cv).ask (.fn 232):DF) args bs=some r):DRv.ask (.fn 232) args bs=some r:=Cm (d:=(Bo Aj Cv).ask (.fn 232)) rfl h
theorem AcZ{args:List AV}{bs:List ABlk}{r:AV × List BO}(h:((Bo Aj Cv).ask (.fn 36):DF) args bs=some r):DRv.ask (.fn 36) args bs=some r:=Cm (d:=(Bo Aj Cv).ask (.fn 36)) rfl h
theorem YF(hForm:Bz (BS Tryz.prog 27) ((Bo Aj Cv).ask (.fn 27)))(hSame:Bz (BS Tryz.prog 233) ((Bo Aj Cv).ask (.fn 233)))(hIndex:Bz (BS Tryz.prog 88) ((Bo Aj Cv).ask (.fn 88)))(hProcs:Bz (BS Tryz.prog 232) ((Bo Aj Cv).ask (.fn 232)))(hRight:Bz (BS Tryz.prog 36) ((Bo Aj Cv).ask (.fn 36))):SeatOk Tryz.prog Bk GW where
 mixed:=by kernel_rfl
 ent:=Aat
 fns f mf h:=ER Xh f mf (Cq h)
 ext f d h:=by
  have hm:(f,d)∈UK:=Cq h;unfold UK at hm;simp only[List.mem_cons,Prod.mk.injEq,List.not_mem_nil,or_false]at hm;rcases hm with⟨rfl,rfl⟩|⟨rfl,rfl⟩|⟨rfl,rfl⟩|⟨rfl,rfl⟩|⟨rfl,rfl⟩
  .exact hForm
  .exact hSame
  .exact hIndex
  .exact hProcs
  .exact hRight
end
end Go.Proofs.YtlmhajfbpplpoaaGreat
