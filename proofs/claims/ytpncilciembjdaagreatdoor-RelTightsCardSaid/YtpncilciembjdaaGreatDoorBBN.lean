/- A seat of D: tables of f -/
import Derived.Test.YtpncilciembjdaaGreatDoorBBM
set_option linter.all false
namespace Go.Proofs.YtpncilciembjdaaGreatDoor
open Tryz renaming prog->ψ
open Go.RowKit
noncomputable def ZD:List (Nat × MFn):=Ag1
noncomputable def Sy:List (Nat × DF):=[(236,Cg 1 (Bk 1 4)),(135,DU 3 40),(262,Cg 3 (DL 40)),(130,Aa5 (I4 Aa0))]
noncomputable def Tg:Seat:=Ht AlK ZD Sy
set_option maxRecDepth 100000 in
theorem Aab:BI ψ Bb Ag1:=by
 repeat refine⟨⟨_,_,_,rfl⟩,by kernel_rfl,?_⟩
 trivial
theorem UQ:BI ψ Bb ZD:=Aab
set_option maxRecDepth 100000 in
theorem XD:Ex ψ Bb:=ED (n:=310) (by kernel_rfl)
theorem VZ(hCloneN:AW (Ba ψ 236) (Cg 1 (Bk 1 4)))(hCloneP:AW (Ba ψ 135) (DU 3 40))(hGrowP:AW (Ba ψ 262) (Cg 3 (DL 40)))(hText:AW (Ba ψ 130) (Aa5 (I4 Aa0))):SeatOk ψ Bb Tg where
 mixed:=by kernel_rfl
 ent:=XD
 fns f mf h:=Dm UQ f mf (BN h)
 ext f d h:=by
  have hm:(f,d)∈Sy:=BN h;unfold Sy at hm;simp only[List.mem_cons,Prod.mk.injEq,List.not_mem_nil,or_false]at hm;rcases hm with⟨rfl,rfl⟩|⟨rfl,rfl⟩|⟨rfl,rfl⟩|⟨rfl,rfl⟩
  .exact hCloneN
  .exact hCloneP
  .exact hGrowP
  .exact hText
end Go.Proofs.YtpncilciembjdaaGreatDoor
