/- A seat of D: tables of f -/
import Derived.Test.YtpncilciembjdaaGreatDoorBBG
import Derived.Test.YtpncilciembjdaaGreatDoorBBK
set_option linter.all false
namespace Go.Proofs.YtpncilciembjdaaGreatDoor
open Tryz renaming prog->ψ
open Go.RowKit
noncomputable def ZE:List (Nat × MFn):=Ag2
noncomputable def Sz:List (Nat × DF):=[(236,Cg 1 (Bk 1 4)),(135,Cg 3 (Bk 3 40)),(262,Cg 3 (DL 40))]
noncomputable def Th:Seat:=Ht AlL ZE Sz
set_option maxRecDepth 100000 in
theorem Aac:BI ψ Bb Ag2:=by
 repeat refine⟨⟨_,_,_,rfl⟩,by kernel_rfl,?_⟩
 trivial
theorem UR:BI ψ Bb ZE:=Aac
set_option maxRecDepth 100000 in
theorem XE:Ex ψ Bb:=ED (n:=310) (by kernel_rfl)
theorem V0(hCloneN:AW (Ba ψ 236) (Cg 1 (Bk 1 4)))(hCloneP:AW (Ba ψ 135) (Cg 3 (Bk 3 40)))(hGrowP:AW (Ba ψ 262) (Cg 3 (DL 40))):SeatOk ψ Bb Th where
 mixed:=by kernel_rfl
 ent:=XE
 fns f mf h:=Dm UR f mf (BN h)
 ext f d h:=by
  have hm:(f,d)∈Sz:=BN h;unfold Sz at hm;simp only[List.mem_cons,Prod.mk.injEq,List.not_mem_nil,or_false]at hm;rcases hm with⟨rfl,rfl⟩|⟨rfl,rfl⟩|⟨rfl,rfl⟩
  .exact hCloneN
  .exact hCloneP
  .exact hGrowP
end Go.Proofs.YtpncilciembjdaaGreatDoor
