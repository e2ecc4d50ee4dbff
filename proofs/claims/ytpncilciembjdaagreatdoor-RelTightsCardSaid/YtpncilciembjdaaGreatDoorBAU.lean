/- A seat of D: tables of f -/
import Derived.Test.YtpncilciembjdaaGreatDoorBAT
set_option linter.all false
namespace Go.Proofs.YtpncilciembjdaaGreatDoor
noncomputable section
open Tryz renaming prog->ψ
open Go.RowKit
def ZG:List (Nat × MFn):=GS
def SA:List (Nat × DF):=[(236,Cg 1 (Bk 1 4))]
def D3:Seat:=Ht C6 ZG SA
def DDv:Orc:=AC Ag D3
set_option maxRecDepth 100000 in
theorem Aah:BI ψ Bb GS:=by
 repeat refine⟨⟨_,_,_,rfl⟩,by kernel_rfl,?_⟩
 trivial
theorem US:BI ψ Bb ZG:=Aah
set_option maxRecDepth 100000 in
theorem XF:Ex ψ Bb:=ED (n:=310) (by kernel_rfl)
theorem AkS:Knows C6 GS DDv:=Bq (λ_ _ h=>h) (by kernel_rfl)
theorem Wo{args:List AV}{bs:List ABlk}{r:AV × List BO}(h:(Cg 1 (Bk 1 4):DF) args bs=some r):DDv.ask (.fn 236) args bs=some r:=A4 (d:=Cg 1 (Bk 1 4)) rfl h
theorem V1(hCloneN:AW (Ba ψ 236) (Cg 1 (Bk 1 4))):SeatOk ψ Bb D3 where
 mixed:=by kernel_rfl
 ent:=XF
 fns f mf h:=Dm US f mf (BN h)
 ext f d h:=by
  have hm:(f,d)∈SA:=BN h;unfold SA at hm;simp only[List.mem_cons,Prod.mk.injEq,List.not_mem_nil,or_false]at hm;obtain⟨rfl,rfl⟩:=hm;exact hCloneN
end
end Go.Proofs.YtpncilciembjdaaGreatDoor
