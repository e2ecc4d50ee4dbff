/- A seat of D: tables of f -/
import Derived.Test.YtpncilciembjdaaGreatDoorBAV
import Derived.Test.YtpncilciembjdaaGreatDoorBAW
import Derived.Test.YtpncilciembjdaaGreatDoorBAX
set_option linter.all false
namespace Go.Proofs.YtpncilciembjdaaGreatDoor
noncomputable section
open Tryz renaming prog->ψ
open Go.RowKit
def ZK:List (Nat × MFn):=Gb++(Hx++(Eh++(Gc++(KK))))
def SE:List (Nat × DF):=[(236,Cg 1 (Bk 1 4)),(135,Cg 3 (Bk 3 40)),(144,(AC Ag D3).ask (.fn 144))]
def A7:Seat:=Ht As ZK SE
def WB:Orc:=AC Ag A7
set_option maxRecDepth 100000 in
theorem Aag:BI ψ Bb Gb:=by
 repeat refine⟨⟨_,_,_,rfl⟩,by kernel_rfl,?_⟩
 trivial
set_option maxRecDepth 100000 in
theorem AaF:BI ψ Bb Hx:=by
 repeat refine⟨⟨_,_,_,rfl⟩,by kernel_rfl,?_⟩
 trivial
set_option maxRecDepth 100000 in
theorem Aaw:BI ψ Bb Eh:=by
 repeat refine⟨⟨_,_,_,rfl⟩,by kernel_rfl,?_⟩
 trivial
set_option maxRecDepth 100000 in
theorem AaA:BI ψ Bb Gc:=⟨⟨_,_,_,rfl⟩,by kernel_rfl,⟨_,_,_,rfl⟩,by kernel_rfl,trivial⟩
set_option maxRecDepth 100000 in
theorem Aaj:BI ψ Bb KK:=by
 repeat refine⟨⟨_,_,_,rfl⟩,by kernel_rfl,?_⟩
 trivial
theorem UW:BI ψ Bb ZK:=Bn Aag (Bn AaF (Bn Aaw (Bn AaA (Aaj))))
set_option maxRecDepth 100000 in
theorem XK:Ex ψ Bb:=ED (n:=310) (by kernel_rfl)
theorem Agf:Knows As Gb WB:=Bq (λ_ _ h=>Br h) (by kernel_rfl)
theorem Agm:Knows As Hx WB:=Bq (λ_ _ h=>Ac (by kernel_rfl) (Br h)) (by kernel_rfl)
theorem Yi:Knows As Eh WB:=Bq (λ_ _ h=>Ac (by kernel_rfl) (Ac (by kernel_rfl) (Br h))) (by kernel_rfl)
theorem Ak6:Knows As Gc WB:=Bq (λ_ _ h=>Ac (by kernel_rfl) (Ac (by kernel_rfl) (Ac (by kernel_rfl) (Br h)))) (by kernel_rfl)
theorem AkU:Knows As KK WB:=Bq (λ_ _ h=>Ac (by kernel_rfl) (Ac (by kernel_rfl) (Ac (by kernel_rfl) (Ac (by kernel_rfl) (h))))) (by kernel_rfl)
theorem Wq{args:List AV}{bs:List ABlk}{r:AV × List BO}(h:(Cg 1 (Bk 1 4):DF) args bs=some r):WB.ask (.fn 236) args bs=some r:=A4 (d:=Cg 1 (Bk 1 4)) rfl h
theorem Ae9{args:List AV}{bs:List ABlk}{r:AV × List BO}(h:((AC Ag D3).ask (.fn 144):DF) args bs=some r):WB.ask (.fn 144) args bs=some r:=A4 (d:=(AC Ag D3).ask (.fn 144)) rfl h
theorem V6(hCloneN:AW (Ba ψ 236) (Cg 1 (Bk 1 4)))(hCloneP:AW (Ba ψ 135) (Cg 3 (Bk 3 40)))(hNDiv:AW (Ba ψ 144) ((AC Ag D3).ask (.fn 144))):SeatOk ψ Bb A7 where
 mixed:=by kernel_rfl
 ent:=XK
 fns f mf h:=Dm UW f mf (BN h)
 ext f d h:=by
  have hm:(f,d)∈SE:=BN h;unfold SE at hm;simp only[List.mem_cons,Prod.mk.injEq,List.not_mem_nil,or_false]at hm;rcases hm with⟨rfl,rfl⟩|⟨rfl,rfl⟩|⟨rfl,rfl⟩
  .exact hCloneN
  .exact hCloneP
  .exact hNDiv
end
end Go.Proofs.YtpncilciembjdaaGreatDoor
