/- A seat of D: tables of f -/
import Derived.Test.YtlmhajfbpplpoaaGreatOAY
import Derived.Test.YtlmhajfbpplpoaaGreatOBB
import Derived.Test.YtlmhajfbpplpoaaGreatOBC
set_option linter.all false
namespace Go.Proofs.YtlmhajfbpplpoaaGreat
noncomputable section
open Tryz renaming prog->φ
open Go.RowKit
def AcD:List (Nat × MFn):=OA++(TI++(Gk++(WW++(KD++(Qh++(Fb++(I7++(Mm++(Mk++(TG++(TH)))))))))))
def UE:List (Nat × DF):=[(109,CG Cy),(108,CG BN),(240,Fk 1 (B8 1 4)),(151,Fk 3 (B8 3 40)),(263,Fk 3 (GP 40))]
def Ci:Seat:=Mh Al AcD UE
def OQ:Orc:=Be Af Ci
set_option maxRecDepth 100000 in
theorem Adg:B6 φ Bb OA:=⟨⟨_,_,_,rfl⟩,by kernel_rfl,⟨_,_,_,rfl⟩,by kernel_rfl,trivial⟩
set_option maxRecDepth 100000 in
theorem Adm:B6 φ Bb TI:=⟨⟨_,_,_,rfl⟩,by kernel_rfl,trivial⟩
set_option maxRecDepth 100000 in
theorem Adu:B6 φ Bb Gk:=by
 repeat refine⟨⟨_,_,_,rfl⟩,by kernel_rfl,?_⟩
 trivial
set_option maxRecDepth 100000 in
theorem Adx:B6 φ Bb WW:=by
 repeat refine⟨⟨_,_,_,rfl⟩,by kernel_rfl,?_⟩
 trivial
set_option maxRecDepth 100000 in
theorem Adl:B6 φ Bb KD:=by
 repeat refine⟨⟨_,_,_,rfl⟩,by kernel_rfl,?_⟩
 trivial
set_option maxRecDepth 100000 in
theorem Adz:B6 φ Bb Qh:=by
 repeat refine⟨⟨_,_,_,rfl⟩,by kernel_rfl,?_⟩
 trivial
set_option maxRecDepth 100000 in
theorem Adt:B6 φ Bb Fb:=by
 repeat refine⟨⟨_,_,_,rfl⟩,by kernel_rfl,?_⟩
 trivial
set_option maxRecDepth 100000 in
theorem Adv:B6 φ Bb I7:=⟨⟨_,_,_,rfl⟩,by kernel_rfl,⟨_,_,_,rfl⟩,by kernel_rfl,trivial⟩
set_option maxRecDepth 100000 in
theorem Adw:B6 φ Bb Mm:=by
 repeat refine⟨⟨_,_,_,rfl⟩,by kernel_rfl,?_⟩
 trivial
set_option maxRecDepth 100000 in
theorem Adj:B6 φ Bb Mk:=by
 repeat refine⟨⟨_,_,_,rfl⟩,by kernel_rfl,?_⟩
 trivial
set_option maxRecDepth 100000 in
theorem Adi:B6 φ Bb TG:=⟨⟨_,_,_,rfl⟩,by kernel_rfl,⟨_,_,_,rfl⟩,by kernel_rfl,⟨_,_,_,rfl⟩,by kernel_rfl,trivial⟩
set_option maxRecDepth 100000 in
theorem Adk:B6 φ Bb TH:=by
 repeat refine⟨⟨_,_,_,rfl⟩,by kernel_rfl,?_⟩
 trivial
theorem Xe:B6 φ Bb AcD:=Bx Adg (Bx Adm (Bx Adu (Bx Adx (Bx Adl (Bx Adz (Bx Adt (Bx Adv (Bx Adw (Bx Adj (Bx Adi (Adk)))))))))))
set_option maxRecDepth 100000 in
theorem Aat:FQ φ Bb:=Hm (n:=307) (by kernel_rfl)
theorem Aho:Knows Al OA OQ:=BA (λ_ _ h=>BD h) (by kernel_rfl)
theorem AlR:Knows Al TI OQ:=BA (λ_ _ h=>Ae (by kernel_rfl) (BD h)) (by kernel_rfl)
theorem Ahr:Knows Al Gk OQ:=BA (λ_ _ h=>Ae (by kernel_rfl) (Ae (by kernel_rfl) (BD h))) (by kernel_rfl)
theorem Al0:Knows Al WW OQ:=BA (λ_ _ h=>Ae (by kernel_rfl) (Ae (by kernel_rfl) (Ae (by kernel_rfl) (BD h)))) (by kernel_rfl)
theorem AlQ:Knows Al KD OQ:=BA (λ_ _ h=>Ae (by kernel_rfl) (Ae (by kernel_rfl) (Ae (by kernel_rfl) (Ae (by kernel_rfl) (BD h))))) (by kernel_rfl)
theorem Al2:Knows Al Qh OQ:=BA (λ_ _ h=>Ae (by kernel_rfl) (Ae (by kernel_rfl) (Ae (by kernel_rfl) (Ae (by kernel_rfl) (Ae (by kernel_rfl) (BD h)))))) (by kernel_rfl)
theorem Ahq:Knows Al Fb OQ:=BA (λ_ _ h=>Ae (by kernel_rfl) (Ae (by kernel_rfl) (Ae (by kernel_rfl) (Ae (by kernel_rfl) (Ae (by kernel_rfl) (Ae (by kernel_rfl) (BD h))))))) (by kernel_rfl)
theorem Ahs:Knows Al I7 OQ:=BA (λ_ _ h=>Ae (by kernel_rfl) (Ae (by kernel_rfl) (Ae (by kernel_rfl) (Ae (by kernel_rfl) (Ae (by kernel_rfl) (Ae (by kernel_rfl) (Ae (by kernel_rfl) (BD h)))))))) (by kernel_rfl)
theorem AlZ:Knows Al Mm OQ:=BA (λ_ _ h=>Ae (by kernel_rfl) (Ae (by kernel_rfl) (Ae (by kernel_rfl) (Ae (by kernel_rfl) (Ae (by kernel_rfl) (Ae (by kernel_rfl) (Ae (by kernel_rfl) (Ae (by kernel_rfl) (BD h))))))))) (by kernel_rfl)
theorem Ahp:Knows Al Mk OQ:=BA (λ_ _ h=>Ae (by kernel_rfl) (Ae (by kernel_rfl) (Ae (by kernel_rfl) (Ae (by kernel_rfl) (Ae (by kernel_rfl) (Ae (by kernel_rfl) (Ae (by kernel_rfl) (Ae (by kernel_rfl) (Ae (by kernel_rfl) (BD h)))))))))) (by kernel_rfl)
theorem AlO:Knows Al TG OQ:=BA (λ_ _ h=>Ae (by kernel_rfl) (Ae (by kernel_rfl) (Ae (by kernel_rfl) (Ae (by kernel_rfl) (Ae (by kernel_rfl) (Ae (by kernel_rfl) (Ae (by kernel_rfl) (Ae (by kernel_rfl) (Ae (by kernel_rfl) (Ae (by kernel_rfl) (BD h))))))))))) (by kernel_rfl)
theorem AlP:Knows Al TH OQ:=BA (λ_ _ h=>Ae (by kernel_rfl) (Ae (by kernel_rfl) (Ae (by kernel_rfl) (Ae (by kernel_rfl) (Ae (by kernel_rfl) (Ae (by kernel_rfl) (Ae (by kernel_rfl) (Ae (by kernel_rfl) (Ae (by kernel_rfl) (Ae (by kernel_rfl) (Ae (by kernel_rfl) (h)))))))))))) (by kernel_rfl)
theorem AfV{args:List AV}{bs:List ABlk}{r:AV × List BO}(h:(CG Cy:DF) args bs=some r):OQ.ask (.fn 109) args bs=some r:=B9 (d:=CG Cy) rfl h
theorem Y4{args:List AV}{bs:List ABlk}{r:AV × List BO}(h:(CG BN:DF) args bs=some r):OQ.ask (.fn 108) args bs=some r:=B9 (d:=CG BN) rfl h
theorem Y2{args:List AV}{bs:List ABlk}{r:AV × List BO}(h:(Fk 1 (B8 1 4):DF) args bs=some r):OQ.ask (.fn 240) args bs=some r:=B9 (d:=Fk 1 (B8 1 4)) rfl h
theorem Y3{args:List AV}{bs:List ABlk}{r:AV × List BO}(h:(Fk 3 (B8 3 40):DF) args bs=some r):OQ.ask (.fn 151) args bs=some r:=B9 (d:=Fk 3 (B8 3 40)) rfl h
theorem AcU{args:List AV}{bs:List ABlk}{r:AV × List BO}(h:(Fk 3 (GP 40):DF) args bs=some r):OQ.ask (.fn 263) args bs=some r:=B9 (d:=Fk 3 (GP 40)) rfl h
theorem YD(hName:Bo (BH φ 109) (CG Cy))(hNumber:Bo (BH φ 108) (CG BN))(hCloneN:Bo (BH φ 240) (Fk 1 (B8 1 4)))(hCloneP:Bo (BH φ 151) (Fk 3 (B8 3 40)))(hGrowP:Bo (BH φ 263) (Fk 3 (GP 40))):SeatOk φ Bb Ci where
 mixed:=by kernel_rfl
 ent:=Aat
 fns f mf h:=EI Xe f mf (Cd h)
 ext f d h:=by
  have hm:(f,d)∈UE:=Cd h;unfold UE at hm;simp only[List.mem_cons,Prod.mk.injEq,List.not_mem_nil,or_false]at hm;rcases hm with⟨rfl,rfl⟩|⟨rfl,rfl⟩|⟨rfl,rfl⟩|⟨rfl,rfl⟩|⟨rfl,rfl⟩
  .exact hName
  .exact hNumber
  .exact hCloneN
  .exact hCloneP
  .exact hGrowP
end
end Go.Proofs.YtlmhajfbpplpoaaGreat
