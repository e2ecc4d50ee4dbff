/- A seat of D: tables of functions, and what is told -/
import Derived.Test.YtlmhajfbpplpoaaGreatOAW
import Derived.Test.YtlmhajfbpplpoaaGreatOAZ
import Derived.Test.YtlmhajfbpplpoaaGreatOBA
set_option linter.all false
namespace Go.Proofs.YtlmhajfbpplpoaaGreat
noncomputable section
open Go.RowKit
def AcD:List (Nat × MFn):=OG++(TL++(FN++(WZ++(KN++(Qm++(Fk++(I7++(Mt++(Mr++(TJ++(TK)))))))))))
def UJ:List (Nat × DF):=[(109,CS CJ),(108,CS B0),(240,Ft 1 (Cl 1 4)),(151,Ft 3 (Cl 3 40)),(263,Ft 3 (GU 40))]
def Cv:Seat:=Mn Al AcD UJ
def OW:Orc:=Bo Aj Cv
set_option maxRecDepth 100000 in
theorem Adf:Cj Tryz.prog Bk OG:=⟨⟨_,_,_,rfl⟩,by kernel_rfl,⟨_,_,_,rfl⟩,by kernel_rfl,trivial⟩
set_option maxRecDepth 100000 in
theorem Adl:Cj Tryz.prog Bk TL:=⟨⟨_,_,_,rfl⟩,by kernel_rfl,trivial⟩
set_option maxRecDepth 100000 in
theorem Adt:Cj Tryz.prog Bk FN:=by
 repeat refine⟨⟨_,_,_,rfl⟩,by kernel_rfl,?_⟩
 trivial
set_option maxRecDepth 100000 in
theorem Adw:Cj Tryz.prog Bk WZ:=by
 repeat refine⟨⟨_,_,_,rfl⟩,by kernel_rfl,?_⟩
 trivial
set_option maxRecDepth 100000 in
theorem Adk:Cj Tryz.prog Bk KN:=by
 repeat refine⟨⟨_,_,_,rfl⟩,by kernel_rfl,?_⟩
 trivial
set_option maxRecDepth 100000 in
theorem Ady:Cj Tryz.prog Bk Qm:=by
 repeat refine⟨⟨_,_,_,rfl⟩,by kernel_rfl,?_⟩
 trivial
set_option maxRecDepth 100000 in
theorem Ads:Cj Tryz.prog Bk Fk:=by
 repeat refine⟨⟨_,_,_,rfl⟩,by kernel_rfl,?_⟩
 trivial
set_option maxRecDepth 100000 in
theorem Adu:Cj Tryz.prog Bk I7:=⟨⟨_,_,_,rfl⟩,by kernel_rfl,⟨_,_,_,rfl⟩,by kernel_rfl,trivial⟩
set_option maxRecDepth 100000 in
theorem Adv:Cj Tryz.prog Bk Mt:=by
 repeat refine⟨⟨_,_,_,rfl⟩,by kernel_rfl,?_⟩
 trivial
set_option maxRecDepth 100000 in
theorem Adi:Cj Tryz.prog Bk Mr:=by
 repeat refine⟨⟨_,_,_,rfl⟩,by kernel_rfl,?_⟩
 trivial
set_option maxRecDepth 100000 in
theorem Adh:Cj Tryz.prog Bk TJ:=⟨⟨_,_,_,rfl⟩,by kernel_rfl,⟨_,_,_,rfl⟩,by kernel_rfl,⟨_,_,_,rfl⟩,by kernel_rfl,trivial⟩
set_option maxRecDepth 100000 in
theorem Adj:Cj Tryz.prog Bk TK:=by
 repeat refine⟨⟨_,_,_,rfl⟩,by kernel_rfl,?_⟩
 trivial
theorem Xg:Cj Tryz.prog Bk AcD:=BH Adf (BH Adl (BH Adt (BH Adw (BH Adk (BH Ady (BH Ads (BH Adu (BH Adv (BH Adi (BH Adh (Adj)))))))))))
set_option maxRecDepth 100000 in
theorem Aas:FY Tryz.prog Bk:=Hr (n:=307) (by kernel_rfl)
theorem Ahk:Knows Al OG OW:=BK (λ_ _ h=>BN h) (by kernel_rfl)
theorem AlQ:Knows Al TL OW:=BK (λ_ _ h=>Ah (by kernel_rfl) (BN h)) (by kernel_rfl)
theorem Ahn:Knows Al FN OW:=BK (λ_ _ h=>Ah (by kernel_rfl) (Ah (by kernel_rfl) (BN h))) (by kernel_rfl)
theorem AlZ:Knows Al WZ OW:=BK (λ_ _ h=>Ah (by kernel_rfl) (Ah (by kernel_rfl) (Ah (by kernel_rfl) (BN h)))) (by kernel_rfl)
theorem AlP:Knows Al KN OW:=BK (λ_ _ h=>Ah (by kernel_rfl) (Ah (by kernel_rfl) (Ah (by kernel_rfl) (Ah (by kernel_rfl) (BN h))))) (by kernel_rfl)
theorem Al1:Knows Al Qm OW:=BK (λ_ _ h=>Ah (by kernel_rfl) (Ah (by kernel_rfl) (Ah (by kernel_rfl) (Ah (by kernel_rfl) (Ah (by kernel_rfl) (BN h)))))) (by kernel_rfl)
theorem Ahm:Knows Al Fk OW:=BK (λ_ _ h=>Ah (by kernel_rfl) (Ah (by kernel_rfl) (Ah (by kernel_rfl) (Ah (by kernel_rfl) (Ah (by kernel_rfl) (Ah (by kernel_rfl) (BN h))))))) (by kernel_rfl)
theorem Aho:Knows Al I7 OW:=BK (λ_ _ h=>Ah (by kernel_rfl) (Ah (by kernel_rfl) (Ah (by kernel_rfl) (Ah (by kernel_rfl) (Ah (by kernel_rfl) (Ah (by kernel_rfl) (Ah (by kernel_rfl) (BN h)))))))) (by kernel_rfl)
theorem AlY:Knows Al Mt OW:=BK (λ_ _ h=>Ah (by kernel_rfl) (Ah (by kernel_rfl) (Ah (by kernel_rfl) (Ah (by kernel_rfl) (Ah (by kernel_rfl) (Ah (by kernel_rfl) (Ah (by kernel_rfl) (Ah (by kernel_rfl) (BN h))))))))) (by kernel_rfl)
theorem Ahl:Knows Al Mr OW:=BK (λ_ _ h=>Ah (by kernel_rfl) (Ah (by kernel_rfl) (Ah (by kernel_rfl) (Ah (by kernel_rfl) (Ah (by kernel_rfl) (Ah (by kernel_rfl) (Ah (by kernel_rfl) (Ah (by kernel_rfl) (Ah (by kernel_rfl) (BN h)))))))))) (by kernel_rfl)
theorem AlN:Knows Al TJ OW:=BK (λ_ _ h=>Ah (by kernel_rfl) (Ah (by kernel_rfl) (Ah (by kernel_rfl) (Ah (by kernel_rfl) (Ah (by kernel_rfl) (Ah (by kernel_rfl) (Ah (by kernel_rfl) (Ah (by kernel_rfl) (Ah (by kernel_rfl) (Ah (by kernel_rfl) (BN h))))))))))) (by kernel_rfl)
theorem AlO:Knows Al TK OW:=BK (λ_ _ h=>Ah (by kernel_rfl) (Ah (by kernel_rfl) (Ah (by kernel_rfl) (Ah (by kernel_rfl) (Ah (by kernel_rfl) (Ah (by kernel_rfl) (Ah (by kernel_rfl) (Ah (by kernel_rfl) (Ah (by kernel_rfl) (Ah (by kernel_rfl) (Ah (by kernel_rfl) (h)))))))))))) (by kernel_rfl)
theorem AfS{args:List AV}{bs:List ABlk}{r:AV × List BO}(h:(CS CJ:DF) args bs=some r):OW.ask (.fn 109) args bs=some r:=Cm (d:=CS CJ) rfl h
theorem Y4{args:List AV}{bs:List ABlk}{r:AV × List BO}(h:(CS B0:DF) args bs=some r):OW.ask (.fn 108) args bs=some r:=Cm (d:=CS B0) rfl h
theorem Y2{args:List AV}{bs:List ABlk}{r:AV × List BO}(h:(Ft 1 (Cl 1 4):DF) args bs=some r):OW.ask (.fn 240) args bs=some r:=Cm (d:=Ft 1 (Cl 1 4)) rfl h
theorem Y3{args:List AV}{bs:List ABlk}{r:AV × List BO}(h:(Ft 3 (Cl 3 40):DF) args bs=some r):OW.ask (.fn 151) args bs=some r:=Cm (d:=Ft 3 (Cl 3 40)) rfl h
theorem AcU{args:List AV}{bs:List ABlk}{r:AV × List BO}(h:(Ft 3 (GU 40):DF) args bs=some r):OW.ask (.fn 263) args bs=some r:=Cm (d:=Ft 3 (GU 40)) rfl h
theorem YE(hName:Bz (BS Tryz.prog 109) (CS CJ))(hNumber:Bz (BS Tryz.prog 108) (CS B0))(hCloneN:Bz (BS Tryz.prog 240) (Ft 1 (Cl 1 4)))(hCloneP:Bz (BS Tryz.prog 151) (Ft 3 (Cl 3 40)))(hGrowP:Bz (BS Tryz.prog 263) (Ft 3 (GU 40))):SeatOk Tryz.prog Bk Cv where
 mixed:=by kernel_rfl
 ent:=Aas
 fns f mf h:=ER Xg f mf (Cq h)
 ext f d h:=by
  have hm:(f,d)∈UJ:=Cq h;unfold UJ at hm;simp only[List.mem_cons,Prod.mk.injEq,List.not_mem_nil,or_false]at hm;rcases hm with⟨rfl,rfl⟩|⟨rfl,rfl⟩|⟨rfl,rfl⟩|⟨rfl,rfl⟩|⟨rfl,rfl⟩
  .exact hName
  .exact hNumber
  .exact hCloneN
  .exact hCloneP
  .exact hGrowP
end
end Go.Proofs.YtlmhajfbpplpoaaGreat
