/- A seat of D: tables of f -/
import Derived.Test.YtlmhajfbpplpoaaGreatPAY
import Derived.Test.YtlmhajfbpplpoaaGreatPBA
import Derived.Test.YtlmhajfbpplpoaaGreatPBB
set_option linter.all false
namespace Go.Proofs.YtlmhajfbpplpoaaGreat
noncomputable section
open Tryz renaming prog->ψ
open Go.RowKit
def Aeg:List (Nat × MFn):=PH++(UY++(D9++(Jj++(Mf++(Rp++(Ga++(J4++(Nx++(Nw++(UW++(UX)))))))))))
def VN:List (Nat × DF):=[(109,B9 Ch),(108,B9 BH),(240,Gg 1 (Cs 1 4)),(151,Gg 3 (Cs 3 40)),(263,Gg 3 (If 40))]
def CD:Seat:=PA Ag Aeg VN
def PW:Orc:=A8 Ah CD
set_option maxRecDepth 100000 in
theorem AeV:B8 ψ AL PH:=⟨⟨_,_,_,rfl⟩,by kernel_rfl,⟨_,_,_,rfl⟩,by kernel_rfl,trivial⟩
set_option maxRecDepth 100000 in
theorem Ae1:B8 ψ AL UY:=⟨⟨_,_,_,rfl⟩,by kernel_rfl,trivial⟩
set_option maxRecDepth 100000 in
theorem Ae5:B8 ψ AL D9:=by
 repeat refine⟨⟨_,_,_,rfl⟩,by kernel_rfl,?_⟩
 trivial
set_option maxRecDepth 100000 in
theorem Ae9:B8 ψ AL Jj:=by
 repeat refine⟨⟨_,_,_,rfl⟩,by kernel_rfl,?_⟩
 trivial
set_option maxRecDepth 100000 in
theorem Ae0:B8 ψ AL Mf:=by
 repeat refine⟨⟨_,_,_,rfl⟩,by kernel_rfl,?_⟩
 trivial
set_option maxRecDepth 100000 in
theorem Afg:B8 ψ AL Rp:=by
 repeat refine⟨⟨_,_,_,rfl⟩,by kernel_rfl,?_⟩
 trivial
set_option maxRecDepth 100000 in
theorem Ae3:B8 ψ AL Ga:=by
 repeat refine⟨⟨_,_,_,rfl⟩,by kernel_rfl,?_⟩
 trivial
set_option maxRecDepth 100000 in
theorem Ae6:B8 ψ AL J4:=⟨⟨_,_,_,rfl⟩,by kernel_rfl,⟨_,_,_,rfl⟩,by kernel_rfl,trivial⟩
set_option maxRecDepth 100000 in
theorem Ae7:B8 ψ AL Nx:=by
 repeat refine⟨⟨_,_,_,rfl⟩,by kernel_rfl,?_⟩
 trivial
set_option maxRecDepth 100000 in
theorem AeY:B8 ψ AL Nw:=by
 repeat refine⟨⟨_,_,_,rfl⟩,by kernel_rfl,?_⟩
 trivial
set_option maxRecDepth 100000 in
theorem AeX:B8 ψ AL UW:=⟨⟨_,_,_,rfl⟩,by kernel_rfl,⟨_,_,_,rfl⟩,by kernel_rfl,⟨_,_,_,rfl⟩,by kernel_rfl,trivial⟩
set_option maxRecDepth 100000 in
theorem AeZ:B8 ψ AL UX:=by
 repeat refine⟨⟨_,_,_,rfl⟩,by kernel_rfl,?_⟩
 trivial
theorem YE:B8 ψ AL Aeg:=Bh AeV (Bh Ae1 (Bh Ae5 (Bh Ae9 (Bh Ae0 (Bh Afg (Bh Ae3 (Bh Ae6 (Bh Ae7 (Bh AeY (Bh AeX (AeZ)))))))))))
set_option maxRecDepth 100000 in
theorem AbJ:In ψ AL:=Lc (n:=307) (by kernel_rfl)
theorem AiR:Knows Ag PH PW:=Bl (λ_ _ h=>Bm h) (by kernel_rfl)
theorem Ann:Knows Ag UY PW:=Bl (λ_ _ h=>Ac (by kernel_rfl) (Bm h)) (by kernel_rfl)
theorem AiU:Knows Ag D9 PW:=Bl (λ_ _ h=>Ac (by kernel_rfl) (Ac (by kernel_rfl) (Bm h))) (by kernel_rfl)
theorem Anr:Knows Ag Jj PW:=Bl (λ_ _ h=>Ac (by kernel_rfl) (Ac (by kernel_rfl) (Ac (by kernel_rfl) (Bm h)))) (by kernel_rfl)
theorem Anm:Knows Ag Mf PW:=Bl (λ_ _ h=>Ac (by kernel_rfl) (Ac (by kernel_rfl) (Ac (by kernel_rfl) (Ac (by kernel_rfl) (Bm h))))) (by kernel_rfl)
theorem Ant:Knows Ag Rp PW:=Bl (λ_ _ h=>Ac (by kernel_rfl) (Ac (by kernel_rfl) (Ac (by kernel_rfl) (Ac (by kernel_rfl) (Ac (by kernel_rfl) (Bm h)))))) (by kernel_rfl)
theorem AiT:Knows Ag Ga PW:=Bl (λ_ _ h=>Ac (by kernel_rfl) (Ac (by kernel_rfl) (Ac (by kernel_rfl) (Ac (by kernel_rfl) (Ac (by kernel_rfl) (Ac (by kernel_rfl) (Bm h))))))) (by kernel_rfl)
theorem AiV:Knows Ag J4 PW:=Bl (λ_ _ h=>Ac (by kernel_rfl) (Ac (by kernel_rfl) (Ac (by kernel_rfl) (Ac (by kernel_rfl) (Ac (by kernel_rfl) (Ac (by kernel_rfl) (Ac (by kernel_rfl) (Bm h)))))))) (by kernel_rfl)
theorem Anq:Knows Ag Nx PW:=Bl (λ_ _ h=>Ac (by kernel_rfl) (Ac (by kernel_rfl) (Ac (by kernel_rfl) (Ac (by kernel_rfl) (Ac (by kernel_rfl) (Ac (by kernel_rfl) (Ac (by kernel_rfl) (Ac (by kernel_rfl) (Bm h))))))))) (by kernel_rfl)
theorem AiS:Knows Ag Nw PW:=Bl (λ_ _ h=>Ac (by kernel_rfl) (Ac (by kernel_rfl) (Ac (by kernel_rfl) (Ac (by kernel_rfl) (Ac (by kernel_rfl) (Ac (by kernel_rfl) (Ac (by kernel_rfl) (Ac (by kernel_rfl) (Ac (by kernel_rfl) (Bm h)))))))))) (by kernel_rfl)
theorem Ank:Knows Ag UW PW:=Bl (λ_ _ h=>Ac (by kernel_rfl) (Ac (by kernel_rfl) (Ac (by kernel_rfl) (Ac (by kernel_rfl) (Ac (by kernel_rfl) (Ac (by kernel_rfl) (Ac (by kernel_rfl) (Ac (by kernel_rfl) (Ac (by kernel_rfl) (Ac (by kernel_rfl) (Bm h))))))))))) (by kernel_rfl)
theorem Anl:Knows Ag UX PW:=Bl (λ_ _ h=>Ac (by kernel_rfl) (Ac (by kernel_rfl) (Ac (by kernel_rfl) (Ac (by kernel_rfl) (Ac (by kernel_rfl) (Ac (by kernel_rfl) (Ac (by kernel_rfl) (Ac (by kernel_rfl) (Ac (by kernel_rfl) (Ac (by kernel_rfl) (Ac (by kernel_rfl) (h)))))))))))) (by kernel_rfl)
theorem Ahi{args:List AV}{bs:List ABlk}{r:AV × List BO}(h:(B9 Ch:DF) args bs=some r):PW.ask (.fn 109) args bs=some r:=Cd (d:=B9 Ch) rfl h
theorem Aaw{args:List AV}{bs:List ABlk}{r:AV × List BO}(h:(B9 BH:DF) args bs=some r):PW.ask (.fn 108) args bs=some r:=Cd (d:=B9 BH) rfl h
theorem Aat{args:List AV}{bs:List ABlk}{r:AV × List BO}(h:(Gg 1 (Cs 1 4):DF) args bs=some r):PW.ask (.fn 240) args bs=some r:=Cd (d:=Gg 1 (Cs 1 4)) rfl h
theorem Aau{args:List AV}{bs:List ABlk}{r:AV × List BO}(h:(Gg 3 (Cs 3 40):DF) args bs=some r):PW.ask (.fn 151) args bs=some r:=Cd (d:=Gg 3 (Cs 3 40)) rfl h
theorem Aey{args:List AV}{bs:List ABlk}{r:AV × List BO}(h:(Gg 3 (If 40):DF) args bs=some r):PW.ask (.fn 263) args bs=some r:=Cd (d:=Gg 3 (If 40)) rfl h
theorem Z1(hName:Bx (BY ψ 109) (B9 Ch))(hNumber:Bx (BY ψ 108) (B9 BH))(hCloneN:Bx (BY ψ 240) (Gg 1 (Cs 1 4)))(hCloneP:Bx (BY ψ 151) (Gg 3 (Cs 3 40)))(hGrowP:Bx (BY ψ 263) (Gg 3 (If 40))):SeatOk ψ AL CD where
 mixed:=by kernel_rfl
 ent:=AbJ
 fns f mf h:=GP YE f mf (CX h)
 ext f d h:=by
  have hm:(f,d)∈VN:=CX h;unfold VN at hm;simp only[List.mem_cons,Prod.mk.injEq,List.not_mem_nil,or_false]at hm;rcases hm with⟨rfl,rfl⟩|⟨rfl,rfl⟩|⟨rfl,rfl⟩|⟨rfl,rfl⟩|⟨rfl,rfl⟩
  .exact hName
  .exact hNumber
  .exact hCloneN
  .exact hCloneP
  .exact hGrowP
end
end Go.Proofs.YtlmhajfbpplpoaaGreat
