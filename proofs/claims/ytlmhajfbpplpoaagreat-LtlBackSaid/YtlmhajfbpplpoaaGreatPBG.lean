/- A seat of D: tables of f -/
import Derived.Test.YtlmhajfbpplpoaaGreatPBE
import Derived.Test.YtlmhajfbpplpoaaGreatPBF
set_option linter.all false
namespace Go.Proofs.YtlmhajfbpplpoaaGreat
noncomputable section
open Tryz renaming prog->ψ
open Go.RowKit
def Aef:List (Nat × MFn):=CR++(Hh++(Mg++(Ny++(D9++(Ro++(Jj++(Rm++(Fj++(Rn++(Ji++(SH)))))))))))
def VM:List (Nat × DF):=[(91,B9 Ie),(109,B9 Ch),(108,B9 BH),(22,B9 Da),(34,(A8 Ah Ig).ask (.fn 34))]
def WH:Seat:=PA Ag Aef VM
def NG:Orc:=A8 Ah WH
set_option maxRecDepth 100000 in
theorem AeT:B8 ψ AL CR:=by
 repeat refine⟨⟨_,_,_,rfl⟩,by kernel_rfl,?_⟩
 trivial
set_option maxRecDepth 100000 in
theorem AeU:B8 ψ AL Hh:=by
 repeat refine⟨⟨_,_,_,rfl⟩,by kernel_rfl,?_⟩
 trivial
set_option maxRecDepth 100000 in
theorem Ae2:B8 ψ AL Mg:=⟨⟨_,_,_,rfl⟩,by kernel_rfl,⟨_,_,_,rfl⟩,by kernel_rfl,⟨_,_,_,rfl⟩,by kernel_rfl,trivial⟩
set_option maxRecDepth 100000 in
theorem Aff:B8 ψ AL Ny:=⟨⟨_,_,_,rfl⟩,by kernel_rfl,trivial⟩
set_option maxRecDepth 100000 in
theorem Ae4:B8 ψ AL D9:=by
 repeat refine⟨⟨_,_,_,rfl⟩,by kernel_rfl,?_⟩
 trivial
set_option maxRecDepth 100000 in
theorem Afe:B8 ψ AL Ro:=⟨⟨_,_,_,rfl⟩,by kernel_rfl,⟨_,_,_,rfl⟩,by kernel_rfl,⟨_,_,_,rfl⟩,by kernel_rfl,trivial⟩
set_option maxRecDepth 100000 in
theorem Ae8:B8 ψ AL Jj:=by
 repeat refine⟨⟨_,_,_,rfl⟩,by kernel_rfl,?_⟩
 trivial
set_option maxRecDepth 100000 in
theorem Afa:B8 ψ AL Rm:=by
 repeat refine⟨⟨_,_,_,rfl⟩,by kernel_rfl,?_⟩
 trivial
set_option maxRecDepth 100000 in
theorem Afb:B8 ψ AL Fj:=by
 repeat refine⟨⟨_,_,_,rfl⟩,by kernel_rfl,?_⟩
 trivial
set_option maxRecDepth 100000 in
theorem Afc:B8 ψ AL Rn:=⟨⟨_,_,_,rfl⟩,by kernel_rfl,⟨_,_,_,rfl⟩,by kernel_rfl,trivial⟩
set_option maxRecDepth 100000 in
theorem AaM:B8 ψ AL Ji:=⟨⟨_,_,_,rfl⟩,by kernel_rfl,⟨_,_,_,rfl⟩,by kernel_rfl,⟨_,_,_,rfl⟩,by kernel_rfl,trivial⟩
set_option maxRecDepth 100000 in
theorem AaN:B8 ψ AL SH:=⟨⟨_,_,_,rfl⟩,by kernel_rfl,trivial⟩
theorem YD:B8 ψ AL Aef:=Bh AeT (Bh AeU (Bh Ae2 (Bh Aff (Bh Ae4 (Bh Afe (Bh Ae8 (Bh Afa (Bh Afb (Bh Afc (Bh AaM (AaN)))))))))))
set_option maxRecDepth 100000 in
theorem AbH:In ψ AL:=Lc (n:=307) (by kernel_rfl)
theorem Acr:Knows Ag CR NG:=Bl (λ_ _ h=>Bm h) (by kernel_rfl)
theorem AiQ:Knows Ag Hh NG:=Bl (λ_ _ h=>Ac (by kernel_rfl) (Bm h)) (by kernel_rfl)
theorem Ano:Knows Ag Mg NG:=Bl (λ_ _ h=>Ac (by kernel_rfl) (Ac (by kernel_rfl) (Bm h))) (by kernel_rfl)
theorem Ai0:Knows Ag Ny NG:=Bl (λ_ _ h=>Ac (by kernel_rfl) (Ac (by kernel_rfl) (Ac (by kernel_rfl) (Bm h)))) (by kernel_rfl)
theorem Acs:Knows Ag D9 NG:=Bl (λ_ _ h=>Ac (by kernel_rfl) (Ac (by kernel_rfl) (Ac (by kernel_rfl) (Ac (by kernel_rfl) (Bm h))))) (by kernel_rfl)
theorem AiZ:Knows Ag Ro NG:=Bl (λ_ _ h=>Ac (by kernel_rfl) (Ac (by kernel_rfl) (Ac (by kernel_rfl) (Ac (by kernel_rfl) (Ac (by kernel_rfl) (Bm h)))))) (by kernel_rfl)
theorem Acu:Knows Ag Jj NG:=Bl (λ_ _ h=>Ac (by kernel_rfl) (Ac (by kernel_rfl) (Ac (by kernel_rfl) (Ac (by kernel_rfl) (Ac (by kernel_rfl) (Ac (by kernel_rfl) (Bm h))))))) (by kernel_rfl)
theorem AiW:Knows Ag Rm NG:=Bl (λ_ _ h=>Ac (by kernel_rfl) (Ac (by kernel_rfl) (Ac (by kernel_rfl) (Ac (by kernel_rfl) (Ac (by kernel_rfl) (Ac (by kernel_rfl) (Ac (by kernel_rfl) (Bm h)))))))) (by kernel_rfl)
theorem AiX:Knows Ag Fj NG:=Bl (λ_ _ h=>Ac (by kernel_rfl) (Ac (by kernel_rfl) (Ac (by kernel_rfl) (Ac (by kernel_rfl) (Ac (by kernel_rfl) (Ac (by kernel_rfl) (Ac (by kernel_rfl) (Ac (by kernel_rfl) (Bm h))))))))) (by kernel_rfl)
theorem AiY:Knows Ag Rn NG:=Bl (λ_ _ h=>Ac (by kernel_rfl) (Ac (by kernel_rfl) (Ac (by kernel_rfl) (Ac (by kernel_rfl) (Ac (by kernel_rfl) (Ac (by kernel_rfl) (Ac (by kernel_rfl) (Ac (by kernel_rfl) (Ac (by kernel_rfl) (Bm h)))))))))) (by kernel_rfl)
theorem Acq:Knows Ag Ji NG:=Bl (λ_ _ h=>Ac (by kernel_rfl) (Ac (by kernel_rfl) (Ac (by kernel_rfl) (Ac (by kernel_rfl) (Ac (by kernel_rfl) (Ac (by kernel_rfl) (Ac (by kernel_rfl) (Ac (by kernel_rfl) (Ac (by kernel_rfl) (Ac (by kernel_rfl) (Bm h))))))))))) (by kernel_rfl)
theorem Ak8:Knows Ag SH NG:=Bl (λ_ _ h=>Ac (by kernel_rfl) (Ac (by kernel_rfl) (Ac (by kernel_rfl) (Ac (by kernel_rfl) (Ac (by kernel_rfl) (Ac (by kernel_rfl) (Ac (by kernel_rfl) (Ac (by kernel_rfl) (Ac (by kernel_rfl) (Ac (by kernel_rfl) (Ac (by kernel_rfl) (h)))))))))))) (by kernel_rfl)
theorem Aex{args:List AV}{bs:List ABlk}{r:AV × List BO}(h:(B9 Ie:DF) args bs=some r):NG.ask (.fn 91) args bs=some r:=Cd (d:=B9 Ie) rfl h
theorem Yy{args:List AV}{bs:List ABlk}{r:AV × List BO}(h:(B9 Ch:DF) args bs=some r):NG.ask (.fn 109) args bs=some r:=Cd (d:=B9 Ch) rfl h
theorem Aav{args:List AV}{bs:List ABlk}{r:AV × List BO}(h:(B9 BH:DF) args bs=some r):NG.ask (.fn 108) args bs=some r:=Cd (d:=B9 BH) rfl h
theorem WX{args:List AV}{bs:List ABlk}{r:AV × List BO}(h:(B9 Da:DF) args bs=some r):NG.ask (.fn 22) args bs=some r:=Cd (d:=B9 Da) rfl h
theorem WW{args:List AV}{bs:List ABlk}{r:AV × List BO}(h:((A8 Ah Ig).ask (.fn 34):DF) args bs=some r):NG.ask (.fn 34) args bs=some r:=Cd (d:=(A8 Ah Ig).ask (.fn 34)) rfl h
theorem Z0(hAll:Bx (BY ψ 91) (B9 Ie))(hName:Bx (BY ψ 109) (B9 Ch))(hNumber:Bx (BY ψ 108) (B9 BH))(hSumText:Bx (BY ψ 22) (B9 Da))(hResolve:Bx (BY ψ 34) ((A8 Ah Ig).ask (.fn 34))):SeatOk ψ AL WH where
 mixed:=by kernel_rfl
 ent:=AbH
 fns f mf h:=GP YD f mf (CX h)
 ext f d h:=by
  have hm:(f,d)∈VM:=CX h;unfold VM at hm;simp only[List.mem_cons,Prod.mk.injEq,List.not_mem_nil,or_false]at hm;rcases hm with⟨rfl,rfl⟩|⟨rfl,rfl⟩|⟨rfl,rfl⟩|⟨rfl,rfl⟩|⟨rfl,rfl⟩
  .exact hAll
  .exact hName
  .exact hNumber
  .exact hSumText
  .exact hResolve
end
end Go.Proofs.YtlmhajfbpplpoaaGreat
