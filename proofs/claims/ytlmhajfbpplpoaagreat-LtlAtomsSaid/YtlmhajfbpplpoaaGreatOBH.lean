/- A seat of D: tables of f -/
import Derived.Test.YtlmhajfbpplpoaaGreatOAZ
import Derived.Test.YtlmhajfbpplpoaaGreatOBF
import Derived.Test.YtlmhajfbpplpoaaGreatOBG
set_option linter.all false
namespace Go.Proofs.YtlmhajfbpplpoaaGreat
noncomputable section
open Tryz renaming prog->φ
open Go.RowKit
def AcB:List (Nat × MFn):=Ml++(Qg++(LF++(LG++(OB++(TJ++(Qe++(Qf)))))))
def UC:List (Nat × DF):=[(32,(Dn Af CH 200).ask (.fn 32)),(38,(Dn Af CH 200).ask (.fn 38)),(36,(Dn Af CH 200).ask (.fn 36)),(34,(Be Af GR).ask (.fn 34))]
def Vq:Seat:=Mh Al AcB UC
def TZ:Orc:=Be Af Vq
set_option maxRecDepth 100000 in
theorem Ado:B6 φ Bb Ml:=⟨⟨_,_,_,rfl⟩,by kernel_rfl,trivial⟩
set_option maxRecDepth 100000 in
theorem Ads:B6 φ Bb Qg:=⟨⟨_,_,_,rfl⟩,by kernel_rfl,⟨_,_,_,rfl⟩,by kernel_rfl,⟨_,_,_,rfl⟩,by kernel_rfl,trivial⟩
set_option maxRecDepth 100000 in
theorem Zn:B6 φ Bb LF:=⟨⟨_,_,_,rfl⟩,by kernel_rfl,⟨_,_,_,rfl⟩,by kernel_rfl,⟨_,_,_,rfl⟩,by kernel_rfl,trivial⟩
set_option maxRecDepth 100000 in
theorem Zo:B6 φ Bb LG:=⟨⟨_,_,_,rfl⟩,by kernel_rfl,⟨_,_,_,rfl⟩,by kernel_rfl,trivial⟩
set_option maxRecDepth 100000 in
theorem Adq:B6 φ Bb OB:=by
 repeat refine⟨⟨_,_,_,rfl⟩,by kernel_rfl,?_⟩
 trivial
set_option maxRecDepth 100000 in
theorem Adr:B6 φ Bb TJ:=by
 repeat refine⟨⟨_,_,_,rfl⟩,by kernel_rfl,?_⟩
 trivial
set_option maxRecDepth 100000 in
theorem Adn:B6 φ Bb Qe:=by
 repeat refine⟨⟨_,_,_,rfl⟩,by kernel_rfl,?_⟩
 trivial
set_option maxRecDepth 100000 in
theorem Adp:B6 φ Bb Qf:=⟨⟨_,_,_,rfl⟩,by kernel_rfl,⟨_,_,_,rfl⟩,by kernel_rfl,trivial⟩
theorem Xc:B6 φ Bb AcB:=Bx Ado (Bx Ads (Bx Zn (Bx Zo (Bx Adq (Bx Adr (Bx Adn (Adp)))))))
set_option maxRecDepth 100000 in
theorem Aaq:FQ φ Bb:=Hm (n:=307) (by kernel_rfl)
theorem AlT:Knows Al Ml TZ:=BA (λ_ _ h=>BD h) (by kernel_rfl)
theorem AlX:Knows Al Qg TZ:=BA (λ_ _ h=>Ae (by kernel_rfl) (BD h)) (by kernel_rfl)
theorem Aa5:Knows Al LF TZ:=BA (λ_ _ h=>Ae (by kernel_rfl) (Ae (by kernel_rfl) (BD h))) (by kernel_rfl)
theorem Ajq:Knows Al LG TZ:=BA (λ_ _ h=>Ae (by kernel_rfl) (Ae (by kernel_rfl) (Ae (by kernel_rfl) (BD h)))) (by kernel_rfl)
theorem AlV:Knows Al OB TZ:=BA (λ_ _ h=>Ae (by kernel_rfl) (Ae (by kernel_rfl) (Ae (by kernel_rfl) (Ae (by kernel_rfl) (BD h))))) (by kernel_rfl)
theorem AlW:Knows Al TJ TZ:=BA (λ_ _ h=>Ae (by kernel_rfl) (Ae (by kernel_rfl) (Ae (by kernel_rfl) (Ae (by kernel_rfl) (Ae (by kernel_rfl) (BD h)))))) (by kernel_rfl)
theorem AlS:Knows Al Qe TZ:=BA (λ_ _ h=>Ae (by kernel_rfl) (Ae (by kernel_rfl) (Ae (by kernel_rfl) (Ae (by kernel_rfl) (Ae (by kernel_rfl) (Ae (by kernel_rfl) (BD h))))))) (by kernel_rfl)
theorem AlU:Knows Al Qf TZ:=BA (λ_ _ h=>Ae (by kernel_rfl) (Ae (by kernel_rfl) (Ae (by kernel_rfl) (Ae (by kernel_rfl) (Ae (by kernel_rfl) (Ae (by kernel_rfl) (Ae (by kernel_rfl) (h)))))))) (by kernel_rfl)
theorem ON{args:List AV}{bs:List ABlk}{r:AV × List BO}(h:((Dn Af CH 200).ask (.fn 32):DF) args bs=some r):TZ.ask (.fn 32) args bs=some r:=B9 (d:=(Dn Af CH 200).ask (.fn 32)) rfl h
theorem AfX{args:List AV}{bs:List ABlk}{r:AV × List BO}(h:((Dn Af CH 200).ask (.fn 38):DF) args bs=some r):TZ.ask (.fn 38) args bs=some r:=B9 (d:=(Dn Af CH 200).ask (.fn 38)) rfl h
theorem AcY{args:List AV}{bs:List ABlk}{r:AV × List BO}(h:((Dn Af CH 200).ask (.fn 36):DF) args bs=some r):TZ.ask (.fn 36) args bs=some r:=B9 (d:=(Dn Af CH 200).ask (.fn 36)) rfl h
theorem VE{args:List AV}{bs:List ABlk}{r:AV × List BO}(h:((Be Af GR).ask (.fn 34):DF) args bs=some r):TZ.ask (.fn 34) args bs=some r:=B9 (d:=(Be Af GR).ask (.fn 34)) rfl h
theorem YB(hParse:Bo (BH φ 32) ((Dn Af CH 200).ask (.fn 32)))(hText:Bo (BH φ 38) ((Dn Af CH 200).ask (.fn 38)))(hRight:Bo (BH φ 36) ((Dn Af CH 200).ask (.fn 36)))(hResolve:Bo (BH φ 34) ((Be Af GR).ask (.fn 34))):SeatOk φ Bb Vq where
 mixed:=by kernel_rfl
 ent:=Aaq
 fns f mf h:=EI Xc f mf (Cd h)
 ext f d h:=by
  have hm:(f,d)∈UC:=Cd h;unfold UC at hm;simp only[List.mem_cons,Prod.mk.injEq,List.not_mem_nil,or_false]at hm;rcases hm with⟨rfl,rfl⟩|⟨rfl,rfl⟩|⟨rfl,rfl⟩|⟨rfl,rfl⟩
  .exact hParse
  .exact hText
  .exact hRight
  .exact hResolve
end
end Go.Proofs.YtlmhajfbpplpoaaGreat
