/- A seat of D: tables of functions, and what is told -/
import Derived.Test.YtlmhajfbpplpoaaGreatOAX
import Derived.Test.YtlmhajfbpplpoaaGreatOBD
import Derived.Test.YtlmhajfbpplpoaaGreatOBE
set_option linter.all false
namespace Go.Proofs.YtlmhajfbpplpoaaGreat
noncomputable section
open Go.RowKit
def AcB:List (Nat × MFn):=Ms++(Ql++(LK++(LL++(OI++(TM++(OH++(Qk)))))))
def UH:List (Nat × DF):=[(32,(Dn Aj CT 200).ask (.fn 32)),(38,(Dn Aj CT 200).ask (.fn 38)),(36,(Dn Aj CT 200).ask (.fn 36)),(34,(Bo Aj GW).ask (.fn 34))]
def Vu:Seat:=Mn Al AcB UH
def T8:Orc:=Bo Aj Vu
set_option maxRecDepth 100000 in
theorem Adn:Cj Tryz.prog Bk Ms:=⟨⟨_,_,_,rfl⟩,by kernel_rfl,trivial⟩
set_option maxRecDepth 100000 in
theorem Adr:Cj Tryz.prog Bk Ql:=⟨⟨_,_,_,rfl⟩,by kernel_rfl,⟨_,_,_,rfl⟩,by kernel_rfl,⟨_,_,_,rfl⟩,by kernel_rfl,trivial⟩
set_option maxRecDepth 100000 in
theorem Zm:Cj Tryz.prog Bk LK:=⟨⟨_,_,_,rfl⟩,by kernel_rfl,⟨_,_,_,rfl⟩,by kernel_rfl,⟨_,_,_,rfl⟩,by kernel_rfl,trivial⟩
set_option maxRecDepth 100000 in
theorem Zn:Cj Tryz.prog Bk LL:=⟨⟨_,_,_,rfl⟩,by kernel_rfl,⟨_,_,_,rfl⟩,by kernel_rfl,trivial⟩
set_option maxRecDepth 100000 in
theorem Adp:Cj Tryz.prog Bk OI:=by
 repeat refine⟨⟨_,_,_,rfl⟩,by kernel_rfl,?_⟩
 trivial
set_option maxRecDepth 100000 in
theorem Adq:Cj Tryz.prog Bk TM:=by
 repeat refine⟨⟨_,_,_,rfl⟩,by kernel_rfl,?_⟩
 trivial
set_option maxRecDepth 100000 in
theorem Adm:Cj Tryz.prog Bk OH:=by
 repeat refine⟨⟨_,_,_,rfl⟩,by kernel_rfl,?_⟩
 trivial
set_option maxRecDepth 100000 in
theorem Ado:Cj Tryz.prog Bk Qk:=⟨⟨_,_,_,rfl⟩,by kernel_rfl,⟨_,_,_,rfl⟩,by kernel_rfl,trivial⟩
theorem Xe:Cj Tryz.prog Bk AcB:=BH Adn (BH Adr (BH Zm (BH Zn (BH Adp (BH Adq (BH Adm (Ado)))))))
set_option maxRecDepth 100000 in
theorem Aap:FY Tryz.prog Bk:=Hr (n:=307) (by kernel_rfl)
theorem AlS:Knows Al Ms T8:=BK (λ_ _ h=>BN h) (by kernel_rfl)
theorem AlW:Knows Al Ql T8:=BK (λ_ _ h=>Ah (by kernel_rfl) (BN h)) (by kernel_rfl)
theorem Aa4:Knows Al LK T8:=BK (λ_ _ h=>Ah (by kernel_rfl) (Ah (by kernel_rfl) (BN h))) (by kernel_rfl)
theorem Ajq:Knows Al LL T8:=BK (λ_ _ h=>Ah (by kernel_rfl) (Ah (by kernel_rfl) (Ah (by kernel_rfl) (BN h)))) (by kernel_rfl)
theorem AlU:Knows Al OI T8:=BK (λ_ _ h=>Ah (by kernel_rfl) (Ah (by kernel_rfl) (Ah (by kernel_rfl) (Ah (by kernel_rfl) (BN h))))) (by kernel_rfl)
theorem AlV:Knows Al TM T8:=BK (λ_ _ h=>Ah (by kernel_rfl) (Ah (by kernel_rfl) (Ah (by kernel_rfl) (Ah (by kernel_rfl) (Ah (by kernel_rfl) (BN h)))))) (by kernel_rfl)
theorem AlR:Knows Al OH T8:=BK (λ_ _ h=>Ah (by kernel_rfl) (Ah (by kernel_rfl) (Ah (by kernel_rfl) (Ah (by kernel_rfl) (Ah (by kernel_rfl) (Ah (by kernel_rfl) (BN h))))))) (by kernel_rfl)
theorem AlT:Knows Al Qk T8:=BK (λ_ _ h=>Ah (by kernel_rfl) (Ah (by kernel_rfl) (Ah (by kernel_rfl) (Ah (by kernel_rfl) (Ah (by kernel_rfl) (Ah (by kernel_rfl) (Ah (by kernel_rfl) (h)))))))) (by kernel_rfl)
theorem OT{args:List AV}{bs:List ABlk}{r:AV × List BO}(h:((Dn Aj CT 200).ask (.fn 32):DF) args bs=some r):T8.ask (.fn 32) args bs=some r:=Cm (d:=(Dn Aj CT 200).ask (.fn 32)) rfl h
theorem AfU{args:List AV}{bs:List ABlk}{r:AV × List BO}(h:((Dn Aj CT 200).ask (.fn 38):DF) args bs=some r):T8.ask (.fn 38) args bs=some r:=Cm (d:=(Dn Aj CT 200).ask (.fn 38)) rfl h
theorem AcY{args:List AV}{bs:List ABlk}{r:AV × List BO}(h:((Dn Aj CT 200).ask (.fn 36):DF) args bs=some r):T8.ask (.fn 36) args bs=some r:=Cm (d:=(Dn Aj CT 200).ask (.fn 36)) rfl h
theorem VH{args:List AV}{bs:List ABlk}{r:AV × List BO}(h:((Bo Aj GW).ask (.fn 34):DF) args bs=some r):T8.ask (.fn 34) args bs=some r:=Cm (d:=(Bo Aj GW).ask (.fn 34)) rfl h
theorem YC(hParse:Bz (BS Tryz.prog 32) ((Dn Aj CT 200).ask (.fn 32)))(hText:Bz (BS Tryz.prog 38) ((Dn Aj CT 200).ask (.fn 38)))(hRight:Bz (BS Tryz.prog 36) ((Dn Aj CT 200).ask (.fn 36)))(hResolve:Bz (BS Tryz.prog 34) ((Bo Aj GW).ask (.fn 34))):SeatOk Tryz.prog Bk Vu where
 mixed:=by kernel_rfl
 ent:=Aap
 fns f mf h:=ER Xe f mf (Cq h)
 ext f d h:=by
  have hm:(f,d)∈UH:=Cq h;unfold UH at hm;simp only[List.mem_cons,Prod.mk.injEq,List.not_mem_nil,or_false]at hm;rcases hm with⟨rfl,rfl⟩|⟨rfl,rfl⟩|⟨rfl,rfl⟩|⟨rfl,rfl⟩
  .exact hParse
  .exact hText
  .exact hRight
  .exact hResolve
end
end Go.Proofs.YtlmhajfbpplpoaaGreat
