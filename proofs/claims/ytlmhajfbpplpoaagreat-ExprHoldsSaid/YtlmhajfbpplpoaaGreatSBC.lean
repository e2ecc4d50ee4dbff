/- A seat of D: tables of functions, and what is told -/
import Derived.Test.YtlmhajfbpplpoaaGreatSAS
import Derived.Test.YtlmhajfbpplpoaaGreatSAW
import Derived.Test.YtlmhajfbpplpoaaGreatSAY
import Derived.Test.YtlmhajfbpplpoaaGreatSAZ
import Derived.Test.YtlmhajfbpplpoaaGreatSBA
import Derived.Test.YtlmhajfbpplpoaaGreatSBB
import Derived.Test.YtlmhajfbpplpoaaGreatSAU
set_option linter.unusedSectionVars false
set_option linter.unusedSimpArgs false
set_option linter.unusedVariables false
namespace Go.Proofs.YtlmhajfbpplpoaaGreat
open Go.RowKit
noncomputable def Aax:List (Nat × MFn):=LN++(NY++(VJ++(GY++(J6++(PC++(NZ++(SN++(Fz++(J7++(LO++(NX++(Pz++(PA++(SM++(VK++(PB))))))))))))))))
noncomputable def TG:List (Nat × DF):=[(109,Cx CF),(108,Cx BV),(22,Cx Co),(240,Fh 1 (Ch 1 4)),(151,Fh 3 (Ch 3 40)),(263,Fh 3 (GI 40)),(17,(Dn Ao Cp 200).ask (.fn 17)),(15,(Dn Ao Cp 200).ask (.fn 15)),(25,(Dn Ao Cp 200).ask (.fn 25)),(47,(Dn Ao Cp 200).ask (.fn 47))]
noncomputable def Um:Seat:=Pq As Aax TG
noncomputable def Ib:Orc:=Ck Ao Um
set_option maxRecDepth 100000 in
theorem Aa3:CG Tryz.prog Ah LN:=⟨⟨_,_,_,rfl⟩,by kernel_rfl,⟨_,_,_,rfl⟩,by kernel_rfl,trivial⟩
set_option maxRecDepth 100000 in
theorem Aba:CG Tryz.prog Ah NY:=⟨⟨_,_,_,rfl⟩,by kernel_rfl,trivial⟩
set_option maxRecDepth 100000 in
theorem Aa1:CG Tryz.prog Ah VJ:=⟨⟨_,_,_,rfl⟩,by kernel_rfl,trivial⟩
set_option maxRecDepth 100000 in
theorem Abg:CG Tryz.prog Ah GY:=⟨⟨_,_,_,rfl⟩,by kernel_rfl,⟨_,_,_,rfl⟩,by kernel_rfl,⟨_,_,_,rfl⟩,by kernel_rfl,⟨_,_,_,rfl⟩,by kernel_rfl,⟨_,_,_,rfl⟩,by kernel_rfl,⟨_,_,_,rfl⟩,by kernel_rfl,⟨_,_,_,rfl⟩,by kernel_rfl,⟨_,_,_,rfl⟩,by kernel_rfl,⟨_,_,_,rfl⟩,by kernel_rfl,⟨_,_,_,rfl⟩,by kernel_rfl,⟨_,_,_,rfl⟩,by kernel_rfl,⟨_,_,_,rfl⟩,by kernel_rfl,trivial⟩
set_option maxRecDepth 100000 in
theorem Aa8:CG Tryz.prog Ah J6:=⟨⟨_,_,_,rfl⟩,by kernel_rfl,⟨_,_,_,rfl⟩,by kernel_rfl,⟨_,_,_,rfl⟩,by kernel_rfl,⟨_,_,_,rfl⟩,by kernel_rfl,⟨_,_,_,rfl⟩,by kernel_rfl,⟨_,_,_,rfl⟩,by kernel_rfl,⟨_,_,_,rfl⟩,by kernel_rfl,⟨_,_,_,rfl⟩,by kernel_rfl,⟨_,_,_,rfl⟩,by kernel_rfl,⟨_,_,_,rfl⟩,by kernel_rfl,⟨_,_,_,rfl⟩,by kernel_rfl,trivial⟩
set_option maxRecDepth 100000 in
theorem Abj:CG Tryz.prog Ah PC:=⟨⟨_,_,_,rfl⟩,by kernel_rfl,⟨_,_,_,rfl⟩,by kernel_rfl,⟨_,_,_,rfl⟩,by kernel_rfl,⟨_,_,_,rfl⟩,by kernel_rfl,⟨_,_,_,rfl⟩,by kernel_rfl,⟨_,_,_,rfl⟩,by kernel_rfl,⟨_,_,_,rfl⟩,by kernel_rfl,⟨_,_,_,rfl⟩,by kernel_rfl,⟨_,_,_,rfl⟩,by kernel_rfl,⟨_,_,_,rfl⟩,by kernel_rfl,⟨_,_,_,rfl⟩,by kernel_rfl,⟨_,_,_,rfl⟩,by kernel_rfl,trivial⟩
set_option maxRecDepth 100000 in
theorem Abc:CG Tryz.prog Ah NZ:=⟨⟨_,_,_,rfl⟩,by kernel_rfl,⟨_,_,_,rfl⟩,by kernel_rfl,⟨_,_,_,rfl⟩,by kernel_rfl,⟨_,_,_,rfl⟩,by kernel_rfl,⟨_,_,_,rfl⟩,by kernel_rfl,⟨_,_,_,rfl⟩,by kernel_rfl,⟨_,_,_,rfl⟩,by kernel_rfl,⟨_,_,_,rfl⟩,by kernel_rfl,⟨_,_,_,rfl⟩,by kernel_rfl,⟨_,_,_,rfl⟩,by kernel_rfl,trivial⟩
set_option maxRecDepth 100000 in
theorem Abd:CG Tryz.prog Ah SN:=⟨⟨_,_,_,rfl⟩,by kernel_rfl,⟨_,_,_,rfl⟩,by kernel_rfl,⟨_,_,_,rfl⟩,by kernel_rfl,⟨_,_,_,rfl⟩,by kernel_rfl,⟨_,_,_,rfl⟩,by kernel_rfl,⟨_,_,_,rfl⟩,by kernel_rfl,⟨_,_,_,rfl⟩,by kernel_rfl,⟨_,_,_,rfl⟩,by kernel_rfl,⟨_,_,_,rfl⟩,by kernel_rfl,⟨_,_,_,rfl⟩,by kernel_rfl,⟨_,_,_,rfl⟩,by kernel_rfl,trivial⟩
set_option maxRecDepth 100000 in
theorem Abf:CG Tryz.prog Ah Fz:=⟨⟨_,_,_,rfl⟩,by kernel_rfl,⟨_,_,_,rfl⟩,by kernel_rfl,⟨_,_,_,rfl⟩,by kernel_rfl,⟨_,_,_,rfl⟩,by kernel_rfl,⟨_,_,_,rfl⟩,by kernel_rfl,⟨_,_,_,rfl⟩,by kernel_rfl,⟨_,_,_,rfl⟩,by kernel_rfl,⟨_,_,_,rfl⟩,by kernel_rfl,⟨_,_,_,rfl⟩,by kernel_rfl,⟨_,_,_,rfl⟩,by kernel_rfl,⟨_,_,_,rfl⟩,by kernel_rfl,⟨_,_,_,rfl⟩,by kernel_rfl,trivial⟩
set_option maxRecDepth 100000 in
theorem Abh:CG Tryz.prog Ah J7:=⟨⟨_,_,_,rfl⟩,by kernel_rfl,⟨_,_,_,rfl⟩,by kernel_rfl,trivial⟩
set_option maxRecDepth 100000 in
theorem Abi:CG Tryz.prog Ah LO:=⟨⟨_,_,_,rfl⟩,by kernel_rfl,⟨_,_,_,rfl⟩,by kernel_rfl,⟨_,_,_,rfl⟩,by kernel_rfl,⟨_,_,_,rfl⟩,by kernel_rfl,⟨_,_,_,rfl⟩,by kernel_rfl,⟨_,_,_,rfl⟩,by kernel_rfl,⟨_,_,_,rfl⟩,by kernel_rfl,⟨_,_,_,rfl⟩,by kernel_rfl,trivial⟩
set_option maxRecDepth 100000 in
theorem Aa6:CG Tryz.prog Ah NX:=⟨⟨_,_,_,rfl⟩,by kernel_rfl,⟨_,_,_,rfl⟩,by kernel_rfl,⟨_,_,_,rfl⟩,by kernel_rfl,⟨_,_,_,rfl⟩,by kernel_rfl,⟨_,_,_,rfl⟩,by kernel_rfl,⟨_,_,_,rfl⟩,by kernel_rfl,⟨_,_,_,rfl⟩,by kernel_rfl,⟨_,_,_,rfl⟩,by kernel_rfl,⟨_,_,_,rfl⟩,by kernel_rfl,⟨_,_,_,rfl⟩,by kernel_rfl,trivial⟩
set_option maxRecDepth 100000 in
theorem Aa5:CG Tryz.prog Ah Pz:=⟨⟨_,_,_,rfl⟩,by kernel_rfl,⟨_,_,_,rfl⟩,by kernel_rfl,⟨_,_,_,rfl⟩,by kernel_rfl,trivial⟩
set_option maxRecDepth 100000 in
theorem Aa9:CG Tryz.prog Ah PA:=⟨⟨_,_,_,rfl⟩,by kernel_rfl,⟨_,_,_,rfl⟩,by kernel_rfl,⟨_,_,_,rfl⟩,by kernel_rfl,⟨_,_,_,rfl⟩,by kernel_rfl,⟨_,_,_,rfl⟩,by kernel_rfl,trivial⟩
set_option maxRecDepth 100000 in
theorem Abb:CG Tryz.prog Ah SM:=⟨⟨_,_,_,rfl⟩,by kernel_rfl,⟨_,_,_,rfl⟩,by kernel_rfl,trivial⟩
set_option maxRecDepth 100000 in
theorem Aa7:CG Tryz.prog Ah VK:=⟨⟨_,_,_,rfl⟩,by kernel_rfl,trivial⟩
set_option maxRecDepth 100000 in
theorem Abe:CG Tryz.prog Ah PB:=⟨⟨_,_,_,rfl⟩,by kernel_rfl,⟨_,_,_,rfl⟩,by kernel_rfl,⟨_,_,_,rfl⟩,by kernel_rfl,trivial⟩
theorem VV:CG Tryz.prog Ah Aax:=BQ Aa3 (BQ Aba (BQ Aa1 (BQ Abg (BQ Aa8 (BQ Abj (BQ Abc (BQ Abd (BQ Abf (BQ Abh (BQ Abi (BQ Aa6 (BQ Aa5 (BQ Aa9 (BQ Abb (BQ Aa7 (Abe))))))))))))))))
set_option maxRecDepth 100000 in
theorem YL:G4 Tryz.prog Ah:=MV (n:=307) (by kernel_rfl)
theorem Zd:Knows As LN Ib:=B0 (fun _ _ h=>BU h) (by kernel_rfl)
theorem Aj0:Knows As NY Ib:=B0 (fun _ _ h=>Ae (by kernel_rfl) (BU h)) (by kernel_rfl)
theorem AjW:Knows As VJ Ib:=B0 (fun _ _ h=>Ae (by kernel_rfl) (Ae (by kernel_rfl) (BU h))) (by kernel_rfl)
theorem Nk:Knows As GY Ib:=B0 (fun _ _ h=>Ae (by kernel_rfl) (Ae (by kernel_rfl) (Ae (by kernel_rfl) (BU h)))) (by kernel_rfl)
theorem AjY:Knows As J6 Ib:=B0 (fun _ _ h=>Ae (by kernel_rfl) (Ae (by kernel_rfl) (Ae (by kernel_rfl) (Ae (by kernel_rfl) (BU h))))) (by kernel_rfl)
theorem Aj6:Knows As PC Ib:=B0 (fun _ _ h=>Ae (by kernel_rfl) (Ae (by kernel_rfl) (Ae (by kernel_rfl) (Ae (by kernel_rfl) (Ae (by kernel_rfl) (BU h)))))) (by kernel_rfl)
theorem Aj2:Knows As NZ Ib:=B0 (fun _ _ h=>Ae (by kernel_rfl) (Ae (by kernel_rfl) (Ae (by kernel_rfl) (Ae (by kernel_rfl) (Ae (by kernel_rfl) (Ae (by kernel_rfl) (BU h))))))) (by kernel_rfl)
theorem Aj3:Knows As SN Ib:=B0 (fun _ _ h=>Ae (by kernel_rfl) (Ae (by kernel_rfl) (Ae (by kernel_rfl) (Ae (by kernel_rfl) (Ae (by kernel_rfl) (Ae (by kernel_rfl) (Ae (by kernel_rfl) (BU h)))))))) (by kernel_rfl)
theorem Zf:Knows As Fz Ib:=B0 (fun _ _ h=>Ae (by kernel_rfl) (Ae (by kernel_rfl) (Ae (by kernel_rfl) (Ae (by kernel_rfl) (Ae (by kernel_rfl) (Ae (by kernel_rfl) (Ae (by kernel_rfl) (Ae (by kernel_rfl) (BU h))))))))) (by kernel_rfl)
theorem Zg:Knows As J7 Ib:=B0 (fun _ _ h=>Ae (by kernel_rfl) (Ae (by kernel_rfl) (Ae (by kernel_rfl) (Ae (by kernel_rfl) (Ae (by kernel_rfl) (Ae (by kernel_rfl) (Ae (by kernel_rfl) (Ae (by kernel_rfl) (Ae (by kernel_rfl) (BU h)))))))))) (by kernel_rfl)
theorem Aey:Knows As LO Ib:=B0 (fun _ _ h=>Ae (by kernel_rfl) (Ae (by kernel_rfl) (Ae (by kernel_rfl) (Ae (by kernel_rfl) (Ae (by kernel_rfl) (Ae (by kernel_rfl) (Ae (by kernel_rfl) (Ae (by kernel_rfl) (Ae (by kernel_rfl) (Ae (by kernel_rfl) (BU h))))))))))) (by kernel_rfl)
theorem Aex:Knows As NX Ib:=B0 (fun _ _ h=>Ae (by kernel_rfl) (Ae (by kernel_rfl) (Ae (by kernel_rfl) (Ae (by kernel_rfl) (Ae (by kernel_rfl) (Ae (by kernel_rfl) (Ae (by kernel_rfl) (Ae (by kernel_rfl) (Ae (by kernel_rfl) (Ae (by kernel_rfl) (Ae (by kernel_rfl) (BU h)))))))))))) (by kernel_rfl)
theorem Ze:Knows As Pz Ib:=B0 (fun _ _ h=>Ae (by kernel_rfl) (Ae (by kernel_rfl) (Ae (by kernel_rfl) (Ae (by kernel_rfl) (Ae (by kernel_rfl) (Ae (by kernel_rfl) (Ae (by kernel_rfl) (Ae (by kernel_rfl) (Ae (by kernel_rfl) (Ae (by kernel_rfl) (Ae (by kernel_rfl) (Ae (by kernel_rfl) (BU h))))))))))))) (by kernel_rfl)
theorem AjZ:Knows As PA Ib:=B0 (fun _ _ h=>Ae (by kernel_rfl) (Ae (by kernel_rfl) (Ae (by kernel_rfl) (Ae (by kernel_rfl) (Ae (by kernel_rfl) (Ae (by kernel_rfl) (Ae (by kernel_rfl) (Ae (by kernel_rfl) (Ae (by kernel_rfl) (Ae (by kernel_rfl) (Ae (by kernel_rfl) (Ae (by kernel_rfl) (Ae (by kernel_rfl) (BU h)))))))))))))) (by kernel_rfl)
theorem Aj1:Knows As SM Ib:=B0 (fun _ _ h=>Ae (by kernel_rfl) (Ae (by kernel_rfl) (Ae (by kernel_rfl) (Ae (by kernel_rfl) (Ae (by kernel_rfl) (Ae (by kernel_rfl) (Ae (by kernel_rfl) (Ae (by kernel_rfl) (Ae (by kernel_rfl) (Ae (by kernel_rfl) (Ae (by kernel_rfl) (Ae (by kernel_rfl) (Ae (by kernel_rfl) (Ae (by kernel_rfl) (BU h))))))))))))))) (by kernel_rfl)
theorem AjX:Knows As VK Ib:=B0 (fun _ _ h=>Ae (by kernel_rfl) (Ae (by kernel_rfl) (Ae (by kernel_rfl) (Ae (by kernel_rfl) (Ae (by kernel_rfl) (Ae (by kernel_rfl) (Ae (by kernel_rfl) (Ae (by kernel_rfl) (Ae (by kernel_rfl) (Ae (by kernel_rfl) (Ae (by kernel_rfl) (Ae (by kernel_rfl) (Ae (by kernel_rfl) (Ae (by kernel_rfl) (Ae (by kernel_rfl) (BU h)))))))))))))))) (by kernel_rfl)
theorem Aj4:Knows As PB Ib:=B0 (fun _ _ h=>Ae (by kernel_rfl) (Ae (by kernel_rfl) (Ae (by kernel_rfl) (Ae (by kernel_rfl) (Ae (by kernel_rfl) (Ae (by kernel_rfl) (Ae (by kernel_rfl) (Ae (by kernel_rfl) (Ae (by kernel_rfl) (Ae (by kernel_rfl) (Ae (by kernel_rfl) (Ae (by kernel_rfl) (Ae (by kernel_rfl) (Ae (by kernel_rfl) (Ae (by kernel_rfl) (Ae (by kernel_rfl) (h))))))))))))))))) (by kernel_rfl)
theorem Adn{args:List AV}{bs:List ABlk}{r:AV × List BO}(h:(Cx CF:DF) args bs=some r):Ib.ask (.fn 109) args bs=some r:=CU (d:=Cx CF) rfl h
theorem XE{args:List AV}{bs:List ABlk}{r:AV × List BO}(h:(Cx BV:DF) args bs=some r):Ib.ask (.fn 108) args bs=some r:=CU (d:=Cx BV) rfl h
theorem Uz{args:List AV}{bs:List ABlk}{r:AV × List BO}(h:(Cx Co:DF) args bs=some r):Ib.ask (.fn 22) args bs=some r:=CU (d:=Cx Co) rfl h
theorem XC{args:List AV}{bs:List ABlk}{r:AV × List BO}(h:(Fh 1 (Ch 1 4):DF) args bs=some r):Ib.ask (.fn 240) args bs=some r:=CU (d:=Fh 1 (Ch 1 4)) rfl h
theorem XD{args:List AV}{bs:List ABlk}{r:AV × List BO}(h:(Fh 3 (Ch 3 40):DF) args bs=some r):Ib.ask (.fn 151) args bs=some r:=CU (d:=Fh 3 (Ch 3 40)) rfl h
theorem AaO{args:List AV}{bs:List ABlk}{r:AV × List BO}(h:(Fh 3 (GI 40):DF) args bs=some r):Ib.ask (.fn 263) args bs=some r:=CU (d:=Fh 3 (GI 40)) rfl h
theorem Km{args:List AV}{bs:List ABlk}{r:AV × List BO}(h:((Dn Ao Cp 200).ask (.fn 17):DF) args bs=some r):Ib.ask (.fn 17) args bs=some r:=CU (d:=(Dn Ao Cp 200).ask (.fn 17)) rfl h
theorem S4{args:List AV}{bs:List ABlk}{r:AV × List BO}(h:((Dn Ao Cp 200).ask (.fn 15):DF) args bs=some r):Ib.ask (.fn 15) args bs=some r:=CU (d:=(Dn Ao Cp 200).ask (.fn 15)) rfl h
theorem Ado{args:List AV}{bs:List ABlk}{r:AV × List BO}(h:((Dn Ao Cp 200).ask (.fn 25):DF) args bs=some r):Ib.ask (.fn 25) args bs=some r:=CU (d:=(Dn Ao Cp 200).ask (.fn 25)) rfl h
theorem Oa{args:List AV}{bs:List ABlk}{r:AV × List BO}(h:((Dn Ao Cp 200).ask (.fn 47):DF) args bs=some r):Ib.ask (.fn 47) args bs=some r:=CU (d:=(Dn Ao Cp 200).ask (.fn 47)) rfl h
theorem Xd(hName:BC (BZ Tryz.prog 109) (Cx CF))(hNumber:BC (BZ Tryz.prog 108) (Cx BV))(hSumText:BC (BZ Tryz.prog 22) (Cx Co))(hCloneN:BC (BZ Tryz.prog 240) (Fh 1 (Ch 1 4)))(hCloneP:BC (BZ Tryz.prog 151) (Fh 3 (Ch 3 40)))(hGrowP:BC (BZ Tryz.prog 263) (Fh 3 (GI 40)))(hParseCond:BC (BZ Tryz.prog 17) ((Dn Ao Cp 200).ask (.fn 17)))(hParseSum:BC (BZ Tryz.prog 15) ((Dn Ao Cp 200).ask (.fn 15)))(hText:BC (BZ Tryz.prog 25) ((Dn Ao Cp 200).ask (.fn 25)))(hCompareText:BC (BZ Tryz.prog 47) ((Dn Ao Cp 200).ask (.fn 47))):SeatOk Tryz.prog Ah Um where
 mixed:=by kernel_rfl
 ent:=YL
 fns f mf h:=Ic VV f mf (Df h)
 ext f d h:=by
  have hm:(f,d)∈TG:=Df h
  unfold TG at hm
  simp only[List.mem_cons,Prod.mk.injEq,List.not_mem_nil,or_false]at hm
  rcases hm with⟨rfl,rfl⟩|⟨rfl,rfl⟩|⟨rfl,rfl⟩|⟨rfl,rfl⟩|⟨rfl,rfl⟩|⟨rfl,rfl⟩|⟨rfl,rfl⟩|⟨rfl,rfl⟩|⟨rfl,rfl⟩|⟨rfl,rfl⟩
  .exact hName
  .exact hNumber
  .exact hSumText
  .exact hCloneN
  .exact hCloneP
  .exact hGrowP
  .exact hParseCond
  .exact hParseSum
  .exact hText
  .exact hCompareText
end Go.Proofs.YtlmhajfbpplpoaaGreat
