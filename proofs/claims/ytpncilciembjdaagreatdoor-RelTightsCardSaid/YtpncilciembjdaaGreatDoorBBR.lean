/- A seat of D: tables of f -/
import Derived.Test.YtpncilciembjdaaGreatDoorBBQ
set_option linter.all false
namespace Go.Proofs.YtpncilciembjdaaGreatDoor
noncomputable section
open Tryz renaming prog->ψ
open Go.RowKit
def ZH:List (Nat × MFn):=Gb++(Hx++(Eh++(Gc++(KN++(KK++(RI++(RJ++(RD++(RC++(RB++(Hw++(Nc++(Hv++(Ow++(GU++(Nb++(RE++(Ox++(RG++(RH++(PV)))))))))))))))))))))
def SB:List (Nat × DF):=[(236,Cg 1 (Bk 1 4)),(135,Cg 3 (Bk 3 40)),(262,Cg 3 (DL 40)),(144,(AC Ag D3).ask (.fn 144)),(65,(AC Ag GQ).ask (.fn 65)),(15,(AC Ag Io).ask (.fn 15))]
def Ti:Seat:=Ht As ZH SB
def Gd:Orc:=AC Ag Ti
set_option maxRecDepth 100000 in
theorem Aaf:BI ψ Bb Gb:=by
 repeat refine⟨⟨_,_,_,rfl⟩,by kernel_rfl,?_⟩
 trivial
set_option maxRecDepth 100000 in
theorem AaE:BI ψ Bb Hx:=by
 repeat refine⟨⟨_,_,_,rfl⟩,by kernel_rfl,?_⟩
 trivial
set_option maxRecDepth 100000 in
theorem Aav:BI ψ Bb Eh:=by
 repeat refine⟨⟨_,_,_,rfl⟩,by kernel_rfl,?_⟩
 trivial
set_option maxRecDepth 100000 in
theorem Aaz:BI ψ Bb Gc:=⟨⟨_,_,_,rfl⟩,by kernel_rfl,⟨_,_,_,rfl⟩,by kernel_rfl,trivial⟩
set_option maxRecDepth 100000 in
theorem AaB:BI ψ Bb KN:=by
 repeat refine⟨⟨_,_,_,rfl⟩,by kernel_rfl,?_⟩
 trivial
set_option maxRecDepth 100000 in
theorem Aai:BI ψ Bb KK:=by
 repeat refine⟨⟨_,_,_,rfl⟩,by kernel_rfl,?_⟩
 trivial
set_option maxRecDepth 100000 in
theorem Aay:BI ψ Bb RI:=⟨⟨_,_,_,rfl⟩,by kernel_rfl,trivial⟩
set_option maxRecDepth 100000 in
theorem AaD:BI ψ Bb RJ:=⟨⟨_,_,_,rfl⟩,by kernel_rfl,⟨_,_,_,rfl⟩,by kernel_rfl,trivial⟩
set_option maxRecDepth 100000 in
theorem Aak:BI ψ Bb RD:=⟨⟨_,_,_,rfl⟩,by kernel_rfl,⟨_,_,_,rfl⟩,by kernel_rfl,trivial⟩
set_option maxRecDepth 100000 in
theorem Aae:BI ψ Bb RC:=by
 repeat refine⟨⟨_,_,_,rfl⟩,by kernel_rfl,?_⟩
 trivial
set_option maxRecDepth 100000 in
theorem Aad:BI ψ Bb RB:=⟨⟨_,_,_,rfl⟩,by kernel_rfl,trivial⟩
set_option maxRecDepth 100000 in
theorem Aao:BI ψ Bb Hw:=by
 repeat refine⟨⟨_,_,_,rfl⟩,by kernel_rfl,?_⟩
 trivial
set_option maxRecDepth 100000 in
theorem Aau:BI ψ Bb Nc:=by
 repeat refine⟨⟨_,_,_,rfl⟩,by kernel_rfl,?_⟩
 trivial
set_option maxRecDepth 100000 in
theorem Aam:BI ψ Bb Hv:=by
 repeat refine⟨⟨_,_,_,rfl⟩,by kernel_rfl,?_⟩
 trivial
set_option maxRecDepth 100000 in
theorem Aan:BI ψ Bb Ow:=by
 repeat refine⟨⟨_,_,_,rfl⟩,by kernel_rfl,?_⟩
 trivial
set_option maxRecDepth 100000 in
theorem Aar:BI ψ Bb GU:=by
 repeat refine⟨⟨_,_,_,rfl⟩,by kernel_rfl,?_⟩
 trivial
set_option maxRecDepth 100000 in
theorem Aap:BI ψ Bb Nb:=by
 repeat refine⟨⟨_,_,_,rfl⟩,by kernel_rfl,?_⟩
 trivial
set_option maxRecDepth 100000 in
theorem Aal:BI ψ Bb RE:=⟨⟨_,_,_,rfl⟩,by kernel_rfl,⟨_,_,_,rfl⟩,by kernel_rfl,trivial⟩
set_option maxRecDepth 100000 in
theorem Aaq:BI ψ Bb Ox:=⟨⟨_,_,_,rfl⟩,by kernel_rfl,⟨_,_,_,rfl⟩,by kernel_rfl,trivial⟩
set_option maxRecDepth 100000 in
theorem Aas:BI ψ Bb RG:=⟨⟨_,_,_,rfl⟩,by kernel_rfl,trivial⟩
set_option maxRecDepth 100000 in
theorem Aat:BI ψ Bb RH:=by
 repeat refine⟨⟨_,_,_,rfl⟩,by kernel_rfl,?_⟩
 trivial
set_option maxRecDepth 100000 in
theorem WI:BI ψ Bb PV:=⟨⟨_,_,_,rfl⟩,by kernel_rfl,trivial⟩
theorem UT:BI ψ Bb ZH:=Bn Aaf (Bn AaE (Bn Aav (Bn Aaz (Bn AaB (Bn Aai (Bn Aay (Bn AaD (Bn Aak (Bn Aae (Bn Aad (Bn Aao (Bn Aau (Bn Aam (Bn Aan (Bn Aar (Bn Aap (Bn Aal (Bn Aaq (Bn Aas (Bn Aat (WI)))))))))))))))))))))
set_option maxRecDepth 100000 in
theorem XH:Ex ψ Bb:=ED (n:=310) (by kernel_rfl)
theorem Age:Knows As Gb Gd:=Bq (λ_ _ h=>Br h) (by kernel_rfl)
theorem Agl:Knows As Hx Gd:=Bq (λ_ _ h=>Ac (by kernel_rfl) (Br h)) (by kernel_rfl)
theorem Agi:Knows As Eh Gd:=Bq (λ_ _ h=>Ac (by kernel_rfl) (Ac (by kernel_rfl) (Br h))) (by kernel_rfl)
theorem Agj:Knows As Gc Gd:=Bq (λ_ _ h=>Ac (by kernel_rfl) (Ac (by kernel_rfl) (Ac (by kernel_rfl) (Br h)))) (by kernel_rfl)
theorem Agk:Knows As KN Gd:=Bq (λ_ _ h=>Ac (by kernel_rfl) (Ac (by kernel_rfl) (Ac (by kernel_rfl) (Ac (by kernel_rfl) (Br h))))) (by kernel_rfl)
theorem AkT:Knows As KK Gd:=Bq (λ_ _ h=>Ac (by kernel_rfl) (Ac (by kernel_rfl) (Ac (by kernel_rfl) (Ac (by kernel_rfl) (Ac (by kernel_rfl) (Br h)))))) (by kernel_rfl)
theorem Ak5:Knows As RI Gd:=Bq (λ_ _ h=>Ac (by kernel_rfl) (Ac (by kernel_rfl) (Ac (by kernel_rfl) (Ac (by kernel_rfl) (Ac (by kernel_rfl) (Ac (by kernel_rfl) (Br h))))))) (by kernel_rfl)
theorem Ak7:Knows As RJ Gd:=Bq (λ_ _ h=>Ac (by kernel_rfl) (Ac (by kernel_rfl) (Ac (by kernel_rfl) (Ac (by kernel_rfl) (Ac (by kernel_rfl) (Ac (by kernel_rfl) (Ac (by kernel_rfl) (Br h)))))))) (by kernel_rfl)
theorem AkV:Knows As RD Gd:=Bq (λ_ _ h=>Ac (by kernel_rfl) (Ac (by kernel_rfl) (Ac (by kernel_rfl) (Ac (by kernel_rfl) (Ac (by kernel_rfl) (Ac (by kernel_rfl) (Ac (by kernel_rfl) (Ac (by kernel_rfl) (Br h))))))))) (by kernel_rfl)
theorem AkR:Knows As RC Gd:=Bq (λ_ _ h=>Ac (by kernel_rfl) (Ac (by kernel_rfl) (Ac (by kernel_rfl) (Ac (by kernel_rfl) (Ac (by kernel_rfl) (Ac (by kernel_rfl) (Ac (by kernel_rfl) (Ac (by kernel_rfl) (Ac (by kernel_rfl) (Br h)))))))))) (by kernel_rfl)
theorem AkQ:Knows As RB Gd:=Bq (λ_ _ h=>Ac (by kernel_rfl) (Ac (by kernel_rfl) (Ac (by kernel_rfl) (Ac (by kernel_rfl) (Ac (by kernel_rfl) (Ac (by kernel_rfl) (Ac (by kernel_rfl) (Ac (by kernel_rfl) (Ac (by kernel_rfl) (Ac (by kernel_rfl) (Br h))))))))))) (by kernel_rfl)
theorem Agg:Knows As Hw Gd:=Bq (λ_ _ h=>Ac (by kernel_rfl) (Ac (by kernel_rfl) (Ac (by kernel_rfl) (Ac (by kernel_rfl) (Ac (by kernel_rfl) (Ac (by kernel_rfl) (Ac (by kernel_rfl) (Ac (by kernel_rfl) (Ac (by kernel_rfl) (Ac (by kernel_rfl) (Ac (by kernel_rfl) (Br h)))))))))))) (by kernel_rfl)
theorem Agh:Knows As Nc Gd:=Bq (λ_ _ h=>Ac (by kernel_rfl) (Ac (by kernel_rfl) (Ac (by kernel_rfl) (Ac (by kernel_rfl) (Ac (by kernel_rfl) (Ac (by kernel_rfl) (Ac (by kernel_rfl) (Ac (by kernel_rfl) (Ac (by kernel_rfl) (Ac (by kernel_rfl) (Ac (by kernel_rfl) (Ac (by kernel_rfl) (Br h))))))))))))) (by kernel_rfl)
theorem AkX:Knows As Hv Gd:=Bq (λ_ _ h=>Ac (by kernel_rfl) (Ac (by kernel_rfl) (Ac (by kernel_rfl) (Ac (by kernel_rfl) (Ac (by kernel_rfl) (Ac (by kernel_rfl) (Ac (by kernel_rfl) (Ac (by kernel_rfl) (Ac (by kernel_rfl) (Ac (by kernel_rfl) (Ac (by kernel_rfl) (Ac (by kernel_rfl) (Ac (by kernel_rfl) (Br h)))))))))))))) (by kernel_rfl)
theorem AkY:Knows As Ow Gd:=Bq (λ_ _ h=>Ac (by kernel_rfl) (Ac (by kernel_rfl) (Ac (by kernel_rfl) (Ac (by kernel_rfl) (Ac (by kernel_rfl) (Ac (by kernel_rfl) (Ac (by kernel_rfl) (Ac (by kernel_rfl) (Ac (by kernel_rfl) (Ac (by kernel_rfl) (Ac (by kernel_rfl) (Ac (by kernel_rfl) (Ac (by kernel_rfl) (Ac (by kernel_rfl) (Br h))))))))))))))) (by kernel_rfl)
theorem Ak1:Knows As GU Gd:=Bq (λ_ _ h=>Ac (by kernel_rfl) (Ac (by kernel_rfl) (Ac (by kernel_rfl) (Ac (by kernel_rfl) (Ac (by kernel_rfl) (Ac (by kernel_rfl) (Ac (by kernel_rfl) (Ac (by kernel_rfl) (Ac (by kernel_rfl) (Ac (by kernel_rfl) (Ac (by kernel_rfl) (Ac (by kernel_rfl) (Ac (by kernel_rfl) (Ac (by kernel_rfl) (Ac (by kernel_rfl) (Br h)))))))))))))))) (by kernel_rfl)
theorem AkZ:Knows As Nb Gd:=Bq (λ_ _ h=>Ac (by kernel_rfl) (Ac (by kernel_rfl) (Ac (by kernel_rfl) (Ac (by kernel_rfl) (Ac (by kernel_rfl) (Ac (by kernel_rfl) (Ac (by kernel_rfl) (Ac (by kernel_rfl) (Ac (by kernel_rfl) (Ac (by kernel_rfl) (Ac (by kernel_rfl) (Ac (by kernel_rfl) (Ac (by kernel_rfl) (Ac (by kernel_rfl) (Ac (by kernel_rfl) (Ac (by kernel_rfl) (Br h))))))))))))))))) (by kernel_rfl)
theorem AkW:Knows As RE Gd:=Bq (λ_ _ h=>Ac (by kernel_rfl) (Ac (by kernel_rfl) (Ac (by kernel_rfl) (Ac (by kernel_rfl) (Ac (by kernel_rfl) (Ac (by kernel_rfl) (Ac (by kernel_rfl) (Ac (by kernel_rfl) (Ac (by kernel_rfl) (Ac (by kernel_rfl) (Ac (by kernel_rfl) (Ac (by kernel_rfl) (Ac (by kernel_rfl) (Ac (by kernel_rfl) (Ac (by kernel_rfl) (Ac (by kernel_rfl) (Ac (by kernel_rfl) (Br h)))))))))))))))))) (by kernel_rfl)
theorem Ak0:Knows As Ox Gd:=Bq (λ_ _ h=>Ac (by kernel_rfl) (Ac (by kernel_rfl) (Ac (by kernel_rfl) (Ac (by kernel_rfl) (Ac (by kernel_rfl) (Ac (by kernel_rfl) (Ac (by kernel_rfl) (Ac (by kernel_rfl) (Ac (by kernel_rfl) (Ac (by kernel_rfl) (Ac (by kernel_rfl) (Ac (by kernel_rfl) (Ac (by kernel_rfl) (Ac (by kernel_rfl) (Ac (by kernel_rfl) (Ac (by kernel_rfl) (Ac (by kernel_rfl) (Ac (by kernel_rfl) (Br h))))))))))))))))))) (by kernel_rfl)
theorem Ak2:Knows As RG Gd:=Bq (λ_ _ h=>Ac (by kernel_rfl) (Ac (by kernel_rfl) (Ac (by kernel_rfl) (Ac (by kernel_rfl) (Ac (by kernel_rfl) (Ac (by kernel_rfl) (Ac (by kernel_rfl) (Ac (by kernel_rfl) (Ac (by kernel_rfl) (Ac (by kernel_rfl) (Ac (by kernel_rfl) (Ac (by kernel_rfl) (Ac (by kernel_rfl) (Ac (by kernel_rfl) (Ac (by kernel_rfl) (Ac (by kernel_rfl) (Ac (by kernel_rfl) (Ac (by kernel_rfl) (Ac (by kernel_rfl) (Br h)))))))))))))))))))) (by kernel_rfl)
theorem Ak3:Knows As RH Gd:=Bq (λ_ _ h=>Ac (by kernel_rfl) (Ac (by kernel_rfl) (Ac (by kernel_rfl) (Ac (by kernel_rfl) (Ac (by kernel_rfl) (Ac (by kernel_rfl) (Ac (by kernel_rfl) (Ac (by kernel_rfl) (Ac (by kernel_rfl) (Ac (by kernel_rfl) (Ac (by kernel_rfl) (Ac (by kernel_rfl) (Ac (by kernel_rfl) (Ac (by kernel_rfl) (Ac (by kernel_rfl) (Ac (by kernel_rfl) (Ac (by kernel_rfl) (Ac (by kernel_rfl) (Ac (by kernel_rfl) (Ac (by kernel_rfl) (Br h))))))))))))))))))))) (by kernel_rfl)
theorem Aib:Knows As PV Gd:=Bq (λ_ _ h=>Ac (by kernel_rfl) (Ac (by kernel_rfl) (Ac (by kernel_rfl) (Ac (by kernel_rfl) (Ac (by kernel_rfl) (Ac (by kernel_rfl) (Ac (by kernel_rfl) (Ac (by kernel_rfl) (Ac (by kernel_rfl) (Ac (by kernel_rfl) (Ac (by kernel_rfl) (Ac (by kernel_rfl) (Ac (by kernel_rfl) (Ac (by kernel_rfl) (Ac (by kernel_rfl) (Ac (by kernel_rfl) (Ac (by kernel_rfl) (Ac (by kernel_rfl) (Ac (by kernel_rfl) (Ac (by kernel_rfl) (Ac (by kernel_rfl) (h)))))))))))))))))))))) (by kernel_rfl)
theorem Wp{args:List AV}{bs:List ABlk}{r:AV × List BO}(h:(Cg 1 (Bk 1 4):DF) args bs=some r):Gd.ask (.fn 236) args bs=some r:=A4 (d:=Cg 1 (Bk 1 4)) rfl h
theorem Ws{args:List AV}{bs:List ABlk}{r:AV × List BO}(h:(Cg 3 (Bk 3 40):DF) args bs=some r):Gd.ask (.fn 135) args bs=some r:=A4 (d:=Cg 3 (Bk 3 40)) rfl h
theorem ZX{args:List AV}{bs:List ABlk}{r:AV × List BO}(h:(Cg 3 (DL 40):DF) args bs=some r):Gd.ask (.fn 262) args bs=some r:=A4 (d:=Cg 3 (DL 40)) rfl h
theorem Ae8{args:List AV}{bs:List ABlk}{r:AV × List BO}(h:((AC Ag D3).ask (.fn 144):DF) args bs=some r):Gd.ask (.fn 144) args bs=some r:=A4 (d:=(AC Ag D3).ask (.fn 144)) rfl h
theorem Wv{args:List AV}{bs:List ABlk}{r:AV × List BO}(h:((AC Ag GQ).ask (.fn 65):DF) args bs=some r):Gd.ask (.fn 65) args bs=some r:=A4 (d:=(AC Ag GQ).ask (.fn 65)) rfl h
theorem Aji{args:List AV}{bs:List ABlk}{r:AV × List BO}(h:((AC Ag Io).ask (.fn 15):DF) args bs=some r):Gd.ask (.fn 15) args bs=some r:=A4 (d:=(AC Ag Io).ask (.fn 15)) rfl h
theorem V3(hCloneN:AW (Ba ψ 236) (Cg 1 (Bk 1 4)))(hCloneP:AW (Ba ψ 135) (Cg 3 (Bk 3 40)))(hGrowP:AW (Ba ψ 262) (Cg 3 (DL 40)))(hNDiv:AW (Ba ψ 144) ((AC Ag D3).ask (.fn 144)))(hShrink:AW (Ba ψ 65) ((AC Ag GQ).ask (.fn 65)))(hSay:AW (Ba ψ 15) ((AC Ag Io).ask (.fn 15))):SeatOk ψ Bb Ti where
 mixed:=by kernel_rfl
 ent:=XH
 fns f mf h:=Dm UT f mf (BN h)
 ext f d h:=by
  have hm:(f,d)∈SB:=BN h;unfold SB at hm;simp only[List.mem_cons,Prod.mk.injEq,List.not_mem_nil,or_false]at hm;rcases hm with⟨rfl,rfl⟩|⟨rfl,rfl⟩|⟨rfl,rfl⟩|⟨rfl,rfl⟩|⟨rfl,rfl⟩|⟨rfl,rfl⟩
  .exact hCloneN
  .exact hCloneP
  .exact hGrowP
  .exact hNDiv
  .exact hShrink
  .exact hSay
end
end Go.Proofs.YtpncilciembjdaaGreatDoor
