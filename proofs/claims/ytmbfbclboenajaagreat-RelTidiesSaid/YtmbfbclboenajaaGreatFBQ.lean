/- A seat of D: tables of f -/
import Derived.Test.YtmbfbclboenajaaGreatFBP
set_option linter.all false
open Option renaming some->Θ
namespace Go.Proofs.YtmbfbclboenajaaGreat
noncomputable section
open AV renaming agg->φ,ls->Ψ
open Key renaming fn->ω
open Tryz renaming prog->Aq1
open Go.RowKit
def AdY:List (List (Nat × MFn)):=[AnX]
def AbG:List (Nat × DF):=[(130,Dz 1 (BF 1 4)),(59,Dz 3 (BF 3 40)),(138,Dz 3 (FN 40))]
def WS:Seat:=FO AnE AdY.flatten AbG
set_option maxRecDepth 100000 in
theorem AkE:Ha Aq1 BP AdY:=by
 repeat' first|exact trivial|refine⟨⟨_,_,_,rfl⟩,by kernel_rfl,?_⟩|refine⟨?_,?_⟩
theorem ZZ(h:Hb Aq1 AbG):SeatOk Aq1 BP WS:=EZ Sn ER AkE h
theorem gAo(f:Nat):BS (B5 Aq1 f) ((Dn Af WS 60).ask (.fn f)):=(RK (ZZ ⟨Ga,GN,LK,trivial⟩) 60).1 f
def Vn(f:Nat):DF:=(Dn Af WS 60).ask (.fn f)
theorem Ajg(f:Nat):BS (B5 Aq1 f) (Vn f):=gAo f
section
open Go.RowKit
def mf4:MFn:=BI [] 4
def hn4:Hnt:=⟨[(6,(.tup U0,[])),(9,(.agg B1,[])),(10,(.agg Bl,[])),(11,(.bool,[]))],[],[(37,B1),(38,B1)]⟩
def AdW:List (Nat × MFn):=[(4,mf4)]
variable (A:Ar) (D:Orc)
theorem e4:BN A D Al hn4 (.b (.t (.t (.b (.t .n) (.t .n)))) (.f (.f (.f .n)))) 4 mf4 [] [] =
 Ae D (ω 10) [iv 0,Ψ [[iv 1]]] [] [.a,.L,.B,.L,.N,.E] λxs b xs1=>
 Ae D (ω 9) [φ [Ψ xs,bv b,Ψ xs1]] [] [.a,.L,.B,.L,.B,.N,.E] λxs2 b1 xs3 b2=>
 Ae D (ω 10) [iv 0,Ψ [[iv (-1)]]] [] [.a,.L,.B,.L,.N,.E] λxs4 b3 xs5=>
 Ae D (ω 9) [φ [Ψ xs4,bv b3,Ψ xs5]] [] [.a,.L,.B,.L,.B,.N,.E] λxs6 b4 xs7 b5=>
 Ae D (ω 10) [iv 5,Ψ []] [] [.a,.L,.B,.L,.N,.E] λxs8 b6 xs9=>
 Ae D (ω 9) [φ [Ψ xs8,bv b6,Ψ xs9]] [] [.a,.L,.B,.L,.B,.N,.E] λxs10 b7 xs11 b8=>
 Ae D (ω 6) [Ψ [[Ψ xs2,bv b1,Ψ xs3,bv b2],[Ψ xs6,bv b4,Ψ xs7,bv b5],[Ψ xs10,bv b7,Ψ xs11,bv b8]]] [] [.t,.L,.B,.N,.E] λxs12 b9=>
 Ae D (ω 10) [iv (-1),Ψ [[iv 1]]] [] [.a,.L,.B,.L,.N,.E] λxs13 b10 xs14=>
 Ae D (ω 9) [φ [Ψ xs13,bv b10,Ψ xs14]] [] [.a,.L,.B,.L,.B,.N,.E] λxs15 b11 xs16 b12=>
 Ae D (ω 10) [iv 0,Ψ [[iv (-1)]]] [] [.a,.L,.B,.L,.N,.E] λxs17 b13 xs18=>
 Ae D (ω 9) [φ [Ψ xs17,bv b13,Ψ xs18]] [] [.a,.L,.B,.L,.B,.N,.E] λxs19 b14 xs20 b15=>
 Ae D (ω 6) [Ψ [[Ψ xs15,bv b11,Ψ xs16,bv b12],[Ψ xs19,bv b14,Ψ xs20,bv b15]]] [] [.t,.L,.B,.N,.E] λ_ b16=>
 br b9
 (br b9 (br b9 (br (A.eq (↑(AL xs12)) 1)
 (br b9 (Bj xs12 0 λcs12=>
 dk [.L,.B,.L,.B,.N] [.l cs12] λxs22 b17 xs23 b18=>
 Ae D (ω 10) [iv 0,Ψ [[iv 1]]] [] [.a,.L,.B,.L,.N,.E] λxs24 b19 xs25=>
 Ae D (ω 11) [φ [Ψ xs22,bv b17,Ψ xs23,bv b18],φ [Ψ xs24,bv b19,Ψ xs25,bv true]] [] [.b,.E] λb20=>
 br b20
 (br (A.not b16)
 (Θ ((bv true,[])))
 (Θ ((bv false,[]))))
 (Θ ((bv false,[])))) none)
 (br b9 (Θ ((bv false,[]))) none)) none) none)
 (br b9 none (br b9 none (br b9 none (Θ ((bv false,[])))))):=by kernel_rfl
end
def SX:List (List (Nat × MFn)):=[AdW]
def V1:List (Nat × DF):=[(10,Vn 10),(9,Vn 9),(11,Vn 11),(6,M8 (CX (EL ID)))]
def Pu:Seat:=FO Al SX.flatten V1
def DTg:Orc:=AY Af Pu
set_option maxRecDepth 100000 in
theorem AkK:Ha Aq1 BP SX:=by
 repeat' first|exact trivial|refine⟨⟨_,_,_,rfl⟩,by kernel_rfl,?_⟩|refine⟨?_,?_⟩
theorem AkR:(EM SX&&Je SX.flatten V1)=true:=by kernel_rfl
theorem Ajq:Knows Al AdW DTg:=Bg AkR (i:=0) rfl
section
variable {args:List AV} {bs:List ABlk} {r:AV × List BO}
theorem Rl(h:(Vn 10) args bs=Θ r):DTg.ask (.fn 10) args bs=Θ r:=Bq rfl h
theorem IA(h:(Vn 9) args bs=Θ r):DTg.ask (.fn 9) args bs=Θ r:=Bq rfl h
theorem Aei(h:(Vn 11) args bs=Θ r):DTg.ask (.fn 11) args bs=Θ r:=Bq rfl h
theorem YF(h:(M8 (CX (EL ID))) args bs=Θ r):DTg.ask (.fn 6) args bs=Θ r:=Bq rfl h
end
theorem Z5(h:Hb Aq1 V1):SeatOk Aq1 BP Pu:=EZ Sn ER AkK h
