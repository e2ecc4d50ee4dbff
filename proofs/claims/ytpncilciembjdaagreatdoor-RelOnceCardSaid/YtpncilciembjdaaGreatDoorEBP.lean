/- A seat of D: tables of f -/
import Derived.Test.YtpncilciembjdaaGreatDoorEBO
set_option linter.all false
open Option renaming some->Θ
namespace Go.Proofs.YtpncilciembjdaaGreatDoor
noncomputable section
open AV renaming agg->ω,ls->Ψ
open Key renaming fn->ψ
open Tryz renaming prog->ArP
open Go.RowKit
def Ad1:List (List (Nat × MFn)):=[AoP]
def AbL:List (Nat × DF):=[(236,Dd 1 (By 1 4)),(135,FY 3 40),(262,Dd 3 (EY 40)),(130,Jr (Np AkH))]
def WG:Seat:=ER Aoz Ad1.flatten AbL
set_option maxRecDepth 100000 in
theorem Amw:Fy ArP Bx Ad1:=by
 repeat' first|exact trivial|refine⟨⟨_,_,_,rfl⟩,by kernel_rfl,?_⟩|refine⟨?_,?_⟩
theorem ZX(h:Fz ArP AbL):SeatOk ArP Bx WG:=D8 OO DW Amw h
theorem gAw(f:Nat):Bu (BD ArP f) ((Dn Ae WG 60).ask (.fn f)):=(M6 (ZX ⟨E7,Mi,IG,U1,trivial⟩) 60).1 f
def CZ(f:Nat):DF:=(Dn Ae WG 60).ask (.fn f)
theorem Hi(f:Nat):Bu (BD ArP f) (CZ f):=gAw f
section
open Go.RowKit
def Aoe:MFn:=AU [] 32
def Ann:Hnt:=⟨[(21,(.bool,[])),(28,(.agg BL,[])),(33,(.tup [.ls,.bool],[])),(55,(.agg B7,[]))],[],[(37,BL),(38,BL)]⟩
def AdY:List (Nat × MFn):=[(32,Aoe)]
variable (A:Ar) (D:Orc)
theorem e32:BY A D At Ann (.b (.t (.t (.b (.t .n) (.t .n)))) (.f (.f (.f .n)))) 32 Aoe [] [] =
 Af D (ψ 55) [iv 0,Ψ [[iv 1]]] [] [.a,.L,.B,.L,.N,.E] λxs b xs1=>
 Af D (ψ 28) [ω [Ψ xs,bv b,Ψ xs1]] [] [.a,.L,.B,.L,.B,.N,.E] λxs2 b1 xs3 b2=>
 Af D (ψ 55) [iv 0,Ψ [[iv (-1)]]] [] [.a,.L,.B,.L,.N,.E] λxs4 b3 xs5=>
 Af D (ψ 28) [ω [Ψ xs4,bv b3,Ψ xs5]] [] [.a,.L,.B,.L,.B,.N,.E] λxs6 b4 xs7 b5=>
 Af D (ψ 55) [iv 5,Ψ []] [] [.a,.L,.B,.L,.N,.E] λxs8 b6 xs9=>
 Af D (ψ 28) [ω [Ψ xs8,bv b6,Ψ xs9]] [] [.a,.L,.B,.L,.B,.N,.E] λxs10 b7 xs11 b8=>
 Af D (ψ 33) [Ψ [[Ψ xs2,bv b1,Ψ xs3,bv b2],[Ψ xs6,bv b4,Ψ xs7,bv b5],[Ψ xs10,bv b7,Ψ xs11,bv b8]]] [] [.t,.L,.B,.N,.E] λxs12 b9=>
 Af D (ψ 55) [iv (-1),Ψ [[iv 1]]] [] [.a,.L,.B,.L,.N,.E] λxs13 b10 xs14=>
 Af D (ψ 28) [ω [Ψ xs13,bv b10,Ψ xs14]] [] [.a,.L,.B,.L,.B,.N,.E] λxs15 b11 xs16 b12=>
 Af D (ψ 55) [iv 0,Ψ [[iv (-1)]]] [] [.a,.L,.B,.L,.N,.E] λxs17 b13 xs18=>
 Af D (ψ 28) [ω [Ψ xs17,bv b13,Ψ xs18]] [] [.a,.L,.B,.L,.B,.N,.E] λxs19 b14 xs20 b15=>
 Af D (ψ 33) [Ψ [[Ψ xs15,bv b11,Ψ xs16,bv b12],[Ψ xs19,bv b14,Ψ xs20,bv b15]]] [] [.t,.L,.B,.N,.E] λ_ b16=>
 br b9
 (br b9 (br b9 (br (A.eq (↑(Al xs12)) 1)
 (br b9 (BH xs12 0 λcs12=>
 dk [.L,.B,.L,.B,.N] [.l cs12] λxs22 b17 xs23 b18=>
 Af D (ψ 55) [iv 0,Ψ [[iv 1]]] [] [.a,.L,.B,.L,.N,.E] λxs24 b19 xs25=>
 Af D (ψ 21) [ω [Ψ xs22,bv b17,Ψ xs23,bv b18],ω [Ψ xs24,bv b19,Ψ xs25,bv true]] [] [.b,.E] λb20=>
 br b20
 (br (A.not b16)
 (Θ ((bv true,[])))
 (Θ ((bv false,[]))))
 (Θ ((bv false,[])))) none)
 (br b9 (Θ ((bv false,[]))) none)) none) none)
 (br b9 none (br b9 none (br b9 none (Θ ((bv false,[])))))):=by kernel_rfl
end
def SQ:List (List (Nat × MFn)):=[AdY]
def VT:List (Nat × DF):=[(55,CZ 55),(28,CZ 28),(21,CZ 21),(33,Jr (CN (EO Ix)))]
def Pm:Seat:=ER At SQ.flatten VT
def DTg:Orc:=AL Ae Pm
set_option maxRecDepth 100000 in
theorem AmE:Fy ArP Bx SQ:=by
 repeat' first|exact trivial|refine⟨⟨_,_,_,rfl⟩,by kernel_rfl,?_⟩|refine⟨?_,?_⟩
theorem AmM:(Ei SQ&&Ib SQ.flatten VT)=true:=by kernel_rfl
theorem Ak4:Knows At AdY DTg:=Bh AmM (i:=0) rfl
section
variable {args:List AV} {bs:List ABlk} {r:AV × List BO}
theorem Rg(h:(CZ 55) args bs=Θ r):DTg.ask (.fn 55) args bs=Θ r:=AE rfl h
theorem Ir(h:(CZ 28) args bs=Θ r):DTg.ask (.fn 28) args bs=Θ r:=AE rfl h
theorem Aen(h:(CZ 21) args bs=Θ r):DTg.ask (.fn 21) args bs=Θ r:=AE rfl h
theorem YD(h:(Jr (CN (EO Ix))) args bs=Θ r):DTg.ask (.fn 33) args bs=Θ r:=AE rfl h
end
theorem Z5(h:Fz ArP VT):SeatOk ArP Bx Pm:=D8 OO DW AmE h
