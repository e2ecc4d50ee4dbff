/- A seat of D: tables of f -/
import Derived.Test.YtpncilciembjdaaGreatDoorDBN
set_option linter.all false
open Option renaming some->Θ
namespace Go.Proofs.YtpncilciembjdaaGreatDoor
noncomputable section
open AV renaming agg->ω,ls->Ψ
open Key renaming fn->ψ
open Tryz renaming prog->υ
open Go.RowKit
def Ac7:List (List (Nat × MFn)):=[Anp]
def Aa0:List (Nat × DF):=[(236,C8 1 (Bo 1 4)),(135,FR 3 40),(262,C8 3 (EP 40)),(130,Ji (M1 AjB))]
def We:Seat:=EI Ana Ac7.flatten Aa0
set_option maxRecDepth 100000 in
theorem Alp:Fu υ Bn Ac7:=by
 repeat' first|exact trivial|refine⟨⟨_,_,_,rfl⟩,by kernel_rfl,?_⟩|refine⟨?_,?_⟩
theorem Zg(h:Fv υ Aa0):SeatOk υ Bn We:=DX Og DP Alp h
theorem gAw(f:Nat):Bk (Bu υ f) ((Dn Ad We 60).ask (.fn f)):=(MM (Zg ⟨EW,LW,Iq,UB,trivial⟩) 60).1 f
def CU(f:Nat):DF:=(Dn Ad We 60).ask (.fn f)
theorem G2(f:Nat):Bk (Bu υ f) (CU f):=gAw f
section
open Go.RowKit
def AmS:MFn:=AY [] 32
def Amh:Hnt:=⟨[(21,(.bool,[])),(28,(.agg Bx,[])),(33,(.tup [.ls,.bool],[])),(55,(.agg B6,[]))],[],[(37,Bx),(38,Bx)]⟩
def Ac5:List (Nat × MFn):=[(32,AmS)]
variable (A:Ar) (D:Orc)
theorem e32:Cm A D Av Amh (.b (.t (.t (.b (.t .n) (.t .n)))) (.f (.f (.f .n)))) 32 AmS [] [] =
 Af D (ψ 55) [iv 0,Ψ [[iv 1]]] [] [.a,.L,.B,.L,.N,.E] λxs b xs1=>
 Af D (ψ 28) [ω [Ψ xs,bv b,Ψ xs1]] [] [.a,.L,.B,.L,.B,.N,.E] λxs2 b1 xs3 b2=>
 Af D (ψ 55) [iv 0,Ψ [[iv (-1)]]] [] [.a,.L,.B,.L,.N,.E] λxs4 b3 xs5=>
 Af D (ψ 28) [ω [Ψ xs4,bv b3,Ψ xs5]] [] [.a,.L,.B,.L,.B,.N,.E] λxs6 b4 xs7 b5=>
 Af D (ψ 55) [iv 5,Ψ []] [] [.a,.L,.B,.L,.N,.E] λxs8 b6 xs9=>
 Af D (ψ 28) [ω [Ψ xs8,bv b6,Ψ xs9]] [] [.a,.L,.B,.L,.B,.N,.E] λxs10 b7 xs11 b8=>
 Af D (ψ 33) [Ψ [[Ψ xs2,bv b1,Ψ xs3,bv b2],[Ψ xs6,bv b4,Ψ xs7,bv b5],[Ψ xs10,bv b7,Ψ xs11,bv b8]]] [] [.t,.L,.B,.N,.E] λxs12 b9=>
 Af D (ψ 55) [iv (-1),Ψ [[iv 1]]] [] [.a,.L,.B,.L,.N,.E] λxs13 b10 xs14=>
 Af D (ψ 28) [ω [Ψ xs13,bv b10,Ψ xs14]] [] [.a,.L,.B,.L,.B,.N,.E] λxs15 b11 xs16 b12=>
 Af D (ψ 55) [iv 0,Ψ [[iv (-1)]]] [] [.a,.L,.B,.L,.N,.E] λxs17 b13 xs18=>
 Af D (ψ 28) [ω [Ψ xs17,bv b13,Ψ xs18]] [] [.a,.L,.B,.L,.B,.N,.E] λxs19 b14 xs20 b15=>
 Af D (ψ 33) [Ψ [[Ψ xs15,bv b11,Ψ xs16,bv b12],[Ψ xs19,bv b14,Ψ xs20,bv b15]]] [] [.t,.L,.B,.N,.E] λ_ b16=>
 br b9
 (br b9 (br b9 (br (A.eq (↑(AS xs12)) 1)
 (br b9 (BG xs12 0 λcs12=>
 dk [.L,.B,.L,.B,.N] [.l cs12] λxs22 b17 xs23 b18=>
 Af D (ψ 55) [iv 0,Ψ [[iv 1]]] [] [.a,.L,.B,.L,.N,.E] λxs24 b19 xs25=>
 Af D (ψ 21) [ω [Ψ xs22,bv b17,Ψ xs23,bv b18],ω [Ψ xs24,bv b19,Ψ xs25,bv true]] [] [.b,.E] λb20=>
 br b20
 (br (A.not b16)
 (Θ ((bv true,[])))
 (Θ ((bv false,[]))))
 (Θ ((bv false,[])))) none)
 (br b9 (Θ ((bv false,[]))) none)) none) none)
 (br b9 none (br b9 none (br b9 none (Θ ((bv false,[])))))):=by kernel_rfl
end
def Sn:List (List (Nat × MFn)):=[Ac5]
def Vu:List (Nat × DF):=[(55,CU 55),(28,CU 28),(21,CU 21),(33,Ji (CJ (ED G6)))]
def OS:Seat:=EI Av Sn.flatten Vu
def DTg:Orc:=AD Ad OS
set_option maxRecDepth 100000 in
theorem Alx:Fu υ Bn Sn:=by
 repeat' first|exact trivial|refine⟨⟨_,_,_,rfl⟩,by kernel_rfl,?_⟩|refine⟨?_,?_⟩
theorem AlF:(D7 Sn&&HD Sn.flatten Vu)=true:=by kernel_rfl
theorem AjW:Knows Av Ac5 DTg:=Be AlF (i:=0) rfl
section
variable {args:List AV} {bs:List ABlk} {r:AV × List BO}
theorem QN(h:(CU 55) args bs=Θ r):DTg.ask (.fn 55) args bs=Θ r:=AA rfl h
theorem Ie(h:(CU 28) args bs=Θ r):DTg.ask (.fn 28) args bs=Θ r:=AA rfl h
theorem Adv(h:(CU 21) args bs=Θ r):DTg.ask (.fn 21) args bs=Θ r:=AA rfl h
theorem X3(h:(Ji (CJ (ED G6))) args bs=Θ r):DTg.ask (.fn 33) args bs=Θ r:=AA rfl h
end
theorem Zp(h:Fv υ Vu):SeatOk υ Bn OS:=DX Og DP Alx h
