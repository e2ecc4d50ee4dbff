/- A seat of D: tables of f -/
import Derived.Test.YtmbfbclboenajaaGreatFAS
import Derived.Test.YtmbfbclboenajaaGreatFAT
import Derived.Test.YtmbfbclboenajaaGreatFAU
set_option linter.all false
open Int renaming natAbs_neg->AsW
open Nat renaming pow_le_pow_right->Ar7,pow_pos->Au8
namespace Go.Proofs.YtmbfbclboenajaaGreat
noncomputable section
open Tryz renaming prog->Aq1
open Go.RowKit
def SZ:List (List (Nat × MFn)):=[Hi,Jl,Ed,FP,Q6]
def V4:List (Nat × DF):=[(130,Dz 1 (BF 1 4)),(59,Dz 3 (BF 3 40)),(70,(AY Af G0).ask (.fn 70))]
def B4:Seat:=FO Al SZ.flatten V4
def DTk:Orc:=AY Af B4
set_option maxRecDepth 100000 in
theorem AkM:Ha Aq1 BP SZ:=by
 repeat' first|exact trivial|refine⟨⟨_,_,_,rfl⟩,by kernel_rfl,?_⟩|refine⟨?_,?_⟩
theorem Tj:(EM SZ&&Je SZ.flatten V4)=true:=by kernel_rfl
theorem AhU:Knows Al Hi DTk:=Bg Tj (i:=0) rfl
theorem Ah2:Knows Al Jl DTk:=Bg Tj (i:=1) rfl
theorem Ack:Knows Al Ed DTk:=Bg Tj (i:=2) rfl
theorem AmB:Knows Al FP DTk:=Bg Tj (i:=3) rfl
theorem Amn:Knows Al Q6 DTk:=Bg Tj (i:=4) rfl
section
variable {args:List AV} {bs:List ABlk} {r:AV × List BO}
theorem Aat(h:(Dz 1 (BF 1 4)) args bs=some r):DTk.ask (.fn 130) args bs=some r:=Bq rfl h
theorem Ag2(h:((AY Af G0).ask (.fn 70)) args bs=some r):DTk.ask (.fn 70) args bs=some r:=Bq rfl h
end
theorem Z7(h:Hb Aq1 V4):SeatOk Aq1 BP B4:=EZ Sn ER AkM h
structure Zi where
 neg:Bool
 abs:List Nat
def CJ(neg:Bool)(n:Nat):Int:=if neg then -(n:Int) else n
def zv(z:Zi):Int:=CJ z.neg (Ad z.abs)
def Aq(n:Int):Zi:=⟨decide (n<0),Ai n.natAbs⟩
def eZ(z:Zi):List AV:=[bv z.neg,eN z.abs]
theorem Agz(n:Int):CJ (decide (n<0)) n.natAbs=n:=by
 unfold CJ
 by_cases h:n<0
 .rw[decide_eq_true h,if_pos rfl];omega
 .rw[decide_eq_false h,if_neg (by simp)];omega
theorem AE(n:Int):zv (Aq n)=n:=by
 unfold zv Aq;rw[Az];exact Agz n
theorem Lp(neg:Bool)(v:Nat):Aq (CJ neg v)=⟨neg&&decide (0<v),Ai v⟩:=by
 unfold Aq CJ
 cases neg with
 |false=>
  rw[if_neg (by simp),Bool.false_and,decide_eq_false (by omega)];rfl
 |true=>
  rw[if_pos rfl,Bool.true_and,AsW,Int.natAbs_natCast]
  congr 1
  by_cases h:0<v
  .rw[decide_eq_true h,decide_eq_true (by omega)]
  .rw[decide_eq_false h,decide_eq_false (by omega)]
theorem IC:Aq 0=⟨false,[]⟩:=by
 unfold Aq;rw[show (0:Int).natAbs=0 from rfl,Cj];rfl
structure Lz (k:Nat) (z:Zi):Prop where
 lim:Limbs z.abs
 len:z.abs.length<=k
theorem Lz.mono{k m:Nat}{z:Zi}(h:Lz k z)(hm:k<=m):Lz m z:=⟨h.lim,by have:=h.len;omega⟩
def InB(k:Nat)(n:Int):Prop:=n.natAbs<4294967296 ^ k
theorem InB.lz{k:Nat}{n:Int}(h:InB k n):Lz k (Aq n):=⟨Am _,Bc h⟩
theorem Lz.inb{k:Nat}{z:Zi}(h:Lz k z):InB k (zv z):=by
 unfold InB zv;have h1:=Bt h.lim;have h2:4294967296 ^ z.abs.length<=4294967296 ^ k:=Ar7 (by omega) h.len;have h3:(CJ z.neg (Ad z.abs)).natAbs=Ad z.abs:=by
  unfold CJ;split
  .rw[AsW];rfl
  .rfl
 omega
theorem InB.mono{k m:Nat}{n:Int}(h:InB k n)(hm:k<=m):InB m n:=by
 unfold InB at *;have h2:4294967296 ^ k<=4294967296 ^ m:=Ar7 (by omega) hm;omega
theorem InB.add{k:Nat}{a b:Int}(ha:InB k a)(hb:InB k b):InB (k+1) (a+b):=by
 unfold InB at *;have:=Int.natAbs_add_le a b;rw[Nat.pow_succ];omega
theorem InB.neg{k:Nat}{a:Int}(ha:InB k a):InB k (-a):=by
 unfold InB at *;rw[AsW];exact ha
theorem InB.mul{k m:Nat}{a b:Int}(ha:InB k a)(hb:InB m b):InB (k+m) (a*b):=by
 unfold InB at *;rw[Int.natAbs_mul,Nat.pow_add];have h1:a.natAbs*b.natAbs<=a.natAbs*4294967296 ^ m:=Nat.mul_le_mul_left _ (Nat.le_of_lt hb);have h2:a.natAbs*4294967296 ^ m<4294967296 ^ k*4294967296 ^ m:=Nat.mul_lt_mul_of_pos_right ha (Au8 (by omega));omega
theorem InB.zero(k:Nat):InB k 0:=by
 unfold InB;exact Au8 (by omega)
theorem InB.one{k:Nat}(h:1<=k):InB k 1:=by
 have:InB 1 1:=by unfold InB;decide
 exact this.mono h
def Cp(a b:Int):Int:=if a<b then -1 else if b<a then 1 else 0
def BC(n:Int):Int:=if n<0 then -1 else if 0<n then 1 else 0
theorem Aeo(z:Zi):zv z<0 ↔ z.neg=true/\0<Ad z.abs:=by
 obtain⟨n,l⟩:=z
 cases n with
 |true=>
  show (-(Ad l:Int)<0) ↔ (true=true/\0<Ad l)
  exact⟨λh=>⟨rfl,by omega⟩,λh=>by have:=h.2;omega⟩
 |false=>
  show ((Ad l:Int)<0) ↔ (false=true/\0<Ad l)
  exact⟨λh=>by omega,λh=>by cases h.1⟩
theorem YI(z:Zi):zv z=0 ↔ Ad z.abs=0:=by
 unfold zv CJ;split<;>omega
theorem Dr{n:Nat}:0<(Ai n).length ↔ 0<n:=by
 constructor
 .intro h
  by_cases h0:n=0
  .subst h0;rw[Cj]at h;simp at h
  .omega
 .intro h
  rw[Dh (by omega)];simp
