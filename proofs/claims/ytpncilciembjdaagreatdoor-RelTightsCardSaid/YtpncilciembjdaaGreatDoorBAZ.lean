/- Numbers below 0, too: si -/
import Derived.Test.YtpncilciembjdaaGreatDoorBAO
set_option linter.all false
open Int renaming natAbs_neg->Aq2
open Nat renaming pow_le_pow_right->Aqf,pow_pos->As9
namespace Go.Proofs.YtpncilciembjdaaGreatDoor
open Go.RowKit
structure Zi where
 neg:Bool
 abs:List Nat
def Cn(neg:Bool)(n:Nat):Int:=if neg then -(n:Int) else n
def zv(z:Zi):Int:=Cn z.neg (Ad z.abs)
def Az(n:Int):Zi:=⟨decide (n<0),Ah n.natAbs⟩
def eZ(z:Zi):List AV:=[bv z.neg,eN z.abs]
theorem AeH(n:Int):Cn (decide (n<0)) n.natAbs=n:=by
 unfold Cn
 by_cases h:n<0
 .rw[decide_eq_true h,if_pos rfl];omega
 .rw[decide_eq_false h,if_neg (by simp)];omega
theorem AU(n:Int):zv (Az n)=n:=by
 unfold zv Az;rw[Ax];exact AeH n
theorem Jg(neg:Bool)(v:Nat):Az (Cn neg v)=⟨neg&&decide (0<v),Ah v⟩:=by
 unfold Az Cn
 cases neg with
 |false=>
  rw[if_neg (by simp),Bool.false_and,decide_eq_false (by omega)];rfl
 |true=>
  rw[if_pos rfl,Bool.true_and,Aq2,Int.natAbs_natCast]
  congr 1
  by_cases h:0<v
  .rw[decide_eq_true h,decide_eq_true (by omega)]
  .rw[decide_eq_false h,decide_eq_false (by omega)]
theorem No:Az 0=⟨false,[]⟩:=by
 unfold Az;rw[show (0:Int).natAbs=0 from rfl,Cb];rfl
structure Lz (k:Nat) (z:Zi):Prop where
 lim:Limbs z.abs
 len:z.abs.length<=k
theorem Lz.mono{k m:Nat}{z:Zi}(h:Lz k z)(hm:k<=m):Lz m z:=⟨h.lim,by have:=h.len;omega⟩
def InB(k:Nat)(n:Int):Prop:=n.natAbs<4294967296 ^ k
theorem InB.lz{k:Nat}{n:Int}(h:InB k n):Lz k (Az n):=⟨Al _,A1 h⟩
theorem Lz.inb{k:Nat}{z:Zi}(h:Lz k z):InB k (zv z):=by
 unfold InB zv;have h1:=Bm h.lim;have h2:4294967296 ^ z.abs.length<=4294967296 ^ k:=Aqf (by omega) h.len;have h3:(Cn z.neg (Ad z.abs)).natAbs=Ad z.abs:=by
  unfold Cn;split
  .rw[Aq2];rfl
  .rfl
 omega
theorem InB.mono{k m:Nat}{n:Int}(h:InB k n)(hm:k<=m):InB m n:=by
 unfold InB at *;have h2:4294967296 ^ k<=4294967296 ^ m:=Aqf (by omega) hm;omega
theorem InB.add{k:Nat}{a b:Int}(ha:InB k a)(hb:InB k b):InB (k+1) (a+b):=by
 unfold InB at *;have:=Int.natAbs_add_le a b;rw[Nat.pow_succ];omega
theorem InB.neg{k:Nat}{a:Int}(ha:InB k a):InB k (-a):=by
 unfold InB at *;rw[Aq2];exact ha
theorem InB.mul{k m:Nat}{a b:Int}(ha:InB k a)(hb:InB m b):InB (k+m) (a*b):=by
 unfold InB at *;rw[Int.natAbs_mul,Nat.pow_add];have h1:a.natAbs*b.natAbs<=a.natAbs*4294967296 ^ m:=Nat.mul_le_mul_left _ (Nat.le_of_lt hb);have h2:a.natAbs*4294967296 ^ m<4294967296 ^ k*4294967296 ^ m:=Nat.mul_lt_mul_of_pos_right ha (As9 (by omega));omega
theorem InB.zero(k:Nat):InB k 0:=by
 unfold InB;exact As9 (by omega)
theorem InB.one{k:Nat}(h:1<=k):InB k 1:=by
 have:InB 1 1:=by unfold InB;decide
 exact this.mono h
def DR(a b:Int):Int:=if a<b then -1 else if b<a then 1 else 0
def BF(n:Int):Int:=if n<0 then -1 else if 0<n then 1 else 0
theorem Z3(z:Zi):zv z<0 ↔ z.neg=true/\0<Ad z.abs:=by
 obtain⟨n,l⟩:=z
 cases n with
 |true=>
  show (-(Ad l:Int)<0) ↔ (true=true/\0<Ad l)
  exact⟨λh=>⟨rfl,by omega⟩,λh=>by have:=h.2;omega⟩
 |false=>
  show ((Ad l:Int)<0) ↔ (false=true/\0<Ad l)
  exact⟨λh=>by omega,λh=>by cases h.1⟩
theorem UO(z:Zi):zv z=0 ↔ Ad z.abs=0:=by
 unfold zv Cn;split<;>omega
theorem CX{n:Nat}:0<(Ah n).length ↔ 0<n:=by
 constructor
 .intro h
  by_cases h0:n=0
  .subst h0;rw[Cb]at h;simp at h
  .omega
 .intro h
  rw[Da (by omega)];simp
end Go.Proofs.YtpncilciembjdaaGreatDoor
