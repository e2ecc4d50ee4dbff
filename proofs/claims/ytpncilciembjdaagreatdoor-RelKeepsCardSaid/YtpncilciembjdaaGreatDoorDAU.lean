/- A seat of D: tables of f -/
import Derived.Test.YtpncilciembjdaaGreatDoorDAS
import Derived.Test.YtpncilciembjdaaGreatDoorDAT
set_option linter.all false
open Bool renaming true->Δ
open Int renaming mul_comm->AsU,natAbs_neg->As8,neg_mul->As6
open Nat renaming pow_le_pow_right->ArO,pow_pos->Auf
namespace Go.Proofs.YtpncilciembjdaaGreatDoor
noncomputable section
open Tryz renaming prog->υ
open Go.RowKit
def Sp:List (List (Nat × MFn)):=[GY,IY,DY,Fj,Qz]
def Vw:List (Nat × DF):=[(236,C8 1 (Bo 1 4)),(135,C8 3 (Bo 3 40)),(144,(AD Ad GO).ask (.fn 144))]
def BM:Seat:=EI Av Sp.flatten Vw
def Z3:Orc:=AD Ad BM
set_option maxRecDepth 100000 in
theorem Alz:Fu υ Bn Sp:=by
 repeat' first|exact trivial|refine⟨⟨_,_,_,rfl⟩,by kernel_rfl,?_⟩|refine⟨?_,?_⟩
theorem SL:(D7 Sp&&HD Sp.flatten Vw)=Δ:=by kernel_rfl
theorem Ain:Knows Av GY Z3:=Be SL (i:=0) rfl
theorem Air:Knows Av IY Z3:=Be SL (i:=1) rfl
theorem Abz:Knows Av DY Z3:=Be SL (i:=2) rfl
theorem AmG:Knows Av Fj Z3:=Be SL (i:=3) rfl
theorem Amz:Knows Av Qz Z3:=Be SL (i:=4) rfl
section
variable {args:List AV} {bs:List ABlk} {r:AV × List BO}
theorem ZT(h:(C8 1 (Bo 1 4)) args bs=some r):Z3.ask (.fn 236) args bs=some r:=AA rfl h
theorem Aho(h:((AD Ad GO).ask (.fn 144)) args bs=some r):Z3.ask (.fn 144) args bs=some r:=AA rfl h
end
theorem Zr(h:Fv υ Vw):SeatOk υ Bn BM:=DX Og DP Alz h
structure Zi where
 neg:Bool
 abs:List Nat
def E0(neg:Bool)(n:Nat):Int:=if neg then -(n:Int) else n
def zv(z:Zi):Int:=E0 z.neg (Ae z.abs)
def Ap(n:Int):Zi:=⟨decide (n<0),Aj n.natAbs⟩
def eZ(z:Zi):List AV:=[bv z.neg,eN z.abs]
theorem AgU(n:Int):E0 (decide (n<0)) n.natAbs=n:=by
 unfold E0
 by_cases h:n<0
 .rw[decide_eq_true h,if_pos rfl];omega
 .rw[decide_eq_false h,if_neg (by simp)];omega
theorem AU(n:Int):zv (Ap n)=n:=by
 unfold zv Ap;rw[Az];exact AgU n
theorem SE(neg:Bool)(v:Nat):Ap (E0 neg v)=⟨neg&&decide (0<v),Aj v⟩:=by
 unfold Ap E0
 cases neg with
 |false=>
  rw[if_neg (by simp),Bool.false_and,decide_eq_false (by omega)];rfl
 |true=>
  rw[if_pos rfl,Bool.true_and,As8,Int.natAbs_natCast]
  congr 1
  by_cases h:0<v
  .rw[decide_eq_true h,decide_eq_true (by omega)]
  .rw[decide_eq_false h,decide_eq_false (by omega)]
theorem WA:Ap 0=⟨false,[]⟩:=by
 unfold Ap;rw[show (0:Int).natAbs=0 from rfl,CW];rfl
structure Lz (k:Nat) (z:Zi):Prop where
 lim:Limbs z.abs
 len:z.abs.length<=k
theorem Lz.mono{k m:Nat}{z:Zi}(h:Lz k z)(hm:k<=m):Lz m z:=⟨h.lim,by have:=h.len;omega⟩
def InB(k:Nat)(n:Int):Prop:=n.natAbs<4294967296 ^ k
theorem InB.lz{k:Nat}{n:Int}(h:InB k n):Lz k (Ap n):=⟨Aq _,B4 h⟩
theorem Lz.inb{k:Nat}{z:Zi}(h:Lz k z):InB k (zv z):=by
 unfold InB zv;have h1:=B8 h.lim;have h2:4294967296 ^ z.abs.length<=4294967296 ^ k:=ArO (by omega) h.len;have h3:(E0 z.neg (Ae z.abs)).natAbs=Ae z.abs:=by
  unfold E0;split
  .rw[As8];rfl
  .rfl
 omega
theorem InB.mono{k m:Nat}{n:Int}(h:InB k n)(hm:k<=m):InB m n:=by
 unfold InB at *;have h2:4294967296 ^ k<=4294967296 ^ m:=ArO (by omega) hm;omega
theorem InB.add{k:Nat}{a b:Int}(ha:InB k a)(hb:InB k b):InB (k+1) (a+b):=by
 unfold InB at *;have:=Int.natAbs_add_le a b;rw[Nat.pow_succ];omega
theorem InB.neg{k:Nat}{a:Int}(ha:InB k a):InB k (-a):=by
 unfold InB at *;rw[As8];exact ha
theorem InB.mul{k m:Nat}{a b:Int}(ha:InB k a)(hb:InB m b):InB (k+m) (a*b):=by
 unfold InB at *;rw[Int.natAbs_mul,Nat.pow_add];have h1:a.natAbs*b.natAbs<=a.natAbs*4294967296 ^ m:=Nat.mul_le_mul_left _ (Nat.le_of_lt hb);have h2:a.natAbs*4294967296 ^ m<4294967296 ^ k*4294967296 ^ m:=Nat.mul_lt_mul_of_pos_right ha (Auf (by omega));omega
theorem InB.zero(k:Nat):InB k 0:=by
 unfold InB;exact Auf (by omega)
theorem InB.one{k:Nat}(h:1<=k):InB k 1:=by
 have:InB 1 1:=by unfold InB;decide
 exact this.mono h
def Cr(a b:Int):Int:=if a<b then -1 else if b<a then 1 else 0
def Fs(n:Int):Int:=if n<0 then -1 else if 0<n then 1 else 0
theorem AdF(z:Zi):zv z<0 ↔ z.neg=Δ/\0<Ae z.abs:=by
 obtain⟨n,l⟩:=z
 cases n with
 |true=>
  show (-(Ae l:Int)<0) ↔ (Δ=Δ/\0<Ae l)
  exact⟨λh=>⟨rfl,by omega⟩,λh=>by have:=h.2;omega⟩
 |false=>
  show ((Ae l:Int)<0) ↔ (false=Δ/\0<Ae l)
  exact⟨λh=>by omega,λh=>by cases h.1⟩
theorem X7(z:Zi):zv z=0 ↔ Ae z.abs=0:=by
 unfold zv E0;split<;>omega
theorem EN{n:Nat}:0<(Aj n).length ↔ 0<n:=by
 constructor
 .intro h
  by_cases h0:n=0
  .subst h0;rw[CW]at h;simp at h
  .omega
 .intro h
  rw[Ey (by omega)];simp
def uN(x y:Int):Nat:=x.natAbs / y.natAbs
def vN(x y:Int):Nat:=x.natAbs % y.natAbs
def dS(x y:Int):Bool:=decide (x<0) != decide (y<0)
def qZ(x y:Int):Int:=if dS x y=Δ/\0<vN x y then E0 Δ (uN x y)-1 else E0 (dS x y) (uN x y)
def rZ(x y:Int):Int:=if dS x y=Δ/\0<vN x y then E0 (decide (x<0)) (vN x y)+y else E0 (decide (x<0)) (vN x y)
theorem Adm(x y:Int):x=E0 (dS x y) (uN x y)*y+E0 (decide (x<0)) (vN x y):=by
 have h:=Nat.div_add_mod x.natAbs y.natAbs;unfold uN vN dS;generalize x.natAbs / y.natAbs=u at *;generalize x.natAbs % y.natAbs=v at *;have h':(x.natAbs:Int)=(y.natAbs:Int)*(u:Int)+(v:Int):=by rw[←Int.natCast_mul,←Int.natCast_add,h]
 by_cases hx:x<0
 .rw[decide_eq_true hx]
  have ex:(x.natAbs:Int)=-x:=by omega
  by_cases hy:y<0
  .rw[decide_eq_true hy]
   have ey:(y.natAbs:Int)=-y:=by omega
   rw[ex,ey,As6]at h'
   show x=(if false=Δ then -(u:Int) else(u:Int))*y+(if Δ=Δ then -(v:Int) else(v:Int))
   rw[if_neg (by simp),if_pos rfl,AsU];omega
  .rw[decide_eq_false hy]
   have ey:(y.natAbs:Int)=y:=by omega
   rw[ex,ey]at h'
   show x=(if Δ=Δ then -(u:Int) else(u:Int))*y+(if Δ=Δ then -(v:Int) else(v:Int))
   rw[if_pos rfl,if_pos rfl,As6,AsU];omega
 .rw[decide_eq_false hx]
  have ex:(x.natAbs:Int)=x:=by omega
  by_cases hy:y<0
  .rw[decide_eq_true hy]
   have ey:(y.natAbs:Int)=-y:=by omega
   rw[ex,ey,As6]at h'
   show x=(if Δ=Δ then -(u:Int) else(u:Int))*y+(if false=Δ then -(v:Int) else(v:Int))
   rw[if_pos rfl,if_neg (by simp),As6,AsU];omega
  .rw[decide_eq_false hy]
   have ey:(y.natAbs:Int)=y:=by omega
   rw[ex,ey]at h'
   show x=(if false=Δ then -(u:Int) else(u:Int))*y+(if false=Δ then -(v:Int) else(v:Int))
   rw[if_neg (by simp),if_neg (by simp),AsU];omega
theorem Tf(x y:Int):x=qZ x y*y+rZ x y:=by
 have h:=Adm x y;unfold qZ rZ
 by_cases hc:dS x y=Δ/\0<vN x y
 .rw[if_pos hc,if_pos hc]
  rw[hc.1]at h;rw[Int.sub_mul,Int.one_mul];omega
 .rw[if_neg hc,if_neg hc]
  exact h
theorem Jz(b:Bool)(n:Nat):(E0 b n).natAbs=n:=by
 unfold E0
 cases b<;>simp
theorem Qj(z:Zi):(zv z).natAbs=Ae z.abs:=Jz _ _
theorem Abu{k:Nat}{x:Int}(hx:InB k x)(y:Int)(b:Bool):InB k (E0 b (uN x y)):=by
 unfold InB at *;rw[Jz];have:=Nat.div_le_self x.natAbs y.natAbs;unfold uN;omega
theorem TB{k:Nat}{y:Int}(hy:InB k y)(h0:y≠0)(x:Int)(b:Bool):InB k (E0 b (vN x y)):=by
 unfold InB at *;rw[Jz];have:=Nat.mod_lt x.natAbs (show 0<y.natAbs by omega);unfold vN;omega
theorem Oz{x g:Int}(h:g ∣ x)(h0:g≠0):rZ x g=0/\qZ x g*g=x:=by
 have hv:vN x g=0:=by
  unfold vN;exact Nat.mod_eq_zero_of_dvd (Int.natAbs_dvd_natAbs.2 h)
 have hr:rZ x g=0:=by
  unfold rZ;rw[hv,if_neg (by omega)];unfold E0;split<;>simp
 have:=Tf x g;rw[hr]at this;omega
