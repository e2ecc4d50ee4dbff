/- A seat of D: tables of f -/
import Derived.Test.YtpncilciembjdaaGreatDoorEAS
import Derived.Test.YtpncilciembjdaaGreatDoorEAT
set_option linter.all false
open Bool renaming true->Δ
open Int renaming mul_comm->AuS,natAbs_neg->At1,neg_mul->Aup
open Nat renaming pow_le_pow_right->Att,pow_pos->Av2
namespace Go.Proofs.YtpncilciembjdaaGreatDoor
noncomputable section
open Tryz renaming prog->ArP
open Go.RowKit
def SS:List (List (Nat × MFn)):=[Hg,Ja,D9,FS,QW]
def VV:List (Nat × DF):=[(236,Dd 1 (By 1 4)),(135,Dd 3 (By 3 40)),(144,(AL Ae G2).ask (.fn 144))]
def BT:Seat:=ER At SS.flatten VV
def DTk:Orc:=AL Ae BT
set_option maxRecDepth 100000 in
theorem AmG:Fy ArP Bx SS:=by
 repeat' first|exact trivial|refine⟨⟨_,_,_,rfl⟩,by kernel_rfl,?_⟩|refine⟨?_,?_⟩
theorem Tc:(Ei SS&&Ib SS.flatten VV)=Δ:=by kernel_rfl
theorem Ajl:Knows At Hg DTk:=Bh Tc (i:=0) rfl
theorem Ajr:Knows At Ja DTk:=Bh Tc (i:=1) rfl
theorem Ack:Knows At D9 DTk:=Bh Tc (i:=2) rfl
theorem AnW:Knows At FS DTk:=Bh Tc (i:=3) rfl
theorem AnL:Knows At QW DTk:=Bh Tc (i:=4) rfl
section
variable {args:List AV} {bs:List ABlk} {r:AV × List BO}
theorem Aay(h:(Dd 1 (By 1 4)) args bs=some r):DTk.ask (.fn 236) args bs=some r:=AE rfl h
theorem Aih(h:((AL Ae G2).ask (.fn 144)) args bs=some r):DTk.ask (.fn 144) args bs=some r:=AE rfl h
end
theorem Z7(h:Fz ArP VV):SeatOk ArP Bx BT:=D8 OO DW AmG h
structure Zi where
 neg:Bool
 abs:List Nat
def Dl(neg:Bool)(n:Nat):Int:=if neg then -(n:Int) else n
def zv(z:Zi):Int:=Dl z.neg (Ad z.abs)
def Av(n:Int):Zi:=⟨decide (n<0),Ah n.natAbs⟩
def eZ(z:Zi):List AV:=[bv z.neg,eN z.abs]
theorem AhN(n:Int):Dl (decide (n<0)) n.natAbs=n:=by
 unfold Dl
 by_cases h:n<0
 .rw[decide_eq_true h,if_pos rfl];omega
 .rw[decide_eq_false h,if_neg (by simp)];omega
theorem Bf(n:Int):zv (Av n)=n:=by
 unfold zv Av;rw[Az];exact AhN n
theorem Nu(neg:Bool)(v:Nat):Av (Dl neg v)=⟨neg&&decide (0<v),Ah v⟩:=by
 unfold Av Dl
 cases neg with
 |false=>
  rw[if_neg (by simp),Bool.false_and,decide_eq_false (by omega)];rfl
 |true=>
  rw[if_pos rfl,Bool.true_and,At1,Int.natAbs_natCast]
  congr 1
  by_cases h:0<v
  .rw[decide_eq_true h,decide_eq_true (by omega)]
  .rw[decide_eq_false h,decide_eq_false (by omega)]
theorem W0:Av 0=⟨false,[]⟩:=by
 unfold Av;rw[show (0:Int).natAbs=0 from rfl,CB];rfl
structure Lz (k:Nat) (z:Zi):Prop where
 lim:Limbs z.abs
 len:z.abs.length<=k
theorem Lz.mono{k m:Nat}{z:Zi}(h:Lz k z)(hm:k<=m):Lz m z:=⟨h.lim,by have:=h.len;omega⟩
def InB(k:Nat)(n:Int):Prop:=n.natAbs<4294967296 ^ k
theorem InB.lz{k:Nat}{n:Int}(h:InB k n):Lz k (Av n):=⟨Aq _,Bz h⟩
theorem Lz.inb{k:Nat}{z:Zi}(h:Lz k z):InB k (zv z):=by
 unfold InB zv;have h1:=BK h.lim;have h2:4294967296 ^ z.abs.length<=4294967296 ^ k:=Att (by omega) h.len;have h3:(Dl z.neg (Ad z.abs)).natAbs=Ad z.abs:=by
  unfold Dl;split
  .rw[At1];rfl
  .rfl
 omega
theorem InB.mono{k m:Nat}{n:Int}(h:InB k n)(hm:k<=m):InB m n:=by
 unfold InB at *;have h2:4294967296 ^ k<=4294967296 ^ m:=Att (by omega) hm;omega
theorem InB.add{k:Nat}{a b:Int}(ha:InB k a)(hb:InB k b):InB (k+1) (a+b):=by
 unfold InB at *;have:=Int.natAbs_add_le a b;rw[Nat.pow_succ];omega
theorem InB.neg{k:Nat}{a:Int}(ha:InB k a):InB k (-a):=by
 unfold InB at *;rw[At1];exact ha
theorem InB.mul{k m:Nat}{a b:Int}(ha:InB k a)(hb:InB m b):InB (k+m) (a*b):=by
 unfold InB at *;rw[Int.natAbs_mul,Nat.pow_add];have h1:a.natAbs*b.natAbs<=a.natAbs*4294967296 ^ m:=Nat.mul_le_mul_left _ (Nat.le_of_lt hb);have h2:a.natAbs*4294967296 ^ m<4294967296 ^ k*4294967296 ^ m:=Nat.mul_lt_mul_of_pos_right ha (Av2 (by omega));omega
theorem InB.zero(k:Nat):InB k 0:=by
 unfold InB;exact Av2 (by omega)
theorem InB.one{k:Nat}(h:1<=k):InB k 1:=by
 have:InB 1 1:=by unfold InB;decide
 exact this.mono h
def CD(a b:Int):Int:=if a<b then -1 else if b<a then 1 else 0
def Cu(n:Int):Int:=if n<0 then -1 else if 0<n then 1 else 0
theorem Aev(z:Zi):zv z<0 ↔ z.neg=Δ/\0<Ad z.abs:=by
 obtain⟨n,l⟩:=z
 cases n with
 |true=>
  show (-(Ad l:Int)<0) ↔ (Δ=Δ/\0<Ad l)
  exact⟨λh=>⟨rfl,by omega⟩,λh=>by have:=h.2;omega⟩
 |false=>
  show ((Ad l:Int)<0) ↔ (false=Δ/\0<Ad l)
  exact⟨λh=>by omega,λh=>by cases h.1⟩
theorem YH(z:Zi):zv z=0 ↔ Ad z.abs=0:=by
 unfold zv Dl;split<;>omega
theorem Dh{n:Nat}:0<(Ah n).length ↔ 0<n:=by
 constructor
 .intro h
  by_cases h0:n=0
  .subst h0;rw[CB]at h;simp at h
  .omega
 .intro h
  rw[EG (by omega)];simp
def uN(x y:Int):Nat:=x.natAbs / y.natAbs
def vN(x y:Int):Nat:=x.natAbs % y.natAbs
def dS(x y:Int):Bool:=decide (x<0) != decide (y<0)
def qZ(x y:Int):Int:=if dS x y=Δ/\0<vN x y then Dl Δ (uN x y)-1 else Dl (dS x y) (uN x y)
def rZ(x y:Int):Int:=if dS x y=Δ/\0<vN x y then Dl (decide (x<0)) (vN x y)+y else Dl (decide (x<0)) (vN x y)
theorem Aef(x y:Int):x=Dl (dS x y) (uN x y)*y+Dl (decide (x<0)) (vN x y):=by
 have h:=Nat.div_add_mod x.natAbs y.natAbs;unfold uN vN dS;generalize x.natAbs / y.natAbs=u at *;generalize x.natAbs % y.natAbs=v at *;have h':(x.natAbs:Int)=(y.natAbs:Int)*(u:Int)+(v:Int):=by rw[←Int.natCast_mul,←Int.natCast_add,h]
 by_cases hx:x<0
 .rw[decide_eq_true hx]
  have ex:(x.natAbs:Int)=-x:=by omega
  by_cases hy:y<0
  .rw[decide_eq_true hy]
   have ey:(y.natAbs:Int)=-y:=by omega
   rw[ex,ey,Aup]at h'
   show x=(if false=Δ then -(u:Int) else(u:Int))*y+(if Δ=Δ then -(v:Int) else(v:Int))
   rw[if_neg (by simp),if_pos rfl,AuS];omega
  .rw[decide_eq_false hy]
   have ey:(y.natAbs:Int)=y:=by omega
   rw[ex,ey]at h'
   show x=(if Δ=Δ then -(u:Int) else(u:Int))*y+(if Δ=Δ then -(v:Int) else(v:Int))
   rw[if_pos rfl,if_pos rfl,Aup,AuS];omega
 .rw[decide_eq_false hx]
  have ex:(x.natAbs:Int)=x:=by omega
  by_cases hy:y<0
  .rw[decide_eq_true hy]
   have ey:(y.natAbs:Int)=-y:=by omega
   rw[ex,ey,Aup]at h'
   show x=(if Δ=Δ then -(u:Int) else(u:Int))*y+(if false=Δ then -(v:Int) else(v:Int))
   rw[if_pos rfl,if_neg (by simp),Aup,AuS];omega
  .rw[decide_eq_false hy]
   have ey:(y.natAbs:Int)=y:=by omega
   rw[ex,ey]at h'
   show x=(if false=Δ then -(u:Int) else(u:Int))*y+(if false=Δ then -(v:Int) else(v:Int))
   rw[if_neg (by simp),if_neg (by simp),AuS];omega
theorem AbN(x y:Int):x=qZ x y*y+rZ x y:=by
 have h:=Aef x y;unfold qZ rZ
 by_cases hc:dS x y=Δ/\0<vN x y
 .rw[if_pos hc,if_pos hc]
  rw[hc.1]at h;rw[Int.sub_mul,Int.one_mul];omega
 .rw[if_neg hc,if_neg hc]
  exact h
theorem JK(b:Bool)(n:Nat):(Dl b n).natAbs=n:=by
 unfold Dl
 cases b<;>simp
theorem QH(z:Zi):(zv z).natAbs=Ad z.abs:=JK _ _
theorem Acg{k:Nat}{x:Int}(hx:InB k x)(y:Int)(b:Bool):InB k (Dl b (uN x y)):=by
 unfold InB at *;rw[JK];have:=Nat.div_le_self x.natAbs y.natAbs;unfold uN;omega
theorem T7{k:Nat}{y:Int}(hy:InB k y)(h0:y≠0)(x:Int)(b:Bool):InB k (Dl b (vN x y)):=by
 unfold InB at *;rw[JK];have:=Nat.mod_lt x.natAbs (show 0<y.natAbs by omega);unfold vN;omega
theorem So{x g:Int}(h:g ∣ x)(h0:g≠0):rZ x g=0/\qZ x g*g=x:=by
 have hv:vN x g=0:=by
  unfold vN;exact Nat.mod_eq_zero_of_dvd (Int.natAbs_dvd_natAbs.2 h)
 have hr:rZ x g=0:=by
  unfold rZ;rw[hv,if_neg (by omega)];unfold Dl;split<;>simp
 have:=AbN x g;rw[hr]at this;omega
