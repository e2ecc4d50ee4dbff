/- A seat of D: tables of f -/
import Derived.Test.YtpncilciembjdaaGreatDoorHAS
import Derived.Test.YtpncilciembjdaaGreatDoorHAT
set_option linter.all false
open Bool renaming true->Δ
open Int renaming mul_comm->AyX,natAbs_neg->Ayc,neg_mul->AyB
open Nat renaming pow_le_pow_right->Axi,pow_pos->Az1
namespace Go.Proofs.YtpncilciembjdaaGreatDoor
noncomputable section
open Tryz renaming prog->Av9
open Go.RowKit
def NN:List (List (Nat × MFn)):=[Jy,M3,M2,Ge,Rn]
def R9:List (Nat × DF):=[(236,DH 1 (B7 1 4)),(135,DH 3 (B7 3 40)),(144,(By Ap Hs).ask (.fn 144))]
def BW:Seat:=FK Au NN.flatten R9
def Nc:Orc:=By Ap BW
set_option maxRecDepth 100000 in
theorem Am8:Gy Av9 B4 NN:=by
 repeat' first|exact trivial|refine⟨⟨_,_,_,rfl⟩,by kernel_rfl,?_⟩|refine⟨?_,?_⟩
theorem NT:(G7 NN&&O8 NN.flatten R9)=Δ:=by kernel_rfl
theorem AcY:Knows Au Jy Nc:=BH NT (i:=0) rfl
theorem AcZ:Knows Au M3 Nc:=BH NT (i:=1) rfl
theorem Wt:Knows Au M2 Nc:=BH NT (i:=2) rfl
theorem An2:Knows Au Ge Nc:=BH NT (i:=3) rfl
theorem An1:Knows Au Rn Nc:=BH NT (i:=4) rfl
section
variable {args:Ab} {bs:List ABlk} {r:AV × List BO}
theorem Xp(h:(DH 1 (B7 1 4)) args bs=some r):Nc.ask (.fn 236) args bs=some r:=Bq rfl h
theorem Ae0(h:((By Ap Hs).ask (.fn 144)) args bs=some r):Nc.ask (.fn 144) args bs=some r:=Bq rfl h
end
theorem W4(h:GA Av9 R9):SeatOk Av9 B4 BW:=EU P7 ES Am8 h
structure Zi where
 neg:Bool
 abs:Af
def CY(neg:Bool)(n:Nat):Int:=if neg then -(n:Int) else n
def zv(z:Zi):Int:=CY z.neg (Ag z.abs)
def AQ(n:Int):Zi:=⟨decide (n<0),Aq n.natAbs⟩
def eZ(z:Zi):Ab:=[bv z.neg,eN z.abs]
theorem Akt(n:Int):CY (decide (n<0)) n.natAbs=n:=by
 unfold CY
 by_cases h:n<0
 .rw[BT h,Ac rfl];omega
 .rw[BX h,Ad (by simp)];omega
theorem Bm(n:Int):zv (AQ n)=n:=by
 unfold zv AQ;rw[AF];exact Akt n
theorem Ly(neg:Bool)(v:Nat):AQ (CY neg v)=⟨neg&&decide (0<v),Aq v⟩:=by
 unfold AQ CY
 cases neg with
 |false=>
  rw[Ad (by simp),Bool.false_and,BX (by omega)];rfl
 |true=>
  rw[Ac rfl,Bool.true_and,Ayc,Int.natAbs_natCast]
  congr 1
  by_cases h:0<v
  .rw[BT h,BT (by omega)]
  .rw[BX h,BX (by omega)]
theorem PS:AQ 0=⟨false,[]⟩:=by
 unfold AQ;rw[show (0:Int).natAbs=0 from rfl,CJ];rfl
structure Lz (k:Nat) (z:Zi):Prop where
 lim:Limbs z.abs
 len:z.abs.length<=k
theorem Lz.mono{k m:Nat}{z:Zi}(h:Lz k z)(hm:k<=m):Lz m z:=⟨h.lim,by have:=h.len;omega⟩
def InB(k:Nat)(n:Int):Prop:=n.natAbs<4294967296 ^ k
theorem InB.lz{k:Nat}{n:Int}(h:InB k n):Lz k (AQ n):=⟨Av _,Bu h⟩
theorem Lz.inb{k:Nat}{z:Zi}(h:Lz k z):InB k (zv z):=by
 unfold InB zv;have h1:=BM h.lim;have h2:4294967296 ^ z.abs.length<=4294967296 ^ k:=Axi (by omega) h.len;have h3:(CY z.neg (Ag z.abs)).natAbs=Ag z.abs:=by
  unfold CY;split
  .rw[Ayc];rfl
  .rfl
 omega
theorem InB.mono{k m:Nat}{n:Int}(h:InB k n)(hm:k<=m):InB m n:=by
 unfold InB at *;have h2:4294967296 ^ k<=4294967296 ^ m:=Axi (by omega) hm;omega
theorem InB.add{k:Nat}{a b:Int}(ha:InB k a)(hb:InB k b):InB (k+1) (a+b):=by
 unfold InB at *;have:=Int.natAbs_add_le a b;rw[Nat.pow_succ];omega
theorem InB.neg{k:Nat}{a:Int}(ha:InB k a):InB k (-a):=by
 unfold InB at *;rw[Ayc];exact ha
theorem InB.mul{k m:Nat}{a b:Int}(ha:InB k a)(hb:InB m b):InB (k+m) (a*b):=by
 unfold InB at *;rw[Int.natAbs_mul,Nat.pow_add];have h1:a.natAbs*b.natAbs<=a.natAbs*4294967296 ^ m:=Nat.mul_le_mul_left _ (Nat.le_of_lt hb);have h2:a.natAbs*4294967296 ^ m<4294967296 ^ k*4294967296 ^ m:=Nat.mul_lt_mul_of_pos_right ha (Az1 (by omega));omega
theorem InB.zero(k:Nat):InB k 0:=by
 unfold InB;exact Az1 (by omega)
theorem InB.one{k:Nat}(h:1<=k):InB k 1:=by
 have:InB 1 1:=by unfold InB;decide
 exact this.mono h
def FS(a b:Int):Int:=if a<b then -1 else if b<a then 1 else 0
def Cb(n:Int):Int:=if n<0 then -1 else if 0<n then 1 else 0
theorem Afc(z:Zi):zv z<0 ↔ z.neg=Δ/\0<Ag z.abs:=by
 obtain⟨n,l⟩:=z
 cases n with
 |true=>
  show (-(Ag l:Int)<0) ↔ (Δ=Δ/\0<Ag l)
  exact⟨λh=>⟨rfl,by omega⟩,λh=>by have:=h.2;omega⟩
 |false=>
  show ((Ag l:Int)<0) ↔ (false=Δ/\0<Ag l)
  exact⟨λh=>by omega,λh=>by cases h.1⟩
theorem Y6(z:Zi):zv z=0 ↔ Ag z.abs=0:=by
 unfold zv CY;split<;>omega
theorem DE{n:Nat}:0<(Aq n).length ↔ 0<n:=by
 constructor
 .intro h
  by_cases h0:n=0
  .subst h0;rw[CJ]at h;simp at h
  .omega
 .intro h
  rw[DX (by omega)];simp
def uN(x y:Int):Nat:=x.natAbs / y.natAbs
def vN(x y:Int):Nat:=x.natAbs % y.natAbs
def dS(x y:Int):Bool:=decide (x<0) != decide (y<0)
def qZ(x y:Int):Int:=if dS x y=Δ/\0<vN x y then CY Δ (uN x y)-1 else CY (dS x y) (uN x y)
def rZ(x y:Int):Int:=if dS x y=Δ/\0<vN x y then CY (decide (x<0)) (vN x y)+y else CY (decide (x<0)) (vN x y)
theorem Vv(x y:Int):x=CY (dS x y) (uN x y)*y+CY (decide (x<0)) (vN x y):=by
 have h:=Nat.div_add_mod x.natAbs y.natAbs;unfold uN vN dS;generalize x.natAbs / y.natAbs=u at *;generalize x.natAbs % y.natAbs=v at *;have h':(x.natAbs:Int)=(y.natAbs:Int)*(u:Int)+(v:Int):=by rw[←Int.natCast_mul,←Int.natCast_add,h]
 by_cases hx:x<0
 .rw[BT hx]
  have ex:(x.natAbs:Int)=-x:=by omega
  by_cases hy:y<0
  .rw[BT hy]
   have ey:(y.natAbs:Int)=-y:=by omega
   rw[ex,ey,AyB]at h'
   show x=(if false=Δ then -(u:Int) else(u:Int))*y+(if Δ=Δ then -(v:Int) else(v:Int))
   rw[Ad (by simp),Ac rfl,AyX];omega
  .rw[BX hy]
   have ey:(y.natAbs:Int)=y:=by omega
   rw[ex,ey]at h'
   show x=(if Δ=Δ then -(u:Int) else(u:Int))*y+(if Δ=Δ then -(v:Int) else(v:Int))
   rw[Ac rfl,Ac rfl,AyB,AyX];omega
 .rw[BX hx]
  have ex:(x.natAbs:Int)=x:=by omega
  by_cases hy:y<0
  .rw[BT hy]
   have ey:(y.natAbs:Int)=-y:=by omega
   rw[ex,ey,AyB]at h'
   show x=(if Δ=Δ then -(u:Int) else(u:Int))*y+(if false=Δ then -(v:Int) else(v:Int))
   rw[Ac rfl,Ad (by simp),AyB,AyX];omega
  .rw[BX hy]
   have ey:(y.natAbs:Int)=y:=by omega
   rw[ex,ey]at h'
   show x=(if false=Δ then -(u:Int) else(u:Int))*y+(if false=Δ then -(v:Int) else(v:Int))
   rw[Ad (by simp),Ad (by simp),AyX];omega
theorem Acn(x y:Int):x=qZ x y*y+rZ x y:=by
 have h:=Vv x y;unfold qZ rZ
 by_cases hc:dS x y=Δ/\0<vN x y
 .rw[Ac hc,Ac hc]
  rw[hc.1]at h;rw[Int.sub_mul,Int.one_mul];omega
 .rw[Ad hc,Ad hc]
  exact h
theorem J9(b:Bool)(n:Nat):(CY b n).natAbs=n:=by
 unfold CY
 cases b<;>simp
theorem Fp(z:Zi):(zv z).natAbs=Ag z.abs:=J9 _ _
theorem XY{k:Nat}{x:Int}(hx:InB k x)(y:Int)(b:Bool):InB k (CY b (uN x y)):=by
 unfold InB at *;rw[J9];have:=Nat.div_le_self x.natAbs y.natAbs;unfold uN;omega
theorem MP{k:Nat}{y:Int}(hy:InB k y)(h0:y≠0)(x:Int)(b:Bool):InB k (CY b (vN x y)):=by
 unfold InB at *;rw[J9];have:=Nat.mod_lt x.natAbs (show 0<y.natAbs by omega);unfold vN;omega
theorem Aph{x g:Int}(h:g ∣ x)(h0:g≠0):rZ x g=0/\qZ x g*g=x:=by
 have hv:vN x g=0:=by
  unfold vN;exact Nat.mod_eq_zero_of_dvd (Int.natAbs_dvd_natAbs.2 h)
 have hr:rZ x g=0:=by
  unfold rZ;rw[hv,Ad (by omega)];unfold CY;split<;>simp
 have:=Acn x g;rw[hr]at this;omega
