/- Division of integers, ro -/
import Derived.Test.YtmbfbclboenajaaGreatFAV
set_option linter.all false
open Bool renaming true->Δ
open Int renaming mul_comm->AtR,neg_mul->Atm
namespace Go.Proofs.YtmbfbclboenajaaGreat
open Go.RowKit
def uN(x y:Int):Nat:=x.natAbs / y.natAbs
def vN(x y:Int):Nat:=x.natAbs % y.natAbs
def dS(x y:Int):Bool:=decide (x<0) != decide (y<0)
def qZ(x y:Int):Int:=if dS x y=Δ/\0<vN x y then CJ Δ (uN x y)-1 else CJ (dS x y) (uN x y)
def rZ(x y:Int):Int:=if dS x y=Δ/\0<vN x y then CJ (decide (x<0)) (vN x y)+y else CJ (decide (x<0)) (vN x y)
theorem Vc(x y:Int):x=CJ (dS x y) (uN x y)*y+CJ (decide (x<0)) (vN x y):=by
 have h:=Nat.div_add_mod x.natAbs y.natAbs;unfold uN vN dS;generalize x.natAbs / y.natAbs=u at *;generalize x.natAbs % y.natAbs=v at *;have h':(x.natAbs:Int)=(y.natAbs:Int)*(u:Int)+(v:Int):=by rw[←Int.natCast_mul,←Int.natCast_add,h]
 by_cases hx:x<0
 .rw[decide_eq_true hx]
  have ex:(x.natAbs:Int)=-x:=by omega
  by_cases hy:y<0
  .rw[decide_eq_true hy]
   have ey:(y.natAbs:Int)=-y:=by omega
   rw[ex,ey,Atm]at h'
   show x=(if false=Δ then -(u:Int) else(u:Int))*y+(if Δ=Δ then -(v:Int) else(v:Int))
   rw[if_neg (by simp),if_pos rfl,AtR];omega
  .rw[decide_eq_false hy]
   have ey:(y.natAbs:Int)=y:=by omega
   rw[ex,ey]at h'
   show x=(if Δ=Δ then -(u:Int) else(u:Int))*y+(if Δ=Δ then -(v:Int) else(v:Int))
   rw[if_pos rfl,if_pos rfl,Atm,AtR];omega
 .rw[decide_eq_false hx]
  have ex:(x.natAbs:Int)=x:=by omega
  by_cases hy:y<0
  .rw[decide_eq_true hy]
   have ey:(y.natAbs:Int)=-y:=by omega
   rw[ex,ey,Atm]at h'
   show x=(if Δ=Δ then -(u:Int) else(u:Int))*y+(if false=Δ then -(v:Int) else(v:Int))
   rw[if_pos rfl,if_neg (by simp),Atm,AtR];omega
  .rw[decide_eq_false hy]
   have ey:(y.natAbs:Int)=y:=by omega
   rw[ex,ey]at h'
   show x=(if false=Δ then -(u:Int) else(u:Int))*y+(if false=Δ then -(v:Int) else(v:Int))
   rw[if_neg (by simp),if_neg (by simp),AtR];omega
theorem AbH(x y:Int):x=qZ x y*y+rZ x y:=by
 have h:=Vc x y;unfold qZ rZ
 by_cases hc:dS x y=Δ/\0<vN x y
 .rw[if_pos hc,if_pos hc]
  rw[hc.1]at h;rw[Int.sub_mul,Int.one_mul];omega
 .rw[if_neg hc,if_neg hc]
  exact h
theorem JT(b:Bool)(n:Nat):(CJ b n).natAbs=n:=by
 unfold CJ
 cases b<;>simp
theorem E8(z:Zi):(zv z).natAbs=Ad z.abs:=JT _ _
theorem XD{k:Nat}{x:Int}(hx:InB k x)(y:Int)(b:Bool):InB k (CJ b (uN x y)):=by
 unfold InB at *;rw[JT];have:=Nat.div_le_self x.natAbs y.natAbs;unfold uN;omega
theorem MK{k:Nat}{y:Int}(hy:InB k y)(h0:y≠0)(x:Int)(b:Bool):InB k (CJ b (vN x y)):=by
 unfold InB at *;rw[JT];have:=Nat.mod_lt x.natAbs (show 0<y.natAbs by omega);unfold vN;omega
theorem Pa{x g:Int}(h:g ∣ x)(h0:g≠0):rZ x g=0/\qZ x g*g=x:=by
 have hv:vN x g=0:=by
  unfold vN;exact Nat.mod_eq_zero_of_dvd (Int.natAbs_dvd_natAbs.2 h)
 have hr:rZ x g=0:=by
  unfold rZ;rw[hv,if_neg (by omega)];unfold CJ;split<;>simp
 have:=AbH x g;rw[hr]at this;omega
