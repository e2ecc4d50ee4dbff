/- The tokens with fuel: to -/
import Derived.Test.YtlmhajfbpplpoaaGreatPBI
set_option linter.all false
open List renaming length_drop->ArU
namespace Go.Proofs.YtlmhajfbpplpoaaGreat
def Af9:Nat->List UInt8->Nat × Nat->LexR
 |0,_,_=>.err 0 0 0
 |f+1,l,p=>match DM (l.drop (ER false l)) with
  |.fin=>.ok [⟨5,[],(adv p (l.take (ER false l))).1,(adv p (l.take (ER false l))).2⟩]
  |.err e=>.err e (adv p (l.take (ER false l))).1 (adv p (l.take (ER false l))).2
  |.tok kind n=>(Af9 f (l.drop (ER false l+n)) (adv (adv p (l.take (ER false l))) ((l.drop (ER false l)).take n))).more ⟨kind,(l.drop (ER false l)).take n,(adv p (l.take (ER false l))).1,(adv p (l.take (ER false l))).2⟩
theorem XC:∀(f:Nat) (l:List UInt8) (p:Nat × Nat),l.length<f->Af9 f l p=IC l p
 |0,_,_,h=>by omega
 |f+1,l,p,h=>by
  rw[Du,Af9]
  cases hk:DM (l.drop (ER false l)) with
  |fin=>rfl
  |err e=>rfl
  |tok k n=>
   simp only;have h1:=Hi hk;rw[ArU]at h1;rw[XC f _ _ (by rw[ArU];omega)]
def XA(l:List UInt8):LexR:=match Nat.blt 16384 l.length with
 |true=>.err 2 1 1
 |false=>Af9 (l.length+1) l (1,1)
theorem KB(l:List UInt8):Cl l=XA l:=by
 unfold Cl XA
 by_cases h:16384<l.length
 .rw[if_pos h,Nat.blt_eq.mpr h]
 .rw[if_neg h,show Nat.blt 16384 l.length=false from by rw[Bool.eq_false_iff];exact λe=>h (Nat.blt_eq.mp e)]
  exact(XC _ _ _ (Nat.lt_succ_self _)).symm
end Go.Proofs.YtlmhajfbpplpoaaGreat
