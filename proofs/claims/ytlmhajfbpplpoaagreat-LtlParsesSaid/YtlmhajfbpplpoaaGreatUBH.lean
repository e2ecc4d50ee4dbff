/-
  The tokens with fuel: to be computed.
-/
import Derived.Test.YtlmhajfbpplpoaaGreatUBF
set_option linter.unusedSectionVars false
set_option linter.unusedSimpArgs false
set_option linter.unusedVariables false
namespace Go.Proofs.YtlmhajfbpplpoaaGreat

def lexK:Nat->List UInt8->Nat × Nat->LexR
 |0,_,_=>.err 0 0 0
 |f+1,l,p=>match tok1 (l.drop (gap false l)) with
  |.fin=>.ok [⟨5,[],(adv p (l.take (gap false l))).1,(adv p (l.take (gap false l))).2⟩]
  |.err e=>.err e (adv p (l.take (gap false l))).1 (adv p (l.take (gap false l))).2
  |.tok kind n=>(lexK f (l.drop (gap false l+n)) (adv (adv p (l.take (gap false l))) ((l.drop (gap false l)).take n))).more ⟨kind,(l.drop (gap false l)).take n,(adv p (l.take (gap false l))).1,(adv p (l.take (gap false l))).2⟩
theorem lexK_eq:∀(f:Nat) (l:List UInt8) (p:Nat × Nat),l.length<f->lexK f l p=lexL l p
 |0,_,_,h=>by omega
 |f+1,l,p,h=>by
  rw[lexL_eq,lexK]
  cases hk:tok1 (l.drop (gap false l)) with
  |fin=>rfl
  |err e=>rfl
  |tok k n=>
   simp only
   have h1:=tok1_len hk
   rw[List.length_drop]at h1
   rw[lexK_eq f _ _ (by rw[List.length_drop];omega)]
def lexAllK(l:List UInt8):LexR:=match Nat.blt 16384 l.length with
 |true=>.err 2 1 1
 |false=>lexK (l.length+1) l (1,1)
theorem lexAllK_eq(l:List UInt8):lexAll l=lexAllK l:=by
 unfold lexAll lexAllK
 by_cases h:16384<l.length
 .rw[if_pos h,Nat.blt_eq.mpr h]
 .rw[if_neg h,show Nat.blt 16384 l.length=false from by rw[Bool.eq_false_iff];exact fun e=>h (Nat.blt_eq.mp e)]
  exact(lexK_eq _ _ _ (Nat.lt_succ_self _)).symm
end Go.Proofs.YtlmhajfbpplpoaaGreat
