/-
  What a text's tokens are: over lists of bytes. No program in sight.
-/
import Derived.ProofKit
set_option linter.unusedSectionVars false
set_option linter.unusedSimpArgs false
set_option linter.unusedVariables false
namespace Go.Proofs.YtlmhajfbpplpoaaGreat

def lowB(c:UInt8):Bool:=decide (97<=c.toNat)&&decide (c.toNat<=122)
def digB(c:UInt8):Bool:=decide (48<=c.toNat)&&decide (c.toNat<=57)
def innB(c:UInt8):Bool:=lowB c||digB c||(c.toNat == 95)
def bigB(c:UInt8):Bool:=[88,71,70,85,82].contains c.toNat
def span(p:UInt8->Bool):List UInt8->Nat
 |[]=>0
 |c::l=>if p c then span p l+1 else 0
def gap:Bool->List UInt8->Nat
 |_,[]=>0
 |r,c::l=>if c.toNat=10 then gap false l+1 else if r then gap true l+1 else if c.toNat=35 then gap true l+1 else if c.toNat=32\/c.toNat=9 then gap false l+1 else 0
def adv1(p:Nat × Nat)(c:UInt8):Nat × Nat:=if c.toNat=10 then(p.1+1,1) else(p.1,p.2+1)
def adv(p:Nat × Nat)(l:List UInt8):Nat × Nat:=l.foldl adv1 p
def sgns:List (List UInt8):=[[45,62],[58,61],[33,61],[60,61],[62,61],[46,46],[40],[41],[44],[59],[58],[46],[43],[42],[38],[124],[33],[64],[61],[60],[62],[47],[45]]
def sgnLen(l:List UInt8):Nat:=match sgns.find? (·.isPrefixOf l) with|some x=>x.length|none=>0

inductive Tok1
 |fin
 |err (e:Nat)
 |tok (kind n:Nat)
 deriving DecidableEq
def tok1:List UInt8->Tok1
 |[]=>.fin
 |c::l=>
  if lowB c then(if 20<span innB (c::l) then .err 2 else .tok 1 (span innB (c::l)))
  else if digB c then(if 60<span digB (c::l) then .err 2 else if 1<span digB (c::l)/\c.toNat=48 then .err 20 else .tok 3 (span digB (c::l)))
  else if bigB c then .tok 4 1
  else if sgnLen (c::l)=0 then .err 100 else .tok 2 (sgnLen (c::l))

theorem tok1_cons(c:UInt8)(l:List UInt8):tok1 (c::l) =
  if lowB c then(if 20<span innB (c::l) then .err 2 else .tok 1 (span innB (c::l)))
  else if digB c then(if 60<span digB (c::l) then .err 2 else if 1<span digB (c::l)/\c.toNat=48 then .err 20 else .tok 3 (span digB (c::l)))
  else if bigB c then .tok 4 1
  else if sgnLen (c::l)=0 then .err 100 else .tok 2 (sgnLen (c::l)):=rfl

def numB(l:List UInt8):Bool:=!l.isEmpty&&decide (l.length<=60)&&!(decide (1<l.length)&&(l.getD 0 0).toNat == 48)&&l.all digB
def wordB(l:List UInt8):Bool:=!l.isEmpty&&decide (l.length<=20)&&lowB (l.getD 0 0)&&l.all innB
def resL:List (List UInt8):=[[116,114,117,101],[102,97,108,115,101],[118,97,114],[105,110],[105,110,105,116],[112,114,111,99],[108,111,99],[101,110,100]]
def resB(l:List UInt8):Bool:=resL.contains l
def nameB(l:List UInt8):Bool:=wordB l&&!resB l
structure Tk where
 kind:Nat
 text:List UInt8
 ln:Nat
 co:Nat
 deriving DecidableEq
inductive LexR
 |ok (ts:List Tk)
 |err (e ln co:Nat)
 deriving DecidableEq
def LexR.more(t:Tk):LexR->LexR
 |.ok ts=>.ok (t::ts)
 |.err e ln co=>.err e ln co

theorem span_le(p:UInt8->Bool):∀ l:List UInt8,span p l<=l.length
 |[]=>Nat.le_refl _
 |c::l=>by
  unfold span
  have:=span_le p l
  split
  .simp;omega
  .simp
theorem gap_le:∀(r:Bool) (l:List UInt8),gap r l<=l.length
 |_,[]=>Nat.le_refl _
 |r,c::l=>by
  have h1:=gap_le true l
  have h2:=gap_le false l
  unfold gap
  rw[List.length_cons]
  repeat' split
  all_goals omega
theorem sgnLen_le(l:List UInt8):sgnLen l<=l.length:=by
 unfold sgnLen
 split
 .rename_i x h
  have:=List.find?_some h
  exact(List.isPrefixOf_iff_prefix.1 this).length_le
 .omega
theorem tok1_len{l:List UInt8}{k n:Nat}(h:tok1 l=.tok k n):0<n/\n<=l.length:=by
 cases l with
 |nil=>simp[tok1]at h
 |cons c l=>
  have h1:=span_le innB (c::l)
  have h2:=span_le digB (c::l)
  have h3:=sgnLen_le (c::l)
  rw[tok1_cons]at h
  split at h
  .rename_i hc
   have h4:0<span innB (c::l):=by unfold span;rw[if_pos (by simp[innB,hc])];omega
   split at h
   .simp at h
   .simp at h;omega
  split at h
  .rename_i hc
   have h4:0<span digB (c::l):=by unfold span;rw[if_pos hc];omega
   split at h
   .simp at h
   .split at h
    .simp at h
    .simp at h;omega
  split at h
  .simp at h
   rw[List.length_cons];omega
  split at h
  .simp at h
  .simp at h;omega

def lexL(l:List UInt8)(p:Nat × Nat):LexR:=
 let k:=gap false l
 let q:=adv p (l.take k)
 match _h:tok1 (l.drop k) with
 |.fin=>.ok [⟨5,[],q.1,q.2⟩]
 |.err e=>.err e q.1 q.2
 |.tok kind n=>(lexL (l.drop (k+n)) (adv q ((l.drop k).take n))).more ⟨kind,(l.drop k).take n,q.1,q.2⟩
termination_by l.length
decreasing_by
 have h1:=tok1_len _h
 rw[List.length_drop]at h1 ⊢
 omega
def lexAll(s:List UInt8):LexR:=if 16384<s.length then .err 2 1 1 else lexL s (1,1)

theorem lexL_eq(l:List UInt8)(p:Nat × Nat):lexL l p=match tok1 (l.drop (gap false l)) with
  |.fin=>.ok [⟨5,[],(adv p (l.take (gap false l))).1,(adv p (l.take (gap false l))).2⟩]
  |.err e=>.err e (adv p (l.take (gap false l))).1 (adv p (l.take (gap false l))).2
  |.tok kind n=>(lexL (l.drop (gap false l+n)) (adv (adv p (l.take (gap false l))) ((l.drop (gap false l)).take n))).more ⟨kind,(l.drop (gap false l)).take n,(adv p (l.take (gap false l))).1,(adv p (l.take (gap false l))).2⟩:=by
 rw[lexL]
 split<;>rename_i h<;>simp only[h]
end Go.Proofs.YtlmhajfbpplpoaaGreat
