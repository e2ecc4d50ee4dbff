/- What a text's tokens are: over lists of bytes. No -/
import Derived.ProofKit
set_option linter.all false
open List renaming length_cons->ApI
open Nat renaming le_refl->ApA
namespace Go.Proofs.YtlmhajfbpplpoaaGreat
def Ju(c:UInt8):Bool:=decide (97<=c.toNat)&&decide (c.toNat<=122)
def Cd(c:UInt8):Bool:=decide (48<=c.toNat)&&decide (c.toNat<=57)
def Fs(c:UInt8):Bool:=Ju c||Cd c||(c.toNat == 95)
def O2(c:UInt8):Bool:=[88,71,70,85,82].contains c.toNat
def Gs(p:UInt8->Bool):List UInt8->Nat
 |[]=>0
 |c::l=>if p c then Gs p l+1 else 0
def PG:Bool->List UInt8->Nat
 |_,[]=>0
 |r,c::l=>if c.toNat=10 then PG false l+1 else if r then PG true l+1 else if c.toNat=35 then PG true l+1 else if c.toNat=32\/c.toNat=9 then PG false l+1 else 0
def Nb(p:Nat × Nat)(c:UInt8):Nat × Nat:=if c.toNat=10 then(p.1+1,1) else(p.1,p.2+1)
def adv(p:Nat × Nat)(l:List UInt8):Nat × Nat:=l.foldl Nb p
def JE:List (List UInt8):=[[45,62],[58,61],[33,61],[60,61],[62,61],[46,46],[40],[41],[44],[59],[58],[46],[43],[42],[38],[124],[33],[64],[61],[60],[62],[47],[45]]
def Df(l:List UInt8):Nat:=match JE.find? (·.isPrefixOf l) with|some x=>x.length|none=>0
inductive Tok1
 |fin
 |err (e:Nat)
 |tok (kind n:Nat)
 deriving DecidableEq
def Hi:List UInt8->Tok1
 |[]=>.fin
 |c::l=>
  if Ju c then(if 20<Gs Fs (c::l) then .err 2 else .tok 1 (Gs Fs (c::l)))
  else if Cd c then(if 60<Gs Cd (c::l) then .err 2 else if 1<Gs Cd (c::l)/\c.toNat=48 then .err 20 else .tok 3 (Gs Cd (c::l)))
  else if O2 c then .tok 4 1
  else if Df (c::l)=0 then .err 100 else .tok 2 (Df (c::l))
theorem Ek(c:UInt8)(l:List UInt8):Hi (c::l) =
  if Ju c then(if 20<Gs Fs (c::l) then .err 2 else .tok 1 (Gs Fs (c::l)))
  else if Cd c then(if 60<Gs Cd (c::l) then .err 2 else if 1<Gs Cd (c::l)/\c.toNat=48 then .err 20 else .tok 3 (Gs Cd (c::l)))
  else if O2 c then .tok 4 1
  else if Df (c::l)=0 then .err 100 else .tok 2 (Df (c::l)):=rfl
def Ew(l:List UInt8):Bool:=!l.isEmpty&&decide (l.length<=60)&&!(decide (1<l.length)&&(l.getD 0 0).toNat == 48)&&l.all Cd
def Mz(l:List UInt8):Bool:=!l.isEmpty&&decide (l.length<=20)&&Ju (l.getD 0 0)&&l.all Fs
def Aj3:List (List UInt8):=[[116,114,117,101],[102,97,108,115,101],[118,97,114],[105,110],[105,110,105,116],[112,114,111,99],[108,111,99],[101,110,100]]
def Afj(l:List UInt8):Bool:=Aj3.contains l
def DE(l:List UInt8):Bool:=Mz l&&!Afj l
structure Tk where
 kind:Nat
 text:List UInt8
 ln:Nat
 co:Nat
 deriving DecidableEq
inductive LexR
 |ok (ts:List Tk)
 |err (e ln co:Nat)
 deriving DecidableEq
def LexR.more(t:Tk):LexR->LexR
 |.ok ts=>.ok (t::ts)
 |.err e ln co=>.err e ln co
theorem M4(p:UInt8->Bool):∀ l:List UInt8,Gs p l<=l.length
 |[]=>ApA _
 |c::l=>by
  unfold Gs;have:=M4 p l;split
  .simp;omega
  .simp
theorem UR:∀(r:Bool) (l:List UInt8),PG r l<=l.length
 |_,[]=>ApA _
 |r,c::l=>by
  have h1:=UR true l;have h2:=UR false l;unfold PG;rw[ApI]
  repeat' split
  all_goals omega
theorem Qc(l:List UInt8):Df l<=l.length:=by
 unfold Df;split
 .rename_i x h
  have:=List.find?_some h;exact(List.isPrefixOf_iff_prefix.1 this).length_le
 .omega
theorem TP{l:List UInt8}{k n:Nat}(h:Hi l=.tok k n):0<n/\n<=l.length:=by
 cases l with
 |nil=>simp[Hi]at h
 |cons c l=>
  have h1:=M4 Fs (c::l);have h2:=M4 Cd (c::l);have h3:=Qc (c::l);rw[Ek]at h;split at h
  .rename_i hc
   have h4:0<Gs Fs (c::l):=by unfold Gs;rw[if_pos (by simp[Fs,hc])];omega
   split at h
   .simp at h
   .simp at h;omega
  split at h
  .rename_i hc
   have h4:0<Gs Cd (c::l):=by unfold Gs;rw[if_pos hc];omega
   split at h
   .simp at h
   .split at h
    .simp at h
    .simp at h;omega
  split at h
  .simp at h
   rw[ApI];omega
  split at h
  .simp at h
  .simp at h;omega
def U4(l:List UInt8)(p:Nat × Nat):LexR:=
 let k:=PG false l
 let q:=adv p (l.take k)
 match _h:Hi (l.drop k) with
 |.fin=>.ok [⟨5,[],q.1,q.2⟩]
 |.err e=>.err e q.1 q.2
 |.tok kind n=>(U4 (l.drop (k+n)) (adv q ((l.drop k).take n))).more ⟨kind,(l.drop k).take n,q.1,q.2⟩
termination_by l.length
decreasing_by
 have h1:=TP _h;rw[List.length_drop]at h1 ⊢;omega
def GO(s:List UInt8):LexR:=if 16384<s.length then .err 2 1 1 else U4 s (1,1)
theorem Aeq(l:List UInt8)(p:Nat × Nat):U4 l p=match Hi (l.drop (PG false l)) with
  |.fin=>.ok [⟨5,[],(adv p (l.take (PG false l))).1,(adv p (l.take (PG false l))).2⟩]
  |.err e=>.err e (adv p (l.take (PG false l))).1 (adv p (l.take (PG false l))).2
  |.tok kind n=>(U4 (l.drop (PG false l+n)) (adv (adv p (l.take (PG false l))) ((l.drop (PG false l)).take n))).more ⟨kind,(l.drop (PG false l)).take n,(adv p (l.take (PG false l))).1,(adv p (l.take (PG false l))).2⟩:=by
 rw[U4];split<;>rename_i h<;>simp only[h]
end Go.Proofs.YtlmhajfbpplpoaaGreat
