/- What a text's tokens are -/
import Derived.ProofKit
set_option linter.all false
open List renaming length_cons->Apw
open Nat renaming le_refl->ω
namespace Go.Proofs.YtlmhajfbpplpoaaGreat
def Ju(c:UInt8):Bool:=decide (97<=c.toNat)&&decide (c.toNat<=122)
def B0(c:UInt8):Bool:=decide (48<=c.toNat)&&decide (c.toNat<=57)
def Fj(c:UInt8):Bool:=Ju c||B0 c||(c.toNat == 95)
def OW(c:UInt8):Bool:=[88,71,70,85,82].contains c.toNat
def Gj(p:UInt8->Bool):List UInt8->Nat
 |[]=>0
 |c::l=>if p c then Gj p l+1 else 0
def PB:Bool->List UInt8->Nat
 |_,[]=>0
 |r,c::l=>if c.toNat=10 then PB false l+1 else if r then PB true l+1 else if c.toNat=35 then PB true l+1 else if c.toNat=32\/c.toNat=9 then PB false l+1 else 0
def M6(p:Nat × Nat)(c:UInt8):Nat × Nat:=if c.toNat=10 then(p.1+1,1) else(p.1,p.2+1)
def adv(p:Nat × Nat)(l:List UInt8):Nat × Nat:=l.foldl M6 p
def JE:List (List UInt8):=[[45,62],[58,61],[33,61],[60,61],[62,61],[46,46],[40],[41],[44],[59],[58],[46],[43],[42],[38],[124],[33],[64],[61],[60],[62],[47],[45]]
def C4(l:List UInt8):Nat:=match JE.find? (·.isPrefixOf l) with|some x=>x.length|none=>0
inductive Tok1
 |fin
 |err (e:Nat)
 |tok (kind n:Nat)
 deriving DecidableEq
def He:List UInt8->Tok1
 |[]=>.fin
 |c::l=>
  if Ju c then(if 20<Gj Fj (c::l) then .err 2 else .tok 1 (Gj Fj (c::l)))
  else if B0 c then(if 60<Gj B0 (c::l) then .err 2 else if 1<Gj B0 (c::l)/\c.toNat=48 then .err 20 else .tok 3 (Gj B0 (c::l)))
  else if OW c then .tok 4 1
  else if C4 (c::l)=0 then .err 100 else .tok 2 (C4 (c::l))
theorem D9(c:UInt8)(l:List UInt8):He (c::l) =
  if Ju c then(if 20<Gj Fj (c::l) then .err 2 else .tok 1 (Gj Fj (c::l)))
  else if B0 c then(if 60<Gj B0 (c::l) then .err 2 else if 1<Gj B0 (c::l)/\c.toNat=48 then .err 20 else .tok 3 (Gj B0 (c::l)))
  else if OW c then .tok 4 1
  else if C4 (c::l)=0 then .err 100 else .tok 2 (C4 (c::l)):=rfl
def Et(l:List UInt8):Bool:=!l.isEmpty&&decide (l.length<=60)&&!(decide (1<l.length)&&(l.getD 0 0).toNat == 48)&&l.all B0
def Mt(l:List UInt8):Bool:=!l.isEmpty&&decide (l.length<=20)&&Ju (l.getD 0 0)&&l.all Fj
def Aj3:List (List UInt8):=[[116,114,117,101],[102,97,108,115,101],[118,97,114],[105,110],[105,110,105,116],[112,114,111,99],[108,111,99],[101,110,100]]
def Afm(l:List UInt8):Bool:=Aj3.contains l
def Ds(l:List UInt8):Bool:=Mt l&&!Afm l
structure Tk where
 kind:Nat
 text:List UInt8
 ln:Nat
 co:Nat
 deriving DecidableEq
inductive LexR
 |ok (ts:List Tk)
 |err (e ln co:Nat)
 deriving DecidableEq
def LexR.more(t:Tk):LexR->LexR
 |.ok ts=>.ok (t::ts)
 |.err e ln co=>.err e ln co
theorem MZ(p:UInt8->Bool):∀ l:List UInt8,Gj p l<=l.length
 |[]=>ω _
 |c::l=>by
  unfold Gj;have:=MZ p l;split
  .simp;omega
  .simp
theorem UM:∀(r:Bool) (l:List UInt8),PB r l<=l.length
 |_,[]=>ω _
 |r,c::l=>by
  have h1:=UM true l;have h2:=UM false l;unfold PB;rw[Apw]
  repeat' split
  all_goals omega
theorem P7(l:List UInt8):C4 l<=l.length:=by
 unfold C4;split
 .rename_i x h
  have:=List.find?_some h;exact(List.isPrefixOf_iff_prefix.1 this).length_le
 .omega
theorem TM{l:List UInt8}{k n:Nat}(h:He l=.tok k n):0<n/\n<=l.length:=by
 cases l with
 |nil=>simp[He]at h
 |cons c l=>
  have h1:=MZ Fj (c::l);have h2:=MZ B0 (c::l);have h3:=P7 (c::l);rw[D9]at h;split at h
  .rename_i hc
   have h4:0<Gj Fj (c::l):=by unfold Gj;rw[if_pos (by simp[Fj,hc])];omega
   split at h
   .simp at h
   .simp at h;omega
  split at h
  .rename_i hc
   have h4:0<Gj B0 (c::l):=by unfold Gj;rw[if_pos hc];omega
   split at h
   .simp at h
   .split at h
    .simp at h
    .simp at h;omega
  split at h
  .simp at h
   rw[Apw];omega
  split at h
  .simp at h
  .simp at h;omega
def U0(l:List UInt8)(p:Nat × Nat):LexR:=
 let k:=PB false l
 let q:=adv p (l.take k)
 match _h:He (l.drop k) with
 |.fin=>.ok [⟨5,[],q.1,q.2⟩]
 |.err e=>.err e q.1 q.2
 |.tok kind n=>(U0 (l.drop (k+n)) (adv q ((l.drop k).take n))).more ⟨kind,(l.drop k).take n,q.1,q.2⟩
termination_by l.length
decreasing_by
 have h1:=TM _h;rw[List.length_drop]at h1 ⊢;omega
def GJ(s:List UInt8):LexR:=if 16384<s.length then .err 2 1 1 else U0 s (1,1)
theorem Aes(l:List UInt8)(p:Nat × Nat):U0 l p=match He (l.drop (PB false l)) with
  |.fin=>.ok [⟨5,[],(adv p (l.take (PB false l))).1,(adv p (l.take (PB false l))).2⟩]
  |.err e=>.err e (adv p (l.take (PB false l))).1 (adv p (l.take (PB false l))).2
  |.tok kind n=>(U0 (l.drop (PB false l+n)) (adv (adv p (l.take (PB false l))) ((l.drop (PB false l)).take n))).more ⟨kind,(l.drop (PB false l)).take n,(adv p (l.take (PB false l))).1,(adv p (l.take (PB false l))).2⟩:=by
 rw[U0];split<;>rename_i h<;>simp only[h]
end Go.Proofs.YtlmhajfbpplpoaaGreat
