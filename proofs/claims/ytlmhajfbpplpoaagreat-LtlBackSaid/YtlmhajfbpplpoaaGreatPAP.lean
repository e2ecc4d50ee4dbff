/- What a text's tokens are -/
import Derived.ProofKit
set_option linter.all false
open List renaming length_cons->ν
open Nat renaming le_refl->ω
namespace Go.Proofs.YtlmhajfbpplpoaaGreat
def D2(c:UInt8):Bool:=decide (97<=c.toNat)&&decide (c.toNat<=122)
def BF(c:UInt8):Bool:=decide (48<=c.toNat)&&decide (c.toNat<=57)
def Ep(c:UInt8):Bool:=D2 c||BF c||(c.toNat == 95)
def Hs(c:UInt8):Bool:=[88,71,70,85,82].contains c.toNat
def Fs(p:UInt8->Bool):List UInt8->Nat
 |[]=>0
 |c::l=>if p c then Fs p l+1 else 0
def ER:Bool->List UInt8->Nat
 |_,[]=>0
 |r,c::l=>if c.toNat=10 then ER false l+1 else if r then ER true l+1 else if c.toNat=35 then ER true l+1 else if c.toNat=32\/c.toNat=9 then ER false l+1 else 0
def Of(p:Nat × Nat)(c:UInt8):Nat × Nat:=if c.toNat=10 then(p.1+1,1) else(p.1,p.2+1)
def adv(p:Nat × Nat)(l:List UInt8):Nat × Nat:=l.foldl Of p
def Hf:List (List UInt8):=[[45,62],[58,61],[33,61],[60,61],[62,61],[46,46],[40],[41],[44],[59],[58],[46],[43],[42],[38],[124],[33],[64],[61],[60],[62],[47],[45]]
def B3(l:List UInt8):Nat:=match Hf.find? (·.isPrefixOf l) with|some x=>x.length|none=>0
inductive Tok1
 |fin
 |err (e:Nat)
 |tok (kind n:Nat)
 deriving DecidableEq
def DM:List UInt8->Tok1
 |[]=>.fin
 |c::l=>
  if D2 c then(if 20<Fs Ep (c::l) then .err 2 else .tok 1 (Fs Ep (c::l)))
  else if BF c then(if 60<Fs BF (c::l) then .err 2 else if 1<Fs BF (c::l)/\c.toNat=48 then .err 20 else .tok 3 (Fs BF (c::l)))
  else if Hs c then .tok 4 1
  else if B3 (c::l)=0 then .err 100 else .tok 2 (B3 (c::l))
theorem B4(c:UInt8)(l:List UInt8):DM (c::l) =
  if D2 c then(if 20<Fs Ep (c::l) then .err 2 else .tok 1 (Fs Ep (c::l)))
  else if BF c then(if 60<Fs BF (c::l) then .err 2 else if 1<Fs BF (c::l)/\c.toNat=48 then .err 20 else .tok 3 (Fs BF (c::l)))
  else if Hs c then .tok 4 1
  else if B3 (c::l)=0 then .err 100 else .tok 2 (B3 (c::l)):=rfl
def DS(l:List UInt8):Bool:=!l.isEmpty&&decide (l.length<=60)&&!(decide (1<l.length)&&(l.getD 0 0).toNat == 48)&&l.all BF
def Gd(l:List UInt8):Bool:=!l.isEmpty&&decide (l.length<=20)&&D2 (l.getD 0 0)&&l.all Ep
def Alv:List (List UInt8):=[[116,114,117,101],[102,97,108,115,101],[118,97,114],[105,110],[105,110,105,116],[112,114,111,99],[108,111,99],[101,110,100]]
def AgH(l:List UInt8):Bool:=Alv.contains l
def Cq(l:List UInt8):Bool:=Gd l&&!AgH l
structure Tk where
 kind:Nat
 text:List UInt8
 ln:Nat
 co:Nat
 deriving DecidableEq
inductive LexR
 |ok (ts:List Tk)
 |err (e ln co:Nat)
 deriving DecidableEq
def LexR.more(t:Tk):LexR->LexR
 |.ok ts=>.ok (t::ts)
 |.err e ln co=>.err e ln co
theorem N7(p:UInt8->Bool):∀ l:List UInt8,Fs p l<=l.length
 |[]=>ω _
 |c::l=>by
  unfold Fs;have:=N7 p l;split
  .simp;omega
  .simp
theorem VW:∀(r:Bool) (l:List UInt8),ER r l<=l.length
 |_,[]=>ω _
 |r,c::l=>by
  have h1:=VW true l;have h2:=VW false l;unfold ER;rw[ν]
  repeat' split
  all_goals omega
theorem Rh(l:List UInt8):B3 l<=l.length:=by
 unfold B3;split
 .rename_i x h
  have:=List.find?_some h;exact(List.isPrefixOf_iff_prefix.1 this).length_le
 .omega
theorem Hi{l:List UInt8}{k n:Nat}(h:DM l=.tok k n):0<n/\n<=l.length:=by
 cases l with
 |nil=>simp[DM]at h
 |cons c l=>
  have h1:=N7 Ep (c::l);have h2:=N7 BF (c::l);have h3:=Rh (c::l);rw[B4]at h;split at h
  .rename_i hc
   have h4:0<Fs Ep (c::l):=by unfold Fs;rw[if_pos (by simp[Ep,hc])];omega
   split at h
   .simp at h
   .simp at h;omega
  split at h
  .rename_i hc
   have h4:0<Fs BF (c::l):=by unfold Fs;rw[if_pos hc];omega
   split at h
   .simp at h
   .split at h
    .simp at h
    .simp at h;omega
  split at h
  .simp at h
   rw[ν];omega
  split at h
  .simp at h
  .simp at h;omega
def IC(l:List UInt8)(p:Nat × Nat):LexR:=
 let k:=ER false l
 let q:=adv p (l.take k)
 match _h:DM (l.drop k) with
 |.fin=>.ok [⟨5,[],q.1,q.2⟩]
 |.err e=>.err e q.1 q.2
 |.tok kind n=>(IC (l.drop (k+n)) (adv q ((l.drop k).take n))).more ⟨kind,(l.drop k).take n,q.1,q.2⟩
termination_by l.length
decreasing_by
 have h1:=Hi _h;rw[List.length_drop]at h1 ⊢;omega
def Cl(s:List UInt8):LexR:=if 16384<s.length then .err 2 1 1 else IC s (1,1)
theorem Du(l:List UInt8)(p:Nat × Nat):IC l p=match DM (l.drop (ER false l)) with
  |.fin=>.ok [⟨5,[],(adv p (l.take (ER false l))).1,(adv p (l.take (ER false l))).2⟩]
  |.err e=>.err e (adv p (l.take (ER false l))).1 (adv p (l.take (ER false l))).2
  |.tok kind n=>(IC (l.drop (ER false l+n)) (adv (adv p (l.take (ER false l))) ((l.drop (ER false l)).take n))).more ⟨kind,(l.drop (ER false l)).take n,(adv p (l.take (ER false l))).1,(adv p (l.take (ER false l))).2⟩:=by
 rw[IC];split<;>rename_i h<;>simp only[h]
end Go.Proofs.YtlmhajfbpplpoaaGreat
