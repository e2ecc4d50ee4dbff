/- What a text's tokens are: over lists of bytes. No -/
import Derived.ProofKit
set_option linter.unusedSectionVars false
set_option linter.unusedSimpArgs false
set_option linter.unusedVariables false
namespace Go.Proofs.YtlmhajfbpplpoaaGreat
def G2(c:UInt8):Bool:=decide (97<=c.toNat)&&decide (c.toNat<=122)
def B4(c:UInt8):Bool:=decide (48<=c.toNat)&&decide (c.toNat<=57)
def Fg(c:UInt8):Bool:=G2 c||B4 c||(c.toNat == 95)
def Oh(c:UInt8):Bool:=[88,71,70,85,82].contains c.toNat
def Gd(p:UInt8->Bool):List UInt8->Nat
 |[]=>0
 |c::l=>if p c then Gd p l+1 else 0
def OR:Bool->List UInt8->Nat
 |_,[]=>0
 |r,c::l=>if c.toNat=10 then OR false l+1 else if r then OR true l+1 else if c.toNat=35 then OR true l+1 else if c.toNat=32\/c.toNat=9 then OR false l+1 else 0
def Mw(p:Nat × Nat)(c:UInt8):Nat × Nat:=if c.toNat=10 then(p.1+1,1) else(p.1,p.2+1)
def adv(p:Nat × Nat)(l:List UInt8):Nat × Nat:=l.foldl Mw p
def Jh:List (List UInt8):=[[45,62],[58,61],[33,61],[60,61],[62,61],[46,46],[40],[41],[44],[59],[58],[46],[43],[42],[38],[124],[33],[64],[61],[60],[62],[47],[45]]
def C8(l:List UInt8):Nat:=match Jh.find? (·.isPrefixOf l) with|some x=>x.length|none=>0
inductive Tok1
 |fin
 |err (e:Nat)
 |tok (kind n:Nat)
 deriving DecidableEq
def GP:List UInt8->Tok1
 |[]=>.fin
 |c::l=>
  if G2 c then(if 20<Gd Fg (c::l) then .err 2 else .tok 1 (Gd Fg (c::l)))
  else if B4 c then(if 60<Gd B4 (c::l) then .err 2 else if 1<Gd B4 (c::l)/\c.toNat=48 then .err 20 else .tok 3 (Gd B4 (c::l)))
  else if Oh c then .tok 4 1
  else if C8 (c::l)=0 then .err 100 else .tok 2 (C8 (c::l))
theorem Ei(c:UInt8)(l:List UInt8):GP (c::l) =
  if G2 c then(if 20<Gd Fg (c::l) then .err 2 else .tok 1 (Gd Fg (c::l)))
  else if B4 c then(if 60<Gd B4 (c::l) then .err 2 else if 1<Gd B4 (c::l)/\c.toNat=48 then .err 20 else .tok 3 (Gd B4 (c::l)))
  else if Oh c then .tok 4 1
  else if C8 (c::l)=0 then .err 100 else .tok 2 (C8 (c::l)):=rfl
def Et(l:List UInt8):Bool:=!l.isEmpty&&decide (l.length<=60)&&!(decide (1<l.length)&&(l.getD 0 0).toNat == 48)&&l.all B4
def LU(l:List UInt8):Bool:=!l.isEmpty&&decide (l.length<=20)&&G2 (l.getD 0 0)&&l.all Fg
def Ahj:List (List UInt8):=[[116,114,117,101],[102,97,108,115,101],[118,97,114],[105,110],[105,110,105,116],[112,114,111,99],[108,111,99],[101,110,100]]
def AcP(l:List UInt8):Bool:=Ahj.contains l
def E3(l:List UInt8):Bool:=LU l&&!AcP l
structure Tk where
 kind:Nat
 text:List UInt8
 ln:Nat
 co:Nat
 deriving DecidableEq
inductive LexR
 |ok (ts:List Tk)
 |err (e ln co:Nat)
 deriving DecidableEq
def LexR.more(t:Tk):LexR->LexR
 |.ok ts=>.ok (t::ts)
 |.err e ln co=>.err e ln co
theorem Ml(p:UInt8->Bool):∀ l:List UInt8,Gd p l<=l.length
 |[]=>Nat.le_refl _
 |c::l=>by
  unfold Gd
  have:=Ml p l
  split
  .simp;omega
  .simp
theorem TM:∀(r:Bool) (l:List UInt8),OR r l<=l.length
 |_,[]=>Nat.le_refl _
 |r,c::l=>by
  have h1:=TM true l
  have h2:=TM false l
  unfold OR
  rw[List.length_cons]
  repeat' split
  all_goals omega
theorem Pr(l:List UInt8):C8 l<=l.length:=by
 unfold C8
 split
 .rename_i x h
  have:=List.find?_some h
  exact(List.isPrefixOf_iff_prefix.1 this).length_le
 .omega
theorem SQ{l:List UInt8}{k n:Nat}(h:GP l=.tok k n):0<n/\n<=l.length:=by
 cases l with
 |nil=>simp[GP]at h
 |cons c l=>
  have h1:=Ml Fg (c::l)
  have h2:=Ml B4 (c::l)
  have h3:=Pr (c::l)
  rw[Ei]at h
  split at h
  .rename_i hc
   have h4:0<Gd Fg (c::l):=by unfold Gd;rw[if_pos (by simp[Fg,hc])];omega
   split at h
   .simp at h
   .simp at h;omega
  split at h
  .rename_i hc
   have h4:0<Gd B4 (c::l):=by unfold Gd;rw[if_pos hc];omega
   split at h
   .simp at h
   .split at h
    .simp at h
    .simp at h;omega
  split at h
  .simp at h
   rw[List.length_cons];omega
  split at h
  .simp at h
  .simp at h;omega
def TY(l:List UInt8)(p:Nat × Nat):LexR:=
 let k:=OR false l
 let q:=adv p (l.take k)
 match _h:GP (l.drop k) with
 |.fin=>.ok [⟨5,[],q.1,q.2⟩]
 |.err e=>.err e q.1 q.2
 |.tok kind n=>(TY (l.drop (k+n)) (adv q ((l.drop k).take n))).more ⟨kind,(l.drop k).take n,q.1,q.2⟩
termination_by l.length
decreasing_by
 have h1:=SQ _h
 rw[List.length_drop]at h1 ⊢
 omega
def GC(s:List UInt8):LexR:=if 16384<s.length then .err 2 1 1 else TY s (1,1)
theorem Ace(l:List UInt8)(p:Nat × Nat):TY l p=match GP (l.drop (OR false l)) with
  |.fin=>.ok [⟨5,[],(adv p (l.take (OR false l))).1,(adv p (l.take (OR false l))).2⟩]
  |.err e=>.err e (adv p (l.take (OR false l))).1 (adv p (l.take (OR false l))).2
  |.tok kind n=>(TY (l.drop (OR false l+n)) (adv (adv p (l.take (OR false l))) ((l.drop (OR false l)).take n))).more ⟨kind,(l.drop (OR false l)).take n,(adv p (l.take (OR false l))).1,(adv p (l.take (OR false l))).2⟩:=by
 rw[TY]
 split<;>rename_i h<;>simp only[h]
end Go.Proofs.YtlmhajfbpplpoaaGreat
