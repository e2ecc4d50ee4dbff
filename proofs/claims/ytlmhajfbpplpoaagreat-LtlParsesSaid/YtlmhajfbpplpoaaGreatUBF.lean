/-
  Facts of the tokens of a text. No program in sight.
-/
import Derived.Test.YtlmhajfbpplpoaaGreatUAU
set_option linter.unusedSectionVars false
set_option linter.unusedSimpArgs false
set_option linter.unusedVariables false
namespace Go.Proofs.YtlmhajfbpplpoaaGreat
open Go.RowKit

theorem tok1_ne{l:List UInt8}{e:Nat}(h:tok1 l=.err e):e≠0:=by
 cases l with
 |nil=>simp[tok1]at h
 |cons c l=>
  rw[tok1_cons]at h
  repeat' split at h
  all_goals simp at h
  all_goals omega
theorem more_ok{t:Tk}{r:LexR}{ts:List Tk}(h:r.more t=.ok ts):∃ us,r=.ok us/\ts=t::us:=by
 cases r with
 |ok us=>exact⟨us,rfl,by injection h with h;exact h.symm⟩
 |err=>cases h
theorem more_err{t:Tk}{r:LexR}{c ln co:Nat}(h:r.more t=.err c ln co):r=.err c ln co:=by
 cases r with
 |ok us=>cases h
 |err=>exact h
structure TksF (n:Nat) (ts:List Tk):Prop where
 len:ts.length<=n+1
 ne:ts≠[]
 last:∀ d,(ts.getLastD d).kind=5
 each:∀ t∈ts,t.text.length<=n/\(t.kind≠5->t.text≠[])
theorem lexL_facts:∀(n:Nat) (l:List UInt8) (p:Nat × Nat),l.length<=n->(∀ ts,lexL l p=.ok ts->TksF n ts)/\∀ c ln co,lexL l p=.err c ln co->c≠0:=by
 intro n
 induction n with
 |zero=>
  intro l p hl
  have:l=[]:=List.length_eq_zero_iff.1 (by omega)
  subst this
  rw[lexL_eq]
  refine⟨fun ts h=>?_,fun c ln co h=>?_⟩
  .have h:LexR.ok [⟨5,[],(adv p []).1,(adv p []).2⟩]=.ok ts:=h
   injection h with h
   subst h
   exact⟨by simp,by simp,fun d=>rfl,by simp⟩
  .have h:LexR.ok [⟨5,[],(adv p []).1,(adv p []).2⟩]=.err c ln co:=h
   cases h
 |succ n ih=>
  intro l p hl
  rw[lexL_eq]
  cases ht:tok1 (l.drop (gap false l)) with
  |fin=>
   refine⟨fun ts h=>?_,fun c ln co h=>(by cases h)⟩
   injection h with h
   subst h
   exact⟨by simp,by simp,fun d=>rfl,by simp⟩
  |err e=>
   refine⟨fun ts h=>(by cases h),fun c ln co h=>?_⟩
   injection h with h
   rw[←h]
   exact tok1_ne ht
  |tok k m=>
   have hm:=tok1_len ht
   rw[List.length_drop]at hm
   have ih:=ih (l.drop (gap false l+m)) (adv (adv p (l.take (gap false l))) ((l.drop (gap false l)).take m)) (by rw[List.length_drop];omega)
   refine⟨fun ts h=>?_,fun c ln co h=>ih.2 c ln co (more_err h)⟩
   obtain⟨us,hu,rfl⟩:=more_ok h
   have f:=ih.1 us hu
   have hlen:((l.drop (gap false l)).take m).length=m:=by rw[List.length_take,List.length_drop];omega
   refine⟨by have:=f.len;simp;omega,by simp,fun d=>?_,fun t h=>?_⟩
   .rw[List.getLastD_cons]
    exact f.last _
   .rcases List.mem_cons.1 h with rfl|h
    .refine⟨by rw[hlen];omega,fun _ h0=>?_⟩
     have h0:(l.drop (gap false l)).take m=[]:=h0
     rw[h0]at hlen
     simp at hlen
     omega
    .have:=f.each t h
     exact⟨by omega,this.2⟩
theorem lexAll_facts(l:List UInt8):(∀ ts,lexAll l=.ok ts->TksF l.length ts)/\∀ c ln co,lexAll l=.err c ln co->c≠0:=by
 unfold lexAll
 split
 .refine⟨fun ts h=>(by cases h),fun c ln co h=>?_⟩
  injection h with h
  omega
 .exact lexL_facts l.length l (1,1) (Nat.le_refl _)
theorem nx_mem{ts:List Tk}(h:ts≠[])(i:Nat):nx ts i∈ts:=by
 unfold nx
 cases e:ts[i]? with
 |some t=>exact List.mem_of_getElem? e
 |none=>
  simp only
  rw[List.getLastD_eq_getLast?,List.getLast?_eq_some_getLast h]
  exact List.getLast_mem h
theorem TksF.toks{n:Nat}{ts:List Tk}(f:TksF n ts)(hn:n<=1000000):Toks ts where
 len:=by have:=f.len;omega
 short i:=by have:=(f.each _ (nx_mem f.ne i)).1;omega
 fin:=f.last _
theorem TksF.num{n:Nat}{ts:List Tk}(f:TksF n ts)(i:Nat)(h:(nx ts i).kind=3):(nx ts i).text≠[]:=(f.each _ (nx_mem f.ne i)).2 (by omega)
end Go.Proofs.YtlmhajfbpplpoaaGreat
