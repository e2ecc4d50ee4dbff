/- Facts of the tokens of a -/
import Derived.Test.YtlmhajfbpplpoaaGreatPAU
set_option linter.all false
open List renaming length_drop->ArU
namespace Go.Proofs.YtlmhajfbpplpoaaGreat
open Go.RowKit
theorem Ag7{l:List UInt8}{e:Nat}(h:DM l=.err e):e≠0:=by
 cases l with
 |nil=>simp[DM]at h
 |cons c l=>
  rw[B4]at h
  repeat' split at h
  all_goals simp at h
  all_goals omega
theorem XX{t:Tk}{r:LexR}{ts:List Tk}(h:r.more t=.ok ts):∃ us,r=.ok us/\ts=t::us:=by
 cases r with
 |ok us=>exact⟨us,rfl,by injection h with h;exact h.symm⟩
 |err=>cases h
theorem Ac4{t:Tk}{r:LexR}{c ln co:Nat}(h:r.more t=.err c ln co):r=.err c ln co:=by
 cases r with
 |ok us=>cases h
 |err=>exact h
structure TksF (n:Nat) (ts:List Tk):Prop where
 len:ts.length<=n+1
 ne:ts≠[]
 last:∀ d,(ts.getLastD d).kind=5
 each:∀ t∈ts,t.text.length<=n/\(t.kind≠5->t.text≠[])
theorem Wd:∀(n:Nat) (l:List UInt8) (p:Nat × Nat),l.length<=n->(∀ ts,IC l p=.ok ts->TksF n ts)/\∀ c ln co,IC l p=.err c ln co->c≠0:=by
 intro n
 induction n with
 |zero=>
  intro l p hl;have:l=[]:=List.length_eq_zero_iff.1 (by omega);subst this;rw[Du];refine⟨λts h=>?_,λc ln co h=>?_⟩
  .have h:LexR.ok [⟨5,[],(adv p []).1,(adv p []).2⟩]=.ok ts:=h
   injection h with h
   subst h;exact⟨by simp,by simp,λd=>rfl,by simp⟩
  .have h:LexR.ok [⟨5,[],(adv p []).1,(adv p []).2⟩]=.err c ln co:=h
   cases h
 |succ n ih=>
  intro l p hl;rw[Du]
  cases ht:DM (l.drop (ER false l)) with
  |fin=>
   refine⟨λts h=>?_,λc ln co h=>(by cases h)⟩;injection h with h
   subst h;exact⟨by simp,by simp,λd=>rfl,by simp⟩
  |err e=>
   refine⟨λts h=>(by cases h),λc ln co h=>?_⟩;injection h with h
   rw[←h];exact Ag7 ht
  |tok k m=>
   have hm:=Hi ht;rw[ArU]at hm;have ih:=ih (l.drop (ER false l+m)) (adv (adv p (l.take (ER false l))) ((l.drop (ER false l)).take m)) (by rw[ArU];omega);refine⟨λts h=>?_,λc ln co h=>ih.2 c ln co (Ac4 h)⟩;obtain⟨us,hu,rfl⟩:=XX h;have f:=ih.1 us hu;have hlen:((l.drop (ER false l)).take m).length=m:=by rw[List.length_take,ArU];omega
   refine⟨by have:=f.len;simp;omega,by simp,λd=>?_,λt h=>?_⟩
   .rw[List.getLastD_cons]
    exact f.last _
   .rcases List.mem_cons.1 h with rfl|h
    .refine⟨by rw[hlen];omega,λ_ h0=>?_⟩
     have h0:(l.drop (ER false l)).take m=[]:=h0;rw[h0]at hlen;simp at hlen;omega
    .have:=f.each t h
     exact⟨by omega,this.2⟩
theorem H8(l:List UInt8):(∀ ts,Cl l=.ok ts->TksF l.length ts)/\∀ c ln co,Cl l=.err c ln co->c≠0:=by
 unfold Cl;split
 .refine⟨λts h=>(by cases h),λc ln co h=>?_⟩
  injection h with h
  omega
 .exact Wd l.length l (1,1) (Nat.le_refl _)
theorem Adl{ts:List Tk}(h:ts≠[])(i:Nat):nx ts i∈ts:=by
 unfold nx
 cases e:ts[i]? with
 |some t=>exact List.mem_of_getElem? e
 |none=>
  simp only;rw[List.getLastD_eq_getLast?,List.getLast?_eq_some_getLast h];exact List.getLast_mem h
theorem TksF.toks{n:Nat}{ts:List Tk}(f:TksF n ts)(hn:n<=1000000):Toks ts where
 len:=by have:=f.len;omega
 short i:=by have:=(f.each _ (Adl f.ne i)).1;omega
 fin:=f.last _
end Go.Proofs.YtlmhajfbpplpoaaGreat
