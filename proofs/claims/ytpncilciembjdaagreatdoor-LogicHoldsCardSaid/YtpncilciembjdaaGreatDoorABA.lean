/-
  A walk beside its caller's blocks, as an answer of D. No program in sight.
-/
import Derived.Test.YtpncilciembjdaaGreatDoorAAU
import Derived.Test.YtpncilciembjdaaGreatDoorAAO
set_option linter.unusedSectionVars false
set_option linter.unusedSimpArgs false
set_option linter.unusedVariables false
namespace Go.Proofs.YtpncilciembjdaaGreatDoor
open Go.RowKit

theorem goodD_side{P:Program}{f:Nat}(res:List AV->Option AV)
  (h:∀ args r,res args=some r->noidL args=true/\∀(S:Side) (w:World) (us:List Value),Sd [] w->RoL [] w args us->SemFn P f us w fun u w'=>∃ own',Xt [] own' w w'/\Ro [] w' r u) :
  GoodD (SemFn P f) (extD res):=by
 intro args bs r out hd
 cases bs with
 |cons=>cases hd
 |nil=>
  obtain⟨r',hr,he⟩:=Option.map_eq_some_iff.1 hd
  obtain⟨rfl,rfl⟩:r'=r/\[]=out:=by simpa using he
  obtain⟨hn,hs⟩:=h args r' hr
  refine⟨Nat.le_refl _,0,Nat.le_refl _,fun t _ μ F w KL us hKL hus hH hμ=>?_⟩
  have hH2:HRep μ F w fun b=>look b KL:=hrep_sub hH fun b k hb=>by
   have h1:=hKL _ (look_mem hb)
   rw[if_neg (by simp only at h1;omega)]
   exact hb
  let S:Side:=⟨μ,KL,w.heap.size,fun b k p hb hp h0=>by
   obtain⟨q,hq,B⟩:=hH2.blk b k hb
   rw[hp]at hq
   injection hq with hq
   subst hq
   obtain⟨⟨u,h1⟩,_⟩:=B.there 0 h0
   exact heap_lt h1⟩
  have hF:∀ g o,F g o->offF [] w g o:=fun g o hg=>⟨hH.prot g o hg,by simp,hrep_notZ (S:=S) hH2 hg⟩
  have hsd:Sd [] w:=⟨Nat.le_refl _,fun g hg=>by simp at hg,hrep_off (S:=S) hH2 fun g o hg _=>hF g o hg⟩
  have hro:RoL [] w args us:=RepList.later ⟨fun _ _ h=>h,fun g o hg=>⟨hF g o hg,rfl⟩⟩ _ _ (repList_noid μ (fun _=>none) args us hn hus)
  refine semFn_mono P f _ _ _ _ (hs S w us hsd hro) ?_
  rintro u w' ⟨own',hx,hu⟩
  have hoff:∀ g o,offF own' w' g o->offF [] w' g o:=fun g o hg=>⟨hg.1,by simp,hg.2.2⟩
  refine⟨μ,offF [] w',Rep.later ⟨(fun _ _ hb=>by cases hb),fun _ _ h=>⟨h,rfl⟩⟩ _ _ hu,?_,⟨fun _ _ h=>h,fun g o hg=>⟨hoff g o (hx.later.prot g o (hF g o hg)).1,(hx.later.prot g o (hF g o hg)).2⟩⟩,hx.wstep.less hF,fun _ _=>rfl⟩
  refine hrep_sub (hrep_off (S:=S) (own:=[]) (hx.side hsd).rep fun g o hg _=>hoff g o hg) fun b k hb=>?_
  by_cases hbt:b<t
  .rw[if_pos hbt]at hb
   cases hb
  .rw[if_neg hbt]at hb
   exact hb
end Go.Proofs.YtpncilciembjdaaGreatDoor
