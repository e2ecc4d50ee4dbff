/- A walk beside its caller -/
import Derived.Test.YtpncilciembjdaaGreatDoorJBG
set_option linter.all false
open Nat renaming le_refl->η
namespace Go.Proofs.YtpncilciembjdaaGreatDoor
open Go.RowKit
theorem UJ{P:Program}{f:Nat}(res:Aa->Option AV)
  (h:∀ args r,res args=some r->AU args=true/\∀(S:Side) (w:World) (us:AA),Sd [] w->RoL [] w args us->Bi P f us w λu w'=>∃ own',Xt [] own' w w'/\Ro [] w' r u) :
  A1 (Bi P f) (CS res):=by
 intro args bs r out hd
 cases bs with
 |cons=>cases hd
 |nil=>
  obtain⟨r',hr,he⟩:=Option.map_eq_some_iff.1 hd;obtain⟨rfl,rfl⟩:r'=r/\[]=out:=by simpa using he
  obtain⟨hn,hs⟩:=h args r' hr;refine⟨η _,0,η _,λt _ μ F w KL us hKL hus hH hμ=>?_⟩;have hH2:HRep μ F w λb=>look b KL:=NH hH λb k hb=>by
   have h1:=hKL _ (NT hb);rw[Ad (by simp only at h1;omega)];exact hb
  let S:Side:=⟨μ,KL,w.heap.size,λb k p hb hp h0=>by
   obtain⟨q,hq,B⟩:=hH2.blk b k hb;rw[hp]at hq;injection hq with hq
   subst hq;obtain⟨⟨u,h1⟩,_⟩:=B.there 0 h0;exact C7 h1⟩
  have hF:∀ g o,F g o->C3 [] w g o:=λg o hg=>⟨hH.prot g o hg,by simp,Ia (S:=S) hH2 hg⟩
  have hsd:Sd [] w:=⟨η _,λg hg=>by simp at hg,He (S:=S) hH2 λg o hg _=>hF g o hg⟩;have hro:RoL [] w args us:=RepList.later ⟨λ_ _ h=>h,λg o hg=>⟨hF g o hg,rfl⟩⟩ _ _ (Dm μ (λ_=>none) args us hn hus);refine Ci P f _ _ _ _ (hs S w us hsd hro) ?_;rintro u w' ⟨own',hx,hu⟩;have hoff:∀ g o,C3 own' w' g o->C3 [] w' g o:=λg o hg=>⟨hg.1,by simp,hg.2.2⟩
  refine⟨μ,C3 [] w',Rep.later ⟨(λ_ _ hb=>by cases hb),λ_ _ h=>⟨h,rfl⟩⟩ _ _ hu,?_,⟨λ_ _ h=>h,λg o hg=>⟨hoff g o (hx.later.prot g o (hF g o hg)).1,(hx.later.prot g o (hF g o hg)).2⟩⟩,hx.wstep.less hF,λ_ _=>rfl⟩;refine NH (He (S:=S) (own:=[]) (hx.side hsd).rep λg o hg _=>hoff g o hg) λb k hb=>?_
  by_cases hbt:b<t
  .rw[Ac hbt]at hb
   cases hb
  .rw[Ad hbt]at hb
   exact hb
