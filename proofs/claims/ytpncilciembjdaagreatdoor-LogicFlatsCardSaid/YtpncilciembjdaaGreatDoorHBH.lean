/- A walk beside its caller -/
import Derived.Test.YtpncilciembjdaaGreatDoorHBD
set_option linter.all false
open Nat renaming le_refl->π
namespace Go.Proofs.YtpncilciembjdaaGreatDoor
open Go.RowKit
theorem Wi{P:Program}{f:Nat}(res:Ab->Option AV)
  (h:∀ args r,res args=some r->Bj args=true/\∀(S:Side) (w:World) (us:AO),Sd [] w->RoL [] w args us->BL P f us w λu w'=>∃ own',Xt [] own' w w'/\Ro [] w' r u) :
  BD (BL P f) (Dd res):=by
 intro args bs r out hd
 cases bs with
 |cons=>cases hd
 |nil=>
  obtain⟨r',hr,he⟩:=Option.map_eq_some_iff.1 hd;obtain⟨rfl,rfl⟩:r'=r/\[]=out:=by simpa using he
  obtain⟨hn,hs⟩:=h args r' hr;refine⟨π _,0,π _,λt _ μ F w KL us hKL hus hH hμ=>?_⟩;have hH2:HRep μ F w λb=>look b KL:=OS hH λb k hb=>by
   have h1:=hKL _ (O1 hb);rw[Ad (by simp only at h1;omega)];exact hb
  let S:Side:=⟨μ,KL,w.heap.size,λb k p hb hp h0=>by
   obtain⟨q,hq,B⟩:=hH2.blk b k hb;rw[hp]at hq;injection hq with hq
   subst hq;obtain⟨⟨u,h1⟩,_⟩:=B.there 0 h0;exact Dt h1⟩
  have hF:∀ g o,F g o->Dp [] w g o:=λg o hg=>⟨hH.prot g o hg,by simp,I8 (S:=S) hH2 hg⟩
  have hsd:Sd [] w:=⟨π _,λg hg=>by simp at hg,Iw (S:=S) hH2 λg o hg _=>hF g o hg⟩;have hro:RoL [] w args us:=RepList.later ⟨λ_ _ h=>h,λg o hg=>⟨hF g o hg,rfl⟩⟩ _ _ (DL μ (λ_=>none) args us hn hus);refine CQ P f _ _ _ _ (hs S w us hsd hro) ?_;rintro u w' ⟨own',hx,hu⟩;have hoff:∀ g o,Dp own' w' g o->Dp [] w' g o:=λg o hg=>⟨hg.1,by simp,hg.2.2⟩
  refine⟨μ,Dp [] w',Rep.later ⟨(λ_ _ hb=>by cases hb),λ_ _ h=>⟨h,rfl⟩⟩ _ _ hu,?_,⟨λ_ _ h=>h,λg o hg=>⟨hoff g o (hx.later.prot g o (hF g o hg)).1,(hx.later.prot g o (hF g o hg)).2⟩⟩,hx.wstep.less hF,λ_ _=>rfl⟩;refine OS (Iw (S:=S) (own:=[]) (hx.side hsd).rep λg o hg _=>hoff g o hg) λb k hb=>?_
  by_cases hbt:b<t
  .rw[Ac hbt]at hb
   cases hb
  .rw[Ad hbt]at hb
   exact hb
