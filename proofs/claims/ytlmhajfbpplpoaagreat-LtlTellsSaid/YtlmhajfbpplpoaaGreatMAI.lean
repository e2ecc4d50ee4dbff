/- A function's code over t -/
import Derived.Test.YtlmhajfbpplpoaaGreatMAH
import Derived.ScopeJumps
set_option linter.all false
open Bool renaming and_eq_true->AvF
open Nat renaming strongRecOn->AwN
namespace Go.Proofs.YtlmhajfbpplpoaaGreat
open Go.RowKit
theorem WH{P:Program}{c:Code}{Q:Exit->Act->World->Prop}(J:Nat->Act->World->Prop)(round:∀ n a w,J n a w->c.wp P (Exit.then (λa' w'=>∃ m,m<n/\J m a' w') Q) a w){n:Nat}{a:Act}{w:World}(h₀:J n a w):(Code.loop c).wp P Q a w:=by
 intro b k cs;have key:∀ n a w,J n a w->∃ e a' w',Q e a' w'/\Arrives P (lone (b.at a (.code c::.inLoop c::k)) cs w) b k cs e a' w':=by
  intro n
  induction n using AwN with
  |_ n ih=>
   intro a w hI;obtain⟨e,a₁,w₁,hq,harr⟩:=round n a w hI b (.inLoop c::k) cs
   cases e with
   |normal=>
    obtain⟨m,hlt,hI₁⟩:=hq;obtain⟨e₂,a₂,w₂,hq₂,harr₂⟩:=ih m hlt a₁ w₁ hI₁;exact⟨e₂,a₂,w₂,hq₂,.of_steps (Steps.trans harr (.one step_inLoop)) harr₂⟩
   |exit id=>exact⟨_,a₁,w₁,hq,.pass (x:=.inLoop c) rfl (λ_ _=>.inl (by simp)) harr⟩
   |goto l=>exact⟨_,a₁,w₁,hq,.pass (x:=.inLoop c) rfl (λ_ _=>.inl (by simp)) harr⟩
   |ret=>exact⟨_,a₁,w₁,hq,.pass (x:=.inLoop c) rfl (λ_ _=>.inl (by simp)) harr⟩
   |panic ch=>exact⟨_,a₁,w₁,hq,.pass (x:=.inLoop c) rfl (λ_ _=>.inl (by simp)) harr⟩
   |outgrown=>exact⟨_,a₁,w₁,hq,.pass (x:=.inLoop c) rfl (λ_ _=>.inl (by simp)) harr⟩
 obtain⟨e,a',w',hq,harr⟩:=key n a w h₀;exact⟨e,a',w',hq,.of_steps (.one step_loop) harr⟩
theorem Ue{P:Program}{a:Act}{w:World}{Q:Exit->Act->World->Prop}{c rest:Code}(l:Nat)(J:Nat->Act->World->Prop)(hf:findLabel c l=some rest)
  (first:c.wp P (Exit.jump l (λa' w'=>∃ n,J n a' w') Q) a w)
  (pass:∀ n a w,J n a w->rest.wp P (Exit.jump l (λa' w'=>∃ m,m<n/\J m a' w') Q) a w):(Code.scope c).wp P Q a w:=by
 intro b k cs;have hg:gotoIn l (.inScope c::k)=some (.code rest::.inScope c::k):=by simp[gotoIn,hf]
 have key:∀ n a w,J n a w->∃ e a' w',Q e a' w'/\Arrives P (lone (b.at a (.code rest::.inScope c::k)) cs w) b k cs e a' w':=by
  intro n
  induction n using AwN with
  |_ n ih=>
   intro a w hJ;obtain⟨e,a₁,w₁,hq,harr⟩:=pass n a w hJ b (.inScope c::k) cs
   cases e with
   |normal=>exact⟨.normal,a₁,w₁,hq,Steps.trans harr (.one step_inScope)⟩
   |exit id=>exact⟨.exit id,a₁,w₁,hq,λk' hk=>harr k' (by simp[exitTo,hk])⟩
   |goto l'=>
    obtain⟨rfl,m,hlt,hJ'⟩:=hq;obtain⟨e₂,a₂,w₂,hq₂,harr₂⟩:=ih m hlt a₁ w₁ hJ';exact⟨e₂,a₂,w₂,hq₂,.of_steps (harr _ hg) harr₂⟩
   |ret=>exact⟨_,a₁,w₁,hq,harr⟩
   |panic ch=>exact⟨_,a₁,w₁,hq,harr⟩
   |outgrown=>exact⟨_,a₁,w₁,hq,harr⟩
 obtain⟨e,a₁,w₁,hq,harr⟩:=first b (.inScope c::k) cs
 cases e with
 |normal=>exact⟨.normal,a₁,w₁,hq,.head step_scope (Steps.trans harr (.one step_inScope))⟩
 |exit id=>exact⟨.exit id,a₁,w₁,hq,λk' hk=>.head step_scope (harr k' (by simp[exitTo,hk]))⟩
 |goto l'=>
  obtain⟨rfl,n,hJ'⟩:=hq;obtain⟨e₂,a₂,w₂,hq₂,harr₂⟩:=key n a₁ w₁ hJ';exact⟨e₂,a₂,w₂,hq₂,.of_steps (.head step_scope (harr _ hg)) harr₂⟩
 |ret=>exact⟨_,a₁,w₁,hq,.of_steps (.one step_scope) harr⟩
 |panic ch=>exact⟨_,a₁,w₁,hq,.of_steps (.one step_scope) harr⟩
 |outgrown=>exact⟨_,a₁,w₁,hq,.of_steps (.one step_scope) harr⟩
theorem Vq{R X:Code}{l:Nat}(h:(findLabel R l).isNone=true):findLabel (R.seq ((Code.label l).seq X)) l=some (Code.skip.seq X):=by
 grind [findLabel]
inductive AX where
 |normal
 |exit (id:Nat)
 |goto (l:Nat)
 |ret
def AX.ex:AX->Exit
 |.normal=>.normal
 |.exit id=>.exit id
 |.goto l=>.goto l
 |.ret=>.ret
def Mv:Code->Bool
 |.region _ ops true=>Qx ops&&MA ops
 |.seq a b=>Mv a&&Mv b
 |.cond _ a b=>Mv a&&Mv b
 |.block _ c=>Mv c
 |.loop c=>Mv c
 |.scope c=>Mv c
 |_=>true
def Ann(N:Ab->AH->Prop)(Q:AX->Ab->AH->Prop):AX->Ab->AH->Prop
 |.normal,T,H=>N T H
 |x,T,H=>Q x T H
def Adf(id:Nat)(Q:AX->Ab->AH->Prop):AX->Ab->AH->Prop
 |.exit i,T,H=>if i=id then Q .normal T H else Q (.exit i) T H
 |x,T,H=>Q x T H
def An6(N:Ab->AH->Prop)(Q:AX->Ab->AH->Prop):AX->Ab->AH->Prop
 |.normal,T,H=>N T H
 |.goto _,_,_=>False
 |x,T,H=>Q x T H
def Al0(l:Nat)(J:Ab->AH->Prop)(Q:AX->Ab->AH->Prop):AX->Ab->AH->Prop
 |.goto l',T,H=>l'=l/\J T H
 |x,T,H=>Q x T H
def aw(P:Program)(Γ:FuncId->Ab->AM AV):Code->(AX->Ab->AH->Prop)->Ab->AH->Prop
 |.skip,Q,T,H=>Q .normal T H
 |.region _ ops draw,Q,T,H=>∃ T' H' fs,Gm P Γ ops ops.toList T H=some (T',H',fs)/\(draw=true->Fe (Uj ops) fs=true)/\Q .normal T' H'
 |.seq x y,Q,T,H=>aw P Γ x (Ann (aw P Γ y Q) Q) T H
 |.cond c x y,Q,T,H=>∃ t,AS T c=.v (.bool t)/\(if t=true then aw P Γ x Q T H else aw P Γ y Q T H)
 |.block id c,Q,T,H=>aw P Γ c (Adf id Q) T H
 |.loop c,Q,T,H=>∃(I:Nat->Ab->AH->Prop) (n:Nat),I n T H/\∀ n T H,I n T H->H.wf->aw P Γ c (Ann (λT' H'=>∃ m,m<n/\I m T' H') Q) T H
 |.exit id,Q,T,H=>Q (.exit id) T H
 |.ret,Q,T,H=>Q .ret T H
 |.label _,Q,T,H=>Q .normal T H
 |.goto l,Q,T,H=>Q (.goto l) T H
 |.scope (.seq R (.seq (.label l) X)),Q,T,H=>(findLabel R l).isNone=true/\aw P Γ R (An6 (λT1 H1=>∃(I:Nat->Ab->AH->Prop) (n:Nat),I n T1 H1/\∀ n T H,I n T H->H.wf->aw P Γ X (Al0 l (λT' H'=>∃ m,m<n/\I m T' H') Q) T H) Q) T H
 |_,_,_,_=>False
def GoodA(μ:Mu)(F:AQ)(w:World)(H:AH)(T':Ab)(H':AH)(a':Act)(w':World):Prop:=
 PostT μ F w H T' H' a' w'/\H.next<=H'.next/\H'.top=H.top/\H'.wf
def EndsA(μ:Mu)(F:AQ)(w:World)(H:AH)(Q:AX->Ab->AH->Prop)(e:Exit)(a':Act)(w':World):Prop:=∃ x T' H',e=x.ex/\Q x T' H'/\GoodA μ F w H T' H' a' w'
section
variable {P:Program} {Γ:FuncId->Ab->AM AV} {μ:Mu} {F:AQ} {w:World} {H:AH} {T:Ab} {a:Act}
theorem GoodA.refl(hT:RT μ F w T a)(hH:HRep μ F w H.get)(hw:H.wf):GoodA μ F w H T H a w:=⟨PostT.refl hT hH,Nat.le_refl _,rfl,hw⟩
theorem GoodA.trans{T2:Ab}{H1 H2:AH}{a2:Act}{w1 w2:World}{μ1:Mu}{F1:AQ}(h3:Later μ μ1 F F1 w w1)(h4:WStep F w w1)(h5:∀ b,(b<H.next\/H1.next<=b)->μ1 b=μ b)(hn:H.next<=H1.next)(ht:H1.top=H.top)
  (k:GoodA μ1 F1 w1 H1 T2 H2 a2 w2):GoodA μ F w H T2 H2 a2 w2:=by
 obtain⟨⟨μ2,F2,k1,k2,k3,k4,k5⟩,k6,k7,k8⟩:=k;refine⟨⟨μ2,F2,k1,k2,h3.trans k3,WStep.trans (λg o hg=>(h3.prot g o hg).1) h4 k4,λb hb=>?_⟩,Nat.le_trans hn k6,k7.trans ht,k8⟩;rw[k5 b (by omega),h5 b (by omega)]
end
theorem D7{P:Program}{Γ:FuncId->Ab->AM AV}(hm:P.follows .mixedOrders=true)(hΓ:Hq P Γ)(hL:∀ f args,Loc (Γ f args)):∀(c:Code) (Q:AX->Ab->AH->Prop) (T:Ab) (H:AH),Mv c=true->aw P Γ c Q T H->
  ∀{μ:Mu} {F:AQ} {w:World} {a:Act},RT μ F w T a->HRep μ F w H.get->H.wf->B3 μ H->c.wp P (EndsA μ F w H Q) a w
 |.skip,Q,T,H,_,h,μ,F,w,a,hT,hH,hw,hf=>by
  simp only[aw]at h;exact wp_skip ⟨.normal,T,H,rfl,h,GoodA.refl hT hH hw⟩
 |.label _,Q,T,H,_,h,μ,F,w,a,hT,hH,hw,hf=>by
  simp only[aw]at h;exact wp_label ⟨.normal,T,H,rfl,h,GoodA.refl hT hH hw⟩
 |.exit id,Q,T,H,_,h,μ,F,w,a,hT,hH,hw,hf=>by
  simp only[aw]at h;exact wp_exit ⟨.exit id,T,H,rfl,h,GoodA.refl hT hH hw⟩
 |.ret,Q,T,H,_,h,μ,F,w,a,hT,hH,hw,hf=>by
  simp only[aw]at h;exact wp_ret ⟨.ret,T,H,rfl,h,GoodA.refl hT hH hw⟩
 |.region id ops draw,Q,T,H,hok,h,μ,F,w,a,hT,hH,hw,hf=>by
  simp only[aw]at h;obtain⟨T',H',fs,h1,h2,h3⟩:=h;obtain⟨n1,n2,n3⟩:=M9 hL ops.toList hw h1
  cases draw with
  |false=>exact wp_region_list (Qh hΓ hL ops.toList hT hH hw hf h1 λa' w' hp=>⟨.normal,T',H',rfl,h3,hp,n1,n2,n3⟩)
  |true=>
   simp only[Mv,AvF]at hok;exact L8 hm hΓ hL hT hH hw hf hok.2 hok.1 h1 (h2 rfl) λa' w' hp=>⟨.normal,T',H',rfl,h3,hp,n1,n2,n3⟩
 |.seq x y,Q,T,H,hok,h,μ,F,w,a,hT,hH,hw,hf=>by
  simp only[aw]at h;simp only[Mv,AvF]at hok;refine wp_seq (wp_mono (D7 hm hΓ hL x _ T H hok.1 h hT hH hw hf) ?_);rintro e a1 w1 ⟨ax,T1,H1,rfl,hq,hg⟩
  cases ax with
  |normal=>
   obtain⟨⟨μ1,F1,g1,g2,g3,g4,g5⟩,g6,g7,g8⟩:=hg;refine wp_mono (D7 hm hΓ hL y Q T1 H1 hok.2 hq g1 g2 g8 (BW hf g6 g7 g5)) ?_;rintro e a2 w2 ⟨ax,T2,H2,rfl,hq2,hg2⟩;exact⟨ax,T2,H2,rfl,hq2,GoodA.trans g3 g4 g5 g6 g7 hg2⟩
  |exit id=>exact⟨.exit id,T1,H1,rfl,hq,hg⟩
  |goto l=>exact⟨.goto l,T1,H1,rfl,hq,hg⟩
  |ret=>exact⟨.ret,T1,H1,rfl,hq,hg⟩
 |.cond c x y,Q,T,H,hok,h,μ,F,w,a,hT,hH,hw,hf=>by
  simp only[aw]at h;simp only[Mv,AvF]at hok;obtain⟨t,h1,h2⟩:=h;have h3:=Ma hT c;rw[h1]at h3;simp only[Rep]at h3
  cases t with
  |true=>
   rw[Ac rfl]at h2;exact wp_cond_true h3.1 (D7 hm hΓ hL x Q T H hok.1 h2 hT hH hw hf)
  |false=>
   rw[Ad (by simp)]at h2;exact wp_cond_false h3.1 (D7 hm hΓ hL y Q T H hok.2 h2 hT hH hw hf)
 |.block id c,Q,T,H,hok,h,μ,F,w,a,hT,hH,hw,hf=>by
  simp only[aw]at h;simp only[Mv]at hok;refine wp_block (wp_mono (D7 hm hΓ hL c _ T H hok h hT hH hw hf) ?_);rintro e a1 w1 ⟨ax,T1,H1,rfl,hq,hg⟩
  cases ax with
  |normal=>exact⟨.normal,T1,H1,rfl,hq,hg⟩
  |goto l=>exact⟨.goto l,T1,H1,rfl,hq,hg⟩
  |ret=>exact⟨.ret,T1,H1,rfl,hq,hg⟩
  |exit i=>
   simp only[Adf]at hq;simp only[AX.ex,Exit.inBlock];split
   .rename_i e1
    rw[Ac e1]at hq;exact⟨.normal,T1,H1,rfl,hq,hg⟩
   .rename_i e1
    rw[Ad e1]at hq;exact⟨.exit i,T1,H1,rfl,hq,hg⟩
 |.loop c,Q,T,H,hok,h,μ,F,w,a,hT,hH,hw,hf=>by
  simp only[aw]at h;simp only[Mv]at hok;obtain⟨I,n,h1,h2⟩:=h;refine WH (λn a' w'=>∃ T' H',I n T' H'/\GoodA μ F w H T' H' a' w') ?_ (n:=n) ⟨T,H,h1,GoodA.refl hT hH hw⟩;rintro n a1 w1 ⟨T1,H1,hI,hg⟩;obtain⟨⟨μ1,F1,g1,g2,g3,g4,g5⟩,g6,g7,g8⟩:=hg;refine wp_mono (D7 hm hΓ hL c _ T1 H1 hok (h2 n T1 H1 hI g8) g1 g2 g8 (BW hf g6 g7 g5)) ?_;rintro e a2 w2 ⟨ax,T2,H2,rfl,hq2,hg2⟩;have hg3:GoodA μ F w H T2 H2 a2 w2:=GoodA.trans g3 g4 g5 g6 g7 hg2
  cases ax with
  |normal=>
   obtain⟨m,hmn,hm2⟩:=hq2;exact⟨m,hmn,T2,H2,hm2,hg3⟩
  |exit i=>exact⟨.exit i,T2,H2,rfl,hq2,hg3⟩
  |goto l=>exact⟨.goto l,T2,H2,rfl,hq2,hg3⟩
  |ret=>exact⟨.ret,T2,H2,rfl,hq2,hg3⟩
 |.goto l,Q,T,H,_,h,μ,F,w,a,hT,hH,hw,hf=>by
  simp only[aw]at h;exact wp_goto ⟨.goto l,T,H,rfl,h,GoodA.refl hT hH hw⟩
 |.scope (.seq R (.seq (.label l) X)),Q,T,H,hok,h,μ,F,w,a,hT,hH,hw,hf=>by
  simp only[aw]at h;simp only[Mv,AvF]at hok;obtain⟨h1,h2⟩:=h;have hRwp:=D7 hm hΓ hL R _ T H hok.1 h2 hT hH hw hf
  let J:Nat->Act->World->Prop:=λn a' w'=>∃(I:Nat->Ab->AH->Prop) (T':Ab) (H':AH),I n T' H'/\(∀ n T H,I n T H->H.wf->aw P Γ X (Al0 l (λT' H'=>∃ m,m<n/\I m T' H') Q) T H)/\GoodA μ F w H T' H' a' w'
  have pass:∀ n a1 w1,J n a1 w1->X.wp P (Exit.jump l (λa' w'=>∃ m,m<n/\J m a' w') (EndsA μ F w H Q)) a1 w1:=by
   rintro n a1 w1 ⟨I,T1,H1,hI,hp,hg⟩;obtain⟨⟨μ1,F1,g1,g2,g3,g4,g5⟩,g6,g7,g8⟩:=hg;refine wp_mono (D7 hm hΓ hL X _ T1 H1 hok.2.2 (hp n T1 H1 hI g8) g1 g2 g8 (BW hf g6 g7 g5)) ?_;rintro e a2 w2 ⟨ax,T2,H2,rfl,hq2,hg2⟩;have hg3:GoodA μ F w H T2 H2 a2 w2:=GoodA.trans g3 g4 g5 g6 g7 hg2
   cases ax with
   |normal=>exact⟨.normal,T2,H2,rfl,hq2,hg3⟩
   |exit i=>exact⟨.exit i,T2,H2,rfl,hq2,hg3⟩
   |ret=>exact⟨.ret,T2,H2,rfl,hq2,hg3⟩
   |goto l'=>
    obtain⟨rfl,m,hmn,hm2⟩:=hq2;exact⟨rfl,m,hmn,I,T2,H2,hm2,hp,hg3⟩
  refine Ue l J (Vq h1) (wp_seq (wp_mono hRwp ?_)) (λn a1 w1 hJ=>wp_seq (wp_skip (pass n a1 w1 hJ)));rintro e a1 w1 ⟨ax,T1,H1,rfl,hq,hg⟩
  cases ax with
  |normal=>
   obtain⟨I,n,hI,hp⟩:=hq;refine wp_seq (wp_label (wp_mono (pass n a1 w1 ⟨I,T1,H1,hI,hp,hg⟩) ?_));intro e a2 w2 he
   cases e<;>first
    |exact he
    |(obtain⟨e1,m,_,hJ⟩:=he;exact⟨e1,m,hJ⟩)
  |exit i=>exact⟨.exit i,T1,H1,rfl,hq,hg⟩
  |ret=>exact⟨.ret,T1,H1,rfl,hq,hg⟩
  |goto l'=>exact hq.elim
 |.rangeFunc ..,_,_,_,_,h,_,_,_,_,_,_,_,_=>by simp[aw]at h
 |.refuse ..,_,_,_,_,h,_,_,_,_,_,_,_,_=>by simp[aw]at h
 |.scope (.skip),_,_,_,_,h,_,_,_,_,_,_,_,_=>by simp[aw]at h
 |.scope (.region _ _ _),_,_,_,_,h,_,_,_,_,_,_,_,_=>by simp[aw]at h
 |.scope (.cond _ _ _),_,_,_,_,h,_,_,_,_,_,_,_,_=>by simp[aw]at h
 |.scope (.block _ _),_,_,_,_,h,_,_,_,_,_,_,_,_=>by simp[aw]at h
 |.scope (.loop _),_,_,_,_,h,_,_,_,_,_,_,_,_=>by simp[aw]at h
 |.scope (.rangeFunc _ _ _ _),_,_,_,_,h,_,_,_,_,_,_,_,_=>by simp[aw]at h
 |.scope (.exit _),_,_,_,_,h,_,_,_,_,_,_,_,_=>by simp[aw]at h
 |.scope (.scope _),_,_,_,_,h,_,_,_,_,_,_,_,_=>by simp[aw]at h
 |.scope (.goto _),_,_,_,_,h,_,_,_,_,_,_,_,_=>by simp[aw]at h
 |.scope (.ret),_,_,_,_,h,_,_,_,_,_,_,_,_=>by simp[aw]at h
 |.scope (.refuse _),_,_,_,_,h,_,_,_,_,_,_,_,_=>by simp[aw]at h
 |.scope (.label _),_,_,_,_,h,_,_,_,_,_,_,_,_=>by simp[aw]at h
 |.scope (.seq _ (.skip)),_,_,_,_,h,_,_,_,_,_,_,_,_=>by simp[aw]at h
 |.scope (.seq _ (.region _ _ _)),_,_,_,_,h,_,_,_,_,_,_,_,_=>by simp[aw]at h
 |.scope (.seq _ (.cond _ _ _)),_,_,_,_,h,_,_,_,_,_,_,_,_=>by simp[aw]at h
 |.scope (.seq _ (.block _ _)),_,_,_,_,h,_,_,_,_,_,_,_,_=>by simp[aw]at h
 |.scope (.seq _ (.loop _)),_,_,_,_,h,_,_,_,_,_,_,_,_=>by simp[aw]at h
 |.scope (.seq _ (.rangeFunc _ _ _ _)),_,_,_,_,h,_,_,_,_,_,_,_,_=>by simp[aw]at h
 |.scope (.seq _ (.exit _)),_,_,_,_,h,_,_,_,_,_,_,_,_=>by simp[aw]at h
 |.scope (.seq _ (.scope _)),_,_,_,_,h,_,_,_,_,_,_,_,_=>by simp[aw]at h
 |.scope (.seq _ (.goto _)),_,_,_,_,h,_,_,_,_,_,_,_,_=>by simp[aw]at h
 |.scope (.seq _ (.ret)),_,_,_,_,h,_,_,_,_,_,_,_,_=>by simp[aw]at h
 |.scope (.seq _ (.refuse _)),_,_,_,_,h,_,_,_,_,_,_,_,_=>by simp[aw]at h
 |.scope (.seq _ (.label _)),_,_,_,_,h,_,_,_,_,_,_,_,_=>by simp[aw]at h
 |.scope (.seq _ (.seq (.skip) _)),_,_,_,_,h,_,_,_,_,_,_,_,_=>by simp[aw]at h
 |.scope (.seq _ (.seq (.region _ _ _) _)),_,_,_,_,h,_,_,_,_,_,_,_,_=>by simp[aw]at h
 |.scope (.seq _ (.seq (.cond _ _ _) _)),_,_,_,_,h,_,_,_,_,_,_,_,_=>by simp[aw]at h
 |.scope (.seq _ (.seq (.block _ _) _)),_,_,_,_,h,_,_,_,_,_,_,_,_=>by simp[aw]at h
 |.scope (.seq _ (.seq (.loop _) _)),_,_,_,_,h,_,_,_,_,_,_,_,_=>by simp[aw]at h
 |.scope (.seq _ (.seq (.rangeFunc _ _ _ _) _)),_,_,_,_,h,_,_,_,_,_,_,_,_=>by simp[aw]at h
 |.scope (.seq _ (.seq (.exit _) _)),_,_,_,_,h,_,_,_,_,_,_,_,_=>by simp[aw]at h
 |.scope (.seq _ (.seq (.scope _) _)),_,_,_,_,h,_,_,_,_,_,_,_,_=>by simp[aw]at h
 |.scope (.seq _ (.seq (.goto _) _)),_,_,_,_,h,_,_,_,_,_,_,_,_=>by simp[aw]at h
 |.scope (.seq _ (.seq (.ret) _)),_,_,_,_,h,_,_,_,_,_,_,_,_=>by simp[aw]at h
 |.scope (.seq _ (.seq (.refuse _) _)),_,_,_,_,h,_,_,_,_,_,_,_,_=>by simp[aw]at h
 |.scope (.seq _ (.seq (.seq _ _) _)),_,_,_,_,h,_,_,_,_,_,_,_,_=>by simp[aw]at h
def resA(P:Program)(T:Ab):List ResultVar->AM Ab
 |[]=>AM.ret []
 |.tmp t::r=>(resA P T r).bind λl=>AM.ret ((T[t]?).getD AV.undef::l)
 |.cell x ty::r=>(loadA P ty ((T[x]?).getD AV.undef)).bind λv=>(resA P T r).bind λl=>AM.ret (v::l)
def JT:Ab->AV
 |[x]=>x
 |l=>.tup l
def Qc(P:Program)(fn:Func)(T:Ab):AM AV:=(resA P T fn.results.toList).bind λl=>AM.ret (JT l)
def S6(n:Nat)(args:Ab):Ab:=args++List.replicate (n-args.length) AV.undef
theorem Loc.resA{P:Program}{T:Ab}:∀ l,Loc (resA P T l)
 |[]=>Loc.ret _
 |.tmp _::r=>Loc.bind (Loc.resA r) λ_=>Loc.ret _
 |.cell _ _::r=>Loc.bind (Loc.loadA _ _) λ_=>Loc.bind (Loc.resA r) λ_=>Loc.ret _
def TI(tmps:Array Value):ResultVar->Sem Value
 |.tmp t=>pure (tmps.getD t Go.undef)
 |.cell x t=>do loadVar t (←asAddr (tmps.getD x Go.undef))
theorem KX{P:Program}{μ:Mu}{F:AQ}{w:World}{T:Ab}{a:Act}(hT:RT μ F w T a):∀(rs:List ResultVar) {H:AH} (_:HRep μ F w H.get) {l:Ab} {H':AH} {ft:Foot},resA P T rs H=some (l,H',ft)->
  H'=H/\∃ us,(rs.mapM (TI a.tmps)).run P w=.ok us w/\RepList μ F w l us
 |[],H,hH,l,H',ft,h=>by
  obtain⟨rfl,rfl⟩:=Au h;exact⟨rfl,[],by simp,by simp only[RepList]⟩
 |.tmp t::r,H,hH,l,H',ft,h=>by
  obtain⟨l',H1,f1,f2,h1,h2⟩:=bind_some h;obtain⟨e1,us,h3,h4⟩:=KX hT r hH h1;obtain⟨rfl,e2⟩:=Au h2;refine⟨e2.trans e1,a.tmps.getD t Go.undef::us,?_,?_⟩
  .simp_all [TI]
  .simp only[RepList]
   exact⟨_,_,rfl,Ma hT (.tmp t),h4⟩
 |.cell x ty::r,H,hH,l,H',ft,h=>by
  obtain⟨v,H1,f1,f2,h1,h2⟩:=bind_some h;obtain⟨l',H2,f3,f4,h3,h4⟩:=bind_some h2;obtain⟨e0,⟨u,k1,k2⟩,p,k3⟩:=KO (P:=P) (t:=ty) (Ma hT (.tmp x)) hH h1;rw[e0]at h3;obtain⟨e1,us,h5,h6⟩:=KX hT r hH h3;obtain⟨rfl,e2⟩:=Au h4;refine⟨e2.trans e1,u::us,?_,?_⟩
  .have k4:a.tmps.getD x Go.undef=.pointer (some p):=k3
   rw[k3]at k1;have k5:(loadVar ty p).run P w=.ok u w:=by simpa[Instr.loadAt,Instr.sureAddr]using k1
   rw[List.mapM_cons];simp only[TI,k4,asAddr,Sem.run_bind,Sem.run_pure,Result.andThen_ok,k5,h5]
  .simp only[RepList]
   exact⟨_,_,rfl,k2,h6⟩
theorem Yp(fn:Func)(tmps:Array Value):results fn tmps=(do let vs ←fn.results.mapM (TI tmps);pure (if h:vs.size=1 then vs[0] else .tuple vs)):=by
 unfold results
 congr 1
theorem Qd{P:Program}{μ:Mu}{F:AQ}{w:World}{T:Ab}{a:Act}(hT:RT μ F w T a){fn:Func}{H:AH}(hH:HRep μ F w H.get){r:AV}{H':AH}{ft:Foot}(h:Qc P fn T H=some (r,H',ft)) :
  H'=H/\∃ u,(results fn a.tmps).run P w=.ok u w/\Rep μ F w r u:=by
 obtain⟨l,H1,f1,f2,h1,h2⟩:=bind_some h;obtain⟨e1,us,h3,h4⟩:=KX hT fn.results.toList hH h1;obtain⟨rfl,e2⟩:=Au h2;refine⟨e2.trans e1,if h:us.toArray.size=1 then us.toArray[0] else .tuple us.toArray,?_,?_⟩
 .rw[Yp,Array.mapM_eq_mapM_toList]
  simp[h3]
 .have hl:=h4.length
  match l,us,hl,h4 with
  |[x],[u],_,h4=>
   simp only[RepList]at h4;obtain⟨u',t,e,h5,_⟩:=h4
   cases e
   exact h5
  |[],[],_,h4=>simp only[JT,Rep];exact⟨#[],rfl,h4⟩
  |x::y::r,u::v::t,_,h4=>simp only[JT,Rep];exact⟨(u::v::t).toArray,by simp,by simpa using h4⟩
