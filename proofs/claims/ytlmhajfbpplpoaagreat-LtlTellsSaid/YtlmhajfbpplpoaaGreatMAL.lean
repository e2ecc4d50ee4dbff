/- Renaming the numbers of -/
import Derived.Test.YtlmhajfbpplpoaaGreatMAK
set_option linter.all false
open Bool renaming false->Θ,true->U,and_eq_true->AvF
open List renaming all_eq_true->AvJ,getElem?_append_left->AwD,getElem?_append_right->Axk,getElem?_cons_succ->Awa,getElem?_eq_none->Aw5,getElem?_eq_some_iff->Av9,getElem?_inj->Ax7,getElem?_map->AwC,getElem?_replicate->Ayf,getElem?_set->AxM,length_append->ζ,length_cons->ε,length_map->Av8,length_set->Awf,map_cons->AvT,mem_append->Awg,mem_cons->AvK,mem_of_getElem?->Awx,mem_singleton->Awk
open Nat renaming add_assoc->AvQ,add_sub_cancel_left->Ayh,beq->Av5,blt->Awv,eq_of_beq_eq_true->AvY,le_add_right->AyH,le_refl->η,le_trans->Awe,lt_or_ge->Av3,zero_add->AvW
open Option renaming none->Δ,some->V,map_some->AvP
namespace Go.Proofs.YtlmhajfbpplpoaaGreat
open Option.some renaming injEq->ξ
open Go.RowKit
section
variable {F:AQ} {w:World}
mutual
theorem F7(μ μ':Mu):∀(x:AV) (u:Value),x.noid=U->Rep μ F w x u->Rep μ' F w x u
 |.v x,u,_,h=>by simpa only[Rep]using h
 |.ptr b o,u,hn,_=>by simp[AV.noid]at hn
 |.sl b o n e,u,hn,_=>by simp[AV.noid]at hn
 |.ls xs,u,_,h=>by
  simp only[Rep]at h ⊢;obtain⟨h0,A,c,h1,h2,h3,h4⟩:=h;refine⟨h0,A,c,h1,h2,h3,λhne=>?_⟩;obtain⟨g,o,e,hA,hr⟩:=h4 hne;exact⟨g,o,e,hA,L9 μ μ' g e xs o h0 hr⟩
 |.lp cs,u,_,h=>by
  simp only[Rep]at h ⊢;obtain⟨h0,g,o,h1,h2⟩:=h;exact⟨h0,g,o,h1,KW μ μ' g cs o h0 h2⟩
 |.agg cs,u,hn,h=>by
  simp only[Rep]at h ⊢;simp only[AV.noid]at hn;obtain⟨us,h1,h2⟩:=h;exact⟨us,h1,Em μ μ' cs _ hn h2⟩
 |.tup cs,u,hn,h=>by
  simp only[Rep]at h ⊢;simp only[AV.noid]at hn;obtain⟨us,h1,h2⟩:=h;exact⟨us,h1,Em μ μ' cs _ hn h2⟩
 |.fn f a c,u,hn,h=>by
  simp only[Rep]at h ⊢;simp only[AV.noid,AvF]at hn;obtain⟨ua,uc,h1,h2,h3⟩:=h;exact⟨ua,uc,h1,Em μ μ' a _ hn.1 h2,Em μ μ' c _ hn.2 h3⟩
 |.any,_,_,_=>by simp only[Rep]
theorem L9(μ μ':Mu)(g e:Nat):∀(xs:List Ab) (o:Nat),GA xs=U->RepRows μ F w g e xs o->RepRows μ' F w g e xs o
 |[],_,_,_=>by simp only[RepRows]
 |x::r,o,hn,h=>by
  simp only[RepRows]at h ⊢;simp only[GA,List.all_cons,AvF]at hn;exact⟨h.1,KW μ μ' g x o hn.1 h.2.1,L9 μ μ' g e r _ hn.2 h.2.2⟩
theorem KW(μ μ':Mu)(g:Nat):∀(xs:Ab) (o:Nat),A6 xs=U->RepAt μ F w g xs o->RepAt μ' F w g xs o
 |[],_,_,_=>by simp only[RepAt]
 |x::r,o,hn,h=>by
  simp only[RepAt]at h ⊢;simp only[A6,AvF]at hn;obtain⟨⟨h1,u,h2,h3⟩,h4⟩:=h;exact⟨⟨h1,u,h2,F7 μ μ' x u hn.1 h3⟩,KW μ μ' g r _ hn.2 h4⟩
theorem Em(μ μ':Mu):∀(xs:Ab) (us:AN),A6 xs=U->RepList μ F w xs us->RepList μ' F w xs us
 |[],us,_,h=>by simpa only[RepList]using h
 |x::r,us,hn,h=>by
  simp only[RepList]at h ⊢;simp only[A6,AvF]at hn;obtain⟨u,t,h1,h2,h3⟩:=h;exact⟨u,t,h1,F7 μ μ' x u hn.1 h2,Em μ μ' r t hn.2 h3⟩
end
mutual
theorem JI{μ₁ μ₂:Mu}{τ:Nat->Nat}:∀(x:AV) (u:Value),(∀ c∈x.ids,μ₂ (τ c)=μ₁ c)->(Rep μ₂ F w (x.ren τ) u ↔ Rep μ₁ F w x u)
 |.v x,u,_=>by simp only[AV.ren,Rep]
 |.ptr b o,u,h=>by
  simp only[AV.ids,Awk,forall_eq]at h;simp only[AV.ren,Rep,h]
 |.sl b o n e,u,h=>by
  simp only[AV.ids,Awk,forall_eq]at h;simp only[AV.ren,Rep,h]
 |.ls xs,u,_=>by
  simp only[AV.ren];exact⟨F7 μ₂ μ₁ _ _ rfl,F7 μ₁ μ₂ _ _ rfl⟩
 |.lp cs,u,_=>by
  simp only[AV.ren];exact⟨F7 μ₂ μ₁ _ _ rfl,F7 μ₁ μ₂ _ _ rfl⟩
 |.agg cs,u,h=>by
  simp only[AV.ids]at h;simp only[AV.ren,Rep];constructor
  .rintro⟨us,h1,h2⟩;exact⟨us,h1,(Cp cs _ h).1 h2⟩
  .rintro⟨us,h1,h2⟩;exact⟨us,h1,(Cp cs _ h).2 h2⟩
 |.tup cs,u,h=>by
  simp only[AV.ids]at h;simp only[AV.ren,Rep];constructor
  .rintro⟨us,h1,h2⟩;exact⟨us,h1,(Cp cs _ h).1 h2⟩
  .rintro⟨us,h1,h2⟩;exact⟨us,h1,(Cp cs _ h).2 h2⟩
 |.fn f a c,u,h=>by
  simp only[AV.ids,Awg]at h;simp only[AV.ren,Rep];constructor
  .rintro⟨ua,uc,h1,h2,h3⟩;exact⟨ua,uc,h1,(Cp a _ λc hc=>h c (.inl hc)).1 h2,(Cp c _ λc hc=>h c (.inr hc)).1 h3⟩
  .rintro⟨ua,uc,h1,h2,h3⟩;exact⟨ua,uc,h1,(Cp a _ λc hc=>h c (.inl hc)).2 h2,(Cp c _ λc hc=>h c (.inr hc)).2 h3⟩
 |.any,_,_=>by simp only[AV.ren,Rep]
theorem Cp{μ₁ μ₂:Mu}{τ:Nat->Nat}:∀(xs:Ab) (us:AN),(∀ c∈EY xs,μ₂ (τ c)=μ₁ c)->(RepList μ₂ F w (IH τ xs) us ↔ RepList μ₁ F w xs us)
 |[],us,_=>by simp only[IH,RepList]
 |x::r,us,h=>by
  simp only[EY,Awg]at h;simp only[IH,RepList];constructor
  .rintro⟨u,t,h1,h2,h3⟩;exact⟨u,t,h1,(JI x _ λc hc=>h c (.inl hc)).1 h2,(Cp r _ λc hc=>h c (.inr hc)).1 h3⟩
  .rintro⟨u,t,h1,h2,h3⟩;exact⟨u,t,h1,(JI x _ λc hc=>h c (.inl hc)).2 h2,(Cp r _ λc hc=>h c (.inr hc)).2 h3⟩
end
mutual
theorem Aad{μ:Mu}:∀(x:AV) (u:Value),Rep μ F w x u->∀ c∈x.ids,∃ p,μ c=V p
 |.v x,u,_,c,hc=>by simp[AV.ids]at hc
 |.ptr b o,u,h,c,hc=>by
  simp only[AV.ids,Awk]at hc;subst hc;simp only[Rep]at h;exact⟨_,h.choose_spec.1⟩
 |.sl b o n e,u,h,c,hc=>by
  simp only[AV.ids,Awk]at hc;subst hc;simp only[Rep]at h;exact⟨_,h.choose_spec.1⟩
 |.ls xs,u,_,c,hc=>by simp[AV.ids]at hc
 |.lp cs,u,_,c,hc=>by simp[AV.ids]at hc
 |.agg cs,u,h,c,hc=>by
  simp only[Rep]at h;obtain⟨us,_,h2⟩:=h;exact E9 cs _ h2 c hc
 |.tup cs,u,h,c,hc=>by
  simp only[Rep]at h;obtain⟨us,_,h2⟩:=h;exact E9 cs _ h2 c hc
 |.fn f a k,u,h,c,hc=>by
  simp only[Rep]at h;obtain⟨ua,uc,_,h2,h3⟩:=h;simp only[AV.ids,Awg]at hc;rcases hc with hc|hc
  .exact E9 a _ h2 c hc
  .exact E9 k _ h3 c hc
 |.any,_,_,c,hc=>by simp[AV.ids]at hc
theorem E9{μ:Mu}:∀(xs:Ab) (us:AN),RepList μ F w xs us->∀ c∈EY xs,∃ p,μ c=V p
 |[],us,_,c,hc=>by simp[EY]at hc
 |x::r,us,h,c,hc=>by
  simp only[RepList]at h;obtain⟨u,t,_,h2,h3⟩:=h;simp only[EY,Awg]at hc;rcases hc with hc|hc
  .exact Aad x u h2 c hc
  .exact E9 r t h3 c hc
end
theorem LH{c:Nat}:∀{xs:Ab},c∈EY xs ↔ ∃ x∈xs,c∈x.ids
 |[]=>by simp[EY]
 |x::r=>by simp[EY,LH (xs:=r)]
theorem OA(τ:Nat->Nat):∀ xs,IH τ xs=xs.map (AV.ren τ)
 |[]=>rfl
 |x::r=>by simp[IH,OA τ r]
mutual
theorem Apc{τ:Nat->Nat}(h:∀ c,τ c=c):∀ x:AV,x.ren τ=x
 |.v x=>rfl
 |.ptr b o=>by simp only[AV.ren,h]
 |.sl b o n e=>by simp only[AV.ren,h]
 |.ls xs=>rfl
 |.lp cs=>rfl
 |.agg cs=>by simp only[AV.ren,JH h cs]
 |.tup cs=>by simp only[AV.ren,JH h cs]
 |.fn f a c=>by simp only[AV.ren,JH h a,JH h c]
 |.any=>rfl
theorem JH{τ:Nat->Nat}(h:∀ c,τ c=c):∀ xs:Ab,IH τ xs=xs
 |[]=>rfl
 |x::r=>by simp only[IH,Apc h x,JH h r]
end
def Shape(k k':ABlk):Prop:=k'.cells.length=k.cells.length/\k'.st=k.st/\k'.ex=k.ex
theorem DP(τ:Nat->Nat)(k:ABlk):Shape k (k.ren τ):=by
 unfold ABlk.ren
 cases e:k.ex with
 |true=>exact⟨rfl,rfl,rfl⟩
 |false=>exact⟨by simp[OA],rfl,by simp[e]⟩
theorem Shape.owns{k k':ABlk}(h:Shape k k')(room i:Nat):k'.owns room i ↔ k.owns room i:=by
 unfold ABlk.owns;rw[h.1,h.2.1,h.2.2]
theorem Shape.symm{k k':ABlk}(h:Shape k k'):Shape k' k:=⟨h.1.symm,h.2.1.symm,h.2.2.symm⟩
theorem OV{μ:Mu}{p:Pl}{k:ABlk}(h:BRep μ F w p k):∀ c∈k.ids,∃ q,μ c=V q:=by
 intro c hc;unfold ABlk.ids at hc;split at hc
 .cases hc
 .obtain⟨x,hx,hcx⟩:=LH.1 hc
  obtain⟨i,hi⟩:=List.getElem?_of_mem hx;obtain⟨u,_,hr⟩:=h.cell i x hi;exact Aad x u hr c hcx
theorem Hv{μ μ':Mu}{p:Pl}{k k':ABlk}(hs:Shape k k')(h:BRep μ F w p k)(hc:∀ i x,k'.cells[i]? = V x->∃ u,w.cell? ⟨p.g,p.o+i,Δ⟩=V u/\Rep μ' F w x u)(hp:k'.ex=U->A6 k'.cells=U):BRep μ' F w p k':=
 ⟨hc,by rw[hs.1];exact h.room,h.there,λh1 i hi=>h.kept (by rw[←hs.2.1];exact h1) i (by rw[←hs.1];exact hi),λi hi=>h.free i ((hs.owns _ _).1 hi),hp⟩
theorem Agn{τ:Nat->Nat}{k:ABlk}(e:k.ex=U):k.ren τ=k:=by unfold ABlk.ren;rw[e]
theorem AbW{τ:Nat->Nat}{k:ABlk}(e:k.ex=Θ):(k.ren τ).cells=IH τ k.cells:=by unfold ABlk.ren;rw[e]
theorem Abi{k:ABlk}(e:k.ex=Θ):k.ids=EY k.cells:=by unfold ABlk.ids;rw[e]
theorem D8{μ₁ μ₂:Mu}{τ:Nat->Nat}{p:Pl}{k:ABlk}(h:∀ c∈k.ids,μ₂ (τ c)=μ₁ c):BRep μ₂ F w p (k.ren τ) ↔ BRep μ₁ F w p k:=by
 have hs:=DP τ k
 cases e:k.ex with
 |true=>
  rw[Agn e];have key:∀{μ μ':Mu},BRep μ F w p k->BRep μ' F w p k:=λ{μ μ'} hb=>Hv ⟨rfl,rfl,rfl⟩ hb (λi x hx=>by
   obtain⟨u,h2,h3⟩:=hb.cell i x hx;have en:=hb.pure e;rw[BN,AvJ]at en;exact⟨u,h2,F7 μ μ' x u (en x (Awx hx)) h3⟩) hb.pure
  exact⟨key,key⟩
 |false=>
  have hc:=AbW (τ:=τ) e;rw[Abi e]at h;constructor
  .intro hb
   refine Hv hs.symm hb (λi x hx=>?_) (λh=>by rw[e]at h;cases h);obtain⟨u,h2,h3⟩:=hb.cell i (x.ren τ) (by rw[hc,OA,AwC,hx];rfl);exact⟨u,h2,(JI x u λc hcx=>h c (LH.2 ⟨x,Awx hx,hcx⟩)).1 h3⟩
  .intro hb
   refine Hv hs hb (λi x hx=>?_) (λh=>by rw[hs.2.2,e]at h;cases h);rw[hc,OA,AwC]at hx
   cases e1:k.cells[i]? with
   |none=>rw[e1]at hx;cases hx
   |some y=>
    rw[e1]at hx;simp only[AvP,ξ]at hx;subst hx;obtain⟨u,h2,h3⟩:=hb.cell i y e1;exact⟨u,h2,(JI y u λc hcx=>h c (LH.2 ⟨y,Awx e1,hcx⟩)).2 h3⟩
theorem WX(k:ABlk):k.ren id=k:=by
 cases e:k.ex with
 |true=>exact Agn e
 |false=>
  obtain⟨cs,st,ex⟩:=k;simp only at e;subst e;simp only[ABlk.ren,JH (τ:=id) λ_=>rfl]
theorem YV{μ₁ μ₂:Mu}{p:Pl}{k:ABlk}(h:∀ c∈k.ids,μ₂ c=μ₁ c)(hB:BRep μ₁ F w p k):BRep μ₂ F w p k:=by
 have:=(D8 (τ:=id) h).2 hB
 rwa [WX]at this
theorem Pn{μ₁ μ₂:Mu}{H₁ H₂:Nat->Option ABlk}(f:Nat->Nat)(h:HRep μ₁ F w H₁)(inj:∀ b b' k k',H₂ b=V k->H₂ b'=V k'->f b=f b'->b=b')
  (hb:∀ b k₂,H₂ b=V k₂->∃ k₁,H₁ (f b)=V k₁/\μ₂ b=μ₁ (f b)/\Shape k₁ k₂/\∀ p,BRep μ₁ F w p k₁->BRep μ₂ F w p k₂):HRep μ₂ F w H₂:=by
 refine⟨λb k hk=>?_,λb b' k k' p p' hne hk hk' hp hp' i i' ho ho'=>?_,h.prot⟩
 .obtain⟨k₁,h1,h2,_,h3⟩:=hb b k hk
  obtain⟨p,hp,hB⟩:=h.blk _ _ h1;exact⟨p,h2.trans hp,h3 p hB⟩
 .obtain⟨k₁,h1,h2,h3,_⟩:=hb b k hk
  obtain⟨k₁',h1',h2',h3',_⟩:=hb b' k' hk';exact h.apart (f b) (f b') k₁ k₁' p p' (λe=>hne (inj b b' k k' hk hk' e)) h1 h1' (by rw[←h2];exact hp) (by rw[←h2'];exact hp') i i' ((h3.owns _ _).1 ho) ((h3'.owns _ _).1 ho')
end
abbrev Mw:=AN->World->(Value->World->Prop)->Prop
def Nr(S:Mw):Prop:=∀ us w Q Q',S us w Q->(∀ u w',Q u w'->Q' u w')->S us w Q'
def SB(S:Mw)(m:Ab->AM AV):Prop:=∀(args:Ab) (μ:Mu) (F:AQ) (w:World) (H:AH) (us:AN),RepList μ F w args us->HRep μ F w H.get->H.wf->B3 μ H->
 ∀ r H' ft,m args H=V (r,H',ft)->S us w λu w'=>Post μ F w H r H' u w'
def E4(bs:List ABlk)(out:List BO)(b:Nat):Option ABlk:=match out[b]? with
 |some .keep=>bs[b]?
 |some (.set k)=>V k
 |_=>Δ
def Ca(S:Mw)(D:DF):Prop:=∀ args bs r out,D args bs=V (r,out)->bs.length<=out.length/\∃ t0,out.length<=t0/\∀ t,t0<=t->∀(μ:Mu) (F:AQ) (w:World) (KL:List (Nat × ABlk)) (us:AN),(∀ p∈KL,t<=p.1)->
 RepList μ F w args us->HRep μ F w (λb=>if b<t then bs[b]? else look b KL)->(∀ b,bs.length<=b->b<t->μ b=Δ)->
 S us w λu w'=>∃ μ' F',Rep μ' F' w' r u/\HRep μ' F' w' (λb=>if b<t then E4 bs out b else look b KL)/\Later μ μ' F F' w w'/\WStep F w w'/\∀ b,(b<bs.length\/out.length<=b)->μ' b=μ b
theorem S7(b:Nat):∀ l,Gk b l=l.contains b
 |[]=>rfl
 |c::r=>by
  unfold Gk;rw[AnL];simp only[List.contains_cons]
  cases e:b == c with
  |true=>simp
  |false=>simp[S7 b r]
theorem G3{b:Nat}{l:Al}:Gk b l=U ↔ b∈l:=by rw[S7];simp
theorem MZ(KL:List (Nat × ABlk)):∀(bs:List ABlk) (n b:Nat),look b (Du n bs++KL)=if n<=b/\b<n+bs.length then bs[b-n]? else look b KL
 |[],n,b=>by
  grind [Du]
 |k::r,n,b=>by
  simp only[Du,List.cons_append,look]
  by_cases h:n=b
  .subst h
   simp
  .rw[Ad h,MZ KL r (n+1) b]
   by_cases h2:n<=b
   .grind
   .grind
theorem Abp{KL:List (Nat × ABlk)}{t b:Nat}(h:∀ p∈KL,t<=p.1)(hb:b<t):look b KL=Δ:=by
 induction KL with
 |nil=>rfl
 |cons p r ih=>
  obtain⟨c,k⟩:=p;simp only[look];have:=h (c,k) (by simp);simp only at this;rw[Ad (by omega)];exact ih λp hp=>h p (by simp[hp])
theorem KI:∀(n a i:Nat),(El a n)[i]? = if i<n then V (a+i) else Δ
 |0,a,i=>by simp[El]
 |n+1,a,0=>by simp[El]
 |n+1,a,i+1=>by
  simp only[El,Awa,KI n (a+1) i,Nat.add_lt_add_iff_right];rw[show a+1+i=a+(i+1) by omega]
theorem GQ:∀(n a:Nat),(El a n).length=n
 |0,a=>rfl
 |n+1,a=>by simp[El,GQ n]
theorem R9{S:Mw}{m:Ab->AM AV}(hS:SB S m)(hL:∀ args,Loc (m args)):Ca S (Fr m):=by
 intro args bs r out h;unfold Fr at h;rcases e:m args ⟨Du 0 bs,bs.length,Δ⟩ with _|⟨r0,H',ft⟩<;>rw[e]at h
 .cases h
 simp only[ξ,Prod.mk.injEq]at h;obtain⟨rfl,hout⟩:=h;have get0:∀ b,AH.get ⟨Du 0 bs,bs.length,Δ⟩ b=bs[b]?:=λb=>by
  have:=MZ [] bs 0 b;rw[List.append_nil]at this
  show look b (Du 0 bs)=_
  rw[this]
  by_cases hb:b<bs.length
  .grind
  .rw[Ad (by omega),Aw5 (by omega)];rfl
 have wf0:AH.wf ⟨Du 0 bs,bs.length,Δ⟩:=λb hb _=>by
  grind
 have L:=hL args _ _ _ _ wf0 e;have hn:bs.length<=H'.next:=L.next;have hlen:out.length=H'.next:=by
  grind [ζ,Av8,GQ]
 refine⟨by omega,H'.next,by omega,λt ht μ F w KL us hKL hr hH hμ=>?_⟩;have getK:∀ b,AH.get ⟨Du 0 bs++KL,bs.length,V t⟩ b=if b<t then bs[b]? else look b KL:=λb=>by
  show look b (Du 0 bs++KL)=_
  rw[MZ KL bs 0 b]
  by_cases hb:b<bs.length
  .grind
  .rw[Ad (by omega)]
   by_cases hbt:b<t
   .rw[Ac hbt,Abp hKL hbt,Aw5 (by omega)]
   .rw[Ad hbt]
 have lt:∀ b,b∈ft.rd\/b∈ft.wr->b<H'.next:=λb hb=>by
  rcases Av3 b H'.next with h1|h1
  .exact h1
  .exact absurd (show AH.below ⟨Du 0 bs,bs.length,Δ⟩ b from λt h=>by cases h) (L.bound b hb h1)
 obtain⟨K',k1,k2,k3,k4⟩:=L.move ⟨Du 0 bs++KL,bs.length,V t⟩ rfl (λb _ h2=>λt' ht'=>by cases ht';omega) (λb hb hx=>by
  rw[getK,get0];have:=lt b hb;rw[Ac (by omega)])
 have hwK:AH.wf ⟨Du 0 bs++KL,bs.length,V t⟩:=λb h1 h2=>by
  rw[getK];have h1':bs.length<=b:=h1;have h2':b<t:=h2 t rfl;rw[Ac h2',Aw5 h1']
 have hfK:B3 μ ⟨Du 0 bs++KL,bs.length,V t⟩:=λb h1 h2=>hμ b h1 (h2 t rfl)
 have hHK:HRep μ F w (AH.get ⟨Du 0 bs++KL,bs.length,V t⟩):=by
  have:(AH.get ⟨Du 0 bs++KL,bs.length,V t⟩)=λb=>if b<t then bs[b]? else look b KL:=funext getK
  rw[this];exact hH
 have hPost:=hS args μ F w _ us hr hHK hwK hfK _ _ _ k1;have hK':K'.get=λb=>if b<t then E4 bs out b else look b KL:=by
  funext b
  rw[k4,getK];have hob:out[b]? = if b<bs.length then V (Yg H' ft.wr b) else if b<H'.next then V (Ajs H' b) else Δ:=by
   rw[←hout,List.getElem?_append];simp only[Av8,GQ,AwC,KI]
   by_cases h1:b<bs.length
   .grind
   .grind
  unfold E4;rw[hob]
  by_cases hbt:b<t
  .rw[Ac hbt,Ac hbt]
   by_cases h1:b<bs.length
   .rw[Ac h1]
    simp only[Yg]
    cases e1:Gk b ft.wr with
    |true=>
     rw[Ac (G3.1 e1)]
     cases H'.get b<;>rfl
    |false=>
     rw[Ad (λhc=>by rw[G3.2 hc]at e1;cases e1)]
   .rw[Ad h1]
    by_cases h2:b<H'.next
    .rw[Ac h2]
     rw[Ac (L.new b (by show bs.length<=b;omega) h2)];simp only[Ajs]
     cases H'.get b<;>rfl
    .grind
  .grind
 have:(λu w'=>Post μ F w ⟨Du 0 bs++KL,bs.length,V t⟩ r0 K' u w')=λu w'=>∃ μ' F',Rep μ' F' w' r0 u/\HRep μ' F' w' (λb=>if b<t then E4 bs out b else look b KL)/\Later μ μ' F F' w w'/\WStep F w w'/\∀ b,(b<bs.length\/out.length<=b)->μ' b=μ b:=by
  grind [Post]
 rw[this]at hPost;exact hPost
theorem AaH(a b:Nat):Awv a b=decide (a<b):=Bool.eq_iff_iff.2 (by simp[Awv];omega)
theorem Tt:∀(l:List BO) (n:Nat),Yc l n=l[n]?
 |[],_=>by simp[Yc]
 |x::r,0=>by simp[Yc]
 |x::r,n+1=>by simp[Yc,Tt r n]
theorem Qv:∀(l:List BO) (n:Nat),J8 l n=l.take n
 |[],_=>by simp[J8]
 |x::r,0=>by simp[J8]
 |x::r,n+1=>by simp[J8,Qv r n]
theorem Aab(τ:Nat->Nat):∀ l,Agm τ l=l.map (BO.ren τ)
 |[]=>rfl
 |x::r=>by simp[Agm,Aab τ r]
theorem VW(τ:Nat->Nat)(out:List BO):∀ l,VV τ out l=l.map λb=>match out[b]? with
  |some o=>o.ren τ
  |none=>.del
 |[]=>rfl
 |x::r=>by
  simp only[VV,Tt,AvT,VW τ out r];rfl
theorem Vz{c:Nat}:∀{l:List BO},c∈XP l ↔ ∃ o∈l,c∈o.ids
 |[]=>by simp[XP]
 |o::r=>by simp[XP,Vz (l:=r)]
theorem Eg{b:Nat}:∀{l:Al},b∈l->l[idx b l]? = V b
 |[],h=>by cases h
 |c::r,h=>by
  unfold idx;rw[AnL]
  by_cases e:b=c
  .subst e;simp
  .have:(b == c)=Θ:=by simpa using e
   rw[this];simp only[Awa];exact Eg (by rcases AvK.1 h with h|h;exact absurd h e;exact h)
theorem MS{b:Nat}{l:Al}(h:b∈l):idx b l<l.length:=(Av9.1 (Eg h)).1
structure GcOk (k:Nat) (out:List BO) (todo acc acc':Al):Prop where
 sub:∀ b∈acc,b∈acc'
 nodup:acc.Nodup->acc'.Nodup
 new:∀ b∈acc',b∈acc\/(k<=b/\∃ kb,out[b]? = V (.set kb)/\∀ c∈kb.ids,c<k\/c∈acc')
 todo:∀ b∈todo,b<k\/b∈acc'
theorem JC(k:Nat)(out:List BO):∀(n:Nat) (todo acc acc':Al),GN k out n todo acc=V acc'->GcOk k out todo acc acc'
 |n,[],acc,acc',h=>by
  have:acc=acc':=by cases n<;>(unfold GN at h;simpa using h)
  subst this;exact⟨λ_ h=>h,λh=>h,λ_ h=>.inl h,λ_ h=>by cases h⟩
 |0,b::r,acc,acc',h=>by unfold GN at h;cases h
 |n+1,b::r,acc,acc',h=>by
  unfold GN at h
  cases e1:Awv b k with
  |true=>
   rw[e1]at h;have ih:=JC k out n r acc acc' h;have hbk:b<k:=by simpa[AaH]using e1
   exact⟨ih.sub,ih.nodup,ih.new,λc hc=>by
    rcases AvK.1 hc with rfl|hc
    .exact .inl (by omega)
    .exact ih.todo c hc⟩
  |false=>
   rw[e1]at h;have hbk:k<=b:=by
    grind [AaH]
   cases e2:Gk b acc with
   |true=>
    rw[e2]at h;have ih:=JC k out n r acc acc' h;exact⟨ih.sub,ih.nodup,ih.new,λc hc=>by
     rcases AvK.1 hc with rfl|hc
     .exact .inr (ih.sub _ (G3.1 e2))
     .exact ih.todo c hc⟩
   |false=>
    rw[e2]at h;simp only[Tt]at h;have hb:b∉acc:=λhc=>by rw[G3.2 hc]at e2;cases e2
    cases e3:out[b]? with
    |none=>rw[e3]at h;cases h
    |some o=>
     rw[e3]at h
     cases o with
     |keep=>cases h
     |del=>cases h
     |set kb=>
      have ih:=JC k out n (r++kb.ids) (acc++[b]) acc' h;refine⟨λc hc=>ih.sub c (by simp[hc]),λhn=>ih.nodup ?_,λc hc=>?_,λc hc=>?_⟩
      .grind
      .rcases ih.new c hc with h1|h1
       .simp only[Awg,Awk]at h1
        rcases h1 with h1|rfl
        .exact .inl h1
        .exact .inr ⟨hbk,kb,e3,λd hd=>ih.todo d (by simp[hd])⟩
       .exact .inr h1
      .rcases AvK.1 hc with rfl|hc
       .exact .inr (ih.sub _ (by simp))
       .exact ih.todo c (by simp[hc])
theorem Aoc{k:Nat}{acc:Al}{b:Nat}(h:b<k):gcN k acc b=b:=by
 grind [Awv,gcN,AaH]
theorem Aob{k:Nat}{acc:Al}{b:Nat}(h:k<=b):gcN k acc b=k+idx b acc:=by
 grind [Awv,gcN,AaH]
theorem UJ{S:Mw}(hm:Nr S){D:DF}(hD:Ca S D):Ca S (QG D):=by
 intro args bs r' out' h;unfold QG at h;rcases e:D args bs with _|⟨r,out⟩<;>rw[e]at h
 .cases h
 simp only at h;rcases e2:GN bs.length out 4096 (r.ids++XP (J8 out bs.length)) []with _|acc<;>rw[e2]at h
 .cases h
 simp only[ξ,Prod.mk.injEq]at h;obtain⟨rfl,hout⟩:=h;have hg:=JC _ _ _ _ _ _ e2;have hnd:=hg.nodup (by simp);obtain⟨hle,t0,ht0,hD⟩:=hD args bs r out e;have hacc:∀ b∈acc,bs.length<=b/\∃ kb,out[b]? = V (.set kb)/\∀ c∈kb.ids,c<bs.length\/c∈acc:=λb hb=>by
  rcases hg.new b hb with h|h
  .cases h
  .exact h
 rw[Qv,Aab,VW]at hout;have hlen:out'.length=bs.length+acc.length:=by
  grind
 refine⟨by omega,max t0 out'.length,by omega,λt ht μ F w KL us hKL hr hH hμ=>?_⟩;refine hm _ _ _ _ (hD t (by omega) μ F w KL us hKL hr hH hμ) ?_;rintro u w' ⟨μ',F',g1,g2,g3,g4,g5⟩;have hob:∀ b,out'[b]? = if b<bs.length then out[b]?.map (BO.ren (gcN bs.length acc)) else(acc[b-bs.length]?).map λb=>match out[b]? with
   |some o=>o.ren (gcN bs.length acc)
   |none=>.del:=λb=>by
  grind
 let μ'':Mu:=λb=>if b<bs.length then μ' b else if b<out'.length then(acc[b-bs.length]?).bind μ' else μ b
 have hτ:∀ c,c<bs.length\/c∈acc->μ'' (gcN bs.length acc c)=μ' c:=λc hc=>by
  by_cases h1:c<bs.length
  .rw[Aoc h1]
   show (if c<bs.length then _ else _)=_
   rw[Ac h1]
  .have hc':c∈acc:=by rcases hc with h|h;exact absurd h h1;exact h
   rw[Aob (by omega)];have h2:=MS hc'
   show (if bs.length+idx c acc<bs.length then _ else if bs.length+idx c acc<out'.length then(acc[bs.length+idx c acc-bs.length]?).bind μ' else _)=_
   rw[Ad (by omega),Ac (by omega),show bs.length+idx c acc-bs.length=idx c acc by omega,Eg hc'];rfl
 have hold:∀ c p,μ c=V p->μ'' c=μ' c:=λc p hp=>by
  grind
 have hrids:∀ c∈r.ids,c<bs.length\/c∈acc:=λc hc=>hg.todo c (by simp[hc])
 have hkids:∀ b kb,b<bs.length->out[b]? = V (.set kb)->∀ c∈kb.ids,c<bs.length\/c∈acc:=λb kb hb hk c hc=>hg.todo c (by
  rw[Awg];refine .inr (Vz.2 ⟨.set kb,?_,hc⟩);rw[Qv];refine Awx (i:=b) ?_;rw[List.getElem?_take,Ac hb,hk])
 refine⟨μ'',F',(JI r u λc hc=>hτ c (hrids c hc)).2 g1,?_,⟨λb p hp=>?_,g3.prot⟩,g4,λb hb=>?_⟩
 .-- the heap
  let f:Nat->Nat:=λb=>if b<bs.length then b else if b<out'.length then(acc[b-bs.length]?).getD 0 else b
  have hf1:∀ b,b<bs.length->f b=b:=λb hb=>by show (if _ then _ else _)=_;rw[Ac hb]
  have hf2:∀ b,bs.length<=b->b<out'.length->∃ c,acc[b-bs.length]? = V c/\f b=c:=λb h1 h2=>by
   grind
  have hf3:∀ b,out'.length<=b->f b=b:=λb hb=>by
   grind
  have live:∀ b k,(if b<t then E4 bs out' b else look b KL)=V k->b<out'.length\/t<=b:=λb k hk=>by
   grind [E4]
  refine Pn f g2 ?_ ?_
  .intro b b' k k' hk hk' he
   have l1:=live b k hk;have l2:=live b' k' hk';have cls:∀ b,b<out'.length\/t<=b->(b<bs.length/\f b=b)\/(bs.length<=b/\b<out'.length/\∃ c,acc[b-bs.length]? = V c/\f b=c/\bs.length<=c/\c<t)\/(t<=b/\f b=b):=λb hb=>by
    rcases Av3 b bs.length with h1|h1
    .grind
    .rcases hb with h2|h2
     .obtain⟨c,c1,c2⟩:=hf2 b h1 h2
      obtain⟨c3,kb,c4,_⟩:=hacc c (Awx c1);have:=(Av9.1 c4).1;exact .inr (.inl ⟨h1,h2,c,c1,c2,c3,by omega⟩)
     .exact .inr (.inr ⟨h2,hf3 b (by omega)⟩)
   rcases cls b l1 with⟨a1,a2⟩|⟨a1,a2,c,a3,a4,a5,a6⟩|⟨a1,a2⟩<;>rcases cls b' l2 with⟨d1,d2⟩|⟨d1,d2,c',d3,d4,d5,d6⟩|⟨d1,d2⟩<;>try omega
   have hcc:c=c':=by omega
   subst hcc;have:=(Ax7 (by omega) hnd).1 (a3.trans d3.symm);omega
  .intro b k₂ hk₂
   rcases live b k₂ hk₂ with h1|h1
   .have hbt:b<t:=by omega
    rw[Ac hbt]at hk₂;unfold E4 at hk₂;rw[hob]at hk₂
    by_cases h2:b<bs.length
    .rw[Ac h2]at hk₂
     rw[hf1 b h2];have hμb:μ'' b=μ' b:=by show (if _ then _ else _)=_;rw[Ac h2]
     cases e3:out[b]? with
     |none=>rw[e3]at hk₂;cases hk₂
     |some o=>
      rw[e3]at hk₂
      cases o with
      |del=>cases hk₂
      |keep=>
       simp only[AvP,BO.ren]at hk₂;refine⟨k₂,by rw[Ac hbt];unfold E4;rw[e3];exact hk₂,hμb,⟨rfl,rfl,rfl⟩,λp hB=>?_⟩;obtain⟨p0,_,hB0⟩:=hH.blk b k₂ (by rw[Ac hbt];exact hk₂);have:∀ c∈k₂.ids,μ'' c=μ' c:=λc hc=>by
        obtain⟨q,hq⟩:=OV hB0 c hc;exact hold c q hq
       exact YV this hB
      |set k0=>
       simp only[AvP,BO.ren,ξ]at hk₂;subst hk₂;exact⟨k0,by rw[Ac hbt];unfold E4;rw[e3],hμb,DP _ _,λp hB=>(D8 λc hc=>hτ c (hkids b k0 h2 e3 c hc)).2 hB⟩
    .rw[Ad h2]at hk₂
     obtain⟨c,c1,c2⟩:=hf2 b (by omega) h1;rw[c1]at hk₂;obtain⟨c3,kb,c4,c5⟩:=hacc c (Awx c1);have clt:=(Av9.1 c4).1;simp only[AvP,c4,BO.ren,ξ]at hk₂;subst hk₂;rw[c2];refine⟨kb,by rw[Ac (by omega)];unfold E4;rw[c4],?_,DP _ _,λp hB=>(D8 λd hd=>hτ d (c5 d hd)).2 hB⟩
     show (if b<bs.length then _ else if b<out'.length then(acc[b-bs.length]?).bind μ' else _)=_
     rw[Ad h2,Ac h1,c1];rfl
   .rw[Ad (by omega)]at hk₂
    rw[hf3 b (by omega)];have hμb:μ'' b=μ' b:=by
     show (if b<bs.length then _ else if b<out'.length then _ else _)=_
     rw[Ad (by omega),Ad (by omega)];exact(g5 b (.inr (by omega))).symm
    refine⟨k₂,by rw[Ad (by omega)];exact hk₂,hμb,⟨rfl,rfl,rfl⟩,λp hB=>?_⟩;obtain⟨p0,_,hB0⟩:=hH.blk b k₂ (by rw[Ad (by omega)];exact hk₂);have:∀ c∈k₂.ids,μ'' c=μ' c:=λc hc=>by
     obtain⟨q,hq⟩:=OV hB0 c hc;exact hold c q hq
    exact YV this hB
 .grind
 .grind
structure TravOk (H:AH) (todo acc L:Al):Prop where
 sub:∀ b∈acc,b∈L
 nodup:acc.Nodup->L.Nodup
 new:∀ b∈L,b∈acc\/∃ k,H.get b=V k/\∀ c∈k.ids,c∈L
 todo:∀ b∈todo,b∈L
theorem OG{H:AH}:∀(n:Nat) (todo acc L:Al) {H':AH} {ft:Foot},trav n todo acc H=V (L,H',ft)->H'=H/\TravOk H todo acc L
 |n,[],acc,L,H',ft,h=>by
  have:AM.ret acc H=V (L,H',ft):=by cases n<;>(unfold trav at h;exact h)
  obtain⟨rfl,rfl⟩:=Au this;exact⟨rfl,λ_ h=>h,λh=>h,λ_ h=>.inl h,λ_ h=>by cases h⟩
 |0,b::r,acc,L,H',ft,h=>by unfold trav at h;exact(At h).elim
 |n+1,b::r,acc,L,H',ft,h=>by
  unfold trav at h
  cases e2:Gk b acc with
  |true=>
   rw[e2]at h;obtain⟨e0,ih⟩:=OG n r acc L h;exact⟨e0,ih.sub,ih.nodup,ih.new,λc hc=>by
    rcases AvK.1 hc with rfl|hc
    .exact ih.sub _ (G3.1 e2)
    .exact ih.todo c hc⟩
  |false=>
   rw[e2]at h;have hb:b∉acc:=λhc=>by rw[G3.2 hc]at e2;cases e2
   obtain⟨k,H1,f1,f2,h1,h2⟩:=bind_some h;obtain⟨hk,e1⟩:=BY h1;rw[e1]at h2;obtain⟨e0,ih⟩:=OG n (r++k.ids) (acc++[b]) L h2;refine⟨e0,λc hc=>ih.sub c (by simp[hc]),λhn=>ih.nodup ?_,λc hc=>?_,λc hc=>?_⟩
   .grind
   .rcases ih.new c hc with h1|h1
    .simp only[Awg,Awk]at h1
     rcases h1 with h1|rfl
     .exact .inl h1
     .exact .inr ⟨k,hk,λd hd=>ih.todo d (by simp[hd])⟩
    .exact .inr h1
   .rcases AvK.1 hc with rfl|hc
    .exact ih.sub _ (by simp)
    .exact ih.todo c (by simp[hc])
theorem KV{H:AH}:∀(L:Al) {bs:List ABlk} {H':AH} {ft:Foot},readAll L H=V (bs,H',ft)->H'=H/\bs.length=L.length/\∀(i b:Nat),L[i]? = V b->∃ k,bs[i]? = V k/\H.get b=V k
 |[],bs,H',ft,h=>by
  obtain⟨rfl,rfl⟩:=Au h;exact⟨rfl,rfl,λi b hb=>by simp at hb⟩
 |c::r,bs,H',ft,h=>by
  unfold readAll at h;obtain⟨k,H1,f1,f2,h1,h2⟩:=bind_some h;obtain⟨hk,e1⟩:=BY h1;rw[e1]at h2;obtain⟨l,H2,f3,f4,h3,h4⟩:=bind_some h2;obtain⟨rfl,e2⟩:=Au h4;obtain⟨e3,h5,h6⟩:=KV r h3;refine⟨e2.trans e3,by simp[h5],λi b hb=>?_⟩
  cases i with
  |zero=>simp at hb;subst hb;exact⟨k,rfl,hk⟩
  |succ i=>simpa using h6 i b (by simpa using hb)
def Jv(H:AH)(σ:Nat->Nat)(o:Option BO)(b:Nat):Option ABlk:=match o with
 |some .keep=>H.get b
 |some (.set k)=>V (k.ren σ)
 |_=>Δ
theorem N3{σ:Nat->Nat}:∀(L:Al) (out:List BO) {H:AH} {rest:List BO} {H':AH} {ft:Foot},L.Nodup->(∀ b∈L,∃ k,H.get b=V k)->writeAll σ L out H=V (rest,H',ft)->
  L.length<=out.length/\rest=out.drop L.length/\H'.next=H.next/\H'.top=H.top/\(∀(i b:Nat),L[i]? = V b->H'.get b=Jv H σ out[i]? b)/\∀ b,b∉L->H'.get b=H.get b
 |[],out,H,rest,H',ft,_,_,h=>by
  unfold writeAll at h;obtain⟨rfl,rfl⟩:=Au h;exact⟨Nat.zero_le _,rfl,rfl,rfl,λi b hb=>by simp at hb,λ_ _=>rfl⟩
 |c::r,[],H,rest,H',ft,_,_,h=>by unfold writeAll at h;exact(At h).elim
 |c::r,o::out,H,rest,H',ft,hnd,hl,h=>by
  unfold writeAll at h;obtain⟨_,H1,f1,f2,h1,h2⟩:=bind_some h;rw[List.nodup_cons]at hnd;have step:H1.next=H.next/\H1.top=H.top/\H1.get c=Jv H σ (V o) c/\∀ b,b≠c->H1.get b=H.get b:=by
   cases o with
   |keep=>
    obtain⟨_,rfl⟩:=Au h1;exact⟨rfl,rfl,rfl,λ_ _=>rfl⟩
   |del=>
    have:=Rk h1;rw[this];exact⟨rfl,rfl,by rw[AH.get_del,Ac rfl];rfl,λb hb=>by rw[AH.get_del,Ad hb]⟩
   |set k=>
    have:=Hh h1;rw[this];exact⟨rfl,rfl,by rw[AH.get_put,Ac rfl];rfl,λb hb=>by rw[AH.get_put,Ad hb]⟩
  obtain⟨s1,s2,s3,s4⟩:=step;obtain⟨i1,i2,i3,i4,i5,i6⟩:=N3 r out hnd.2 (λb hb=>by
   rw[s4 b (λe=>hnd.1 (e▸hb))];exact hl b (by simp[hb])) h2
  refine⟨by simp;omega,by simpa using i2,i3.trans s1,i4.trans s2,λi b hb=>?_,λb hb=>?_⟩
  .cases i with
   |zero=>
    simp at hb;subst hb;rw[i6 _ hnd.1,s3];rfl
   |succ i=>
    have hb':r[i]? = V b:=by simpa using hb
    have hbc:b≠c:=λe=>hnd.1 (e▸Awx hb')
    rw[i5 i b hb'];simp only[Awa]
    cases out[i]? with
    |none=>rfl
    |some o=>cases o<;>simp only[Jv,s4 b hbc]
  .grind
theorem RV{σ:Nat->Nat}:∀(out:List BO) {H:AH} {u:Unit} {H':AH} {ft:Foot},newAll σ out H=V (u,H',ft)->
  H'.next=H.next+out.length/\H'.top=H.top/\(∀ b,H.next<=b->b<H.next+out.length->H.below b)/\∀ b,H'.get b=if H.next<=b/\b<H.next+out.length then Jv H σ out[b-H.next]? b else H.get b
 |[],H,u,H',ft,h=>by
  unfold newAll at h;obtain⟨_,rfl⟩:=Au h;exact⟨rfl,rfl,λb h1 h2=>by simp at h2;omega,λb=>by rw[Ad (by simp)]⟩
 |.keep::r,H,u,H',ft,h=>by unfold newAll at h;exact(At h).elim
 |.del::r,H,u,H',ft,h=>by unfold newAll at h;exact(At h).elim
 |.set k::r,H,u,H',ft,h=>by
  unfold newAll at h;obtain⟨n,H1,f1,f2,h1,h2⟩:=bind_some h;obtain⟨b1,b2⟩:=E1 h1;simp only[Prod.mk.injEq]at b2;obtain⟨_,b2,_⟩:=b2;have hg:∀ b,H1.get b=if b=H.next then V (k.ren σ) else H.get b:=λb=>by rw[b2,EX]
  have hn:H1.next=H.next+1:=by rw[b2]
  have ht:H1.top=H.top:=by rw[b2]
  obtain⟨i1,i2,i3,i4⟩:=RV r h2;refine⟨by rw[i1,hn];simp;omega,i2.trans ht,λb h3 h4=>?_,λb=>?_⟩
  .grind [AH.below]
  .rw[i4,hn]
   simp only[ε]
   by_cases h3:H.next+1<=b/\b<H.next+1+r.length
   .rw[Ac h3,Ac (by omega)]
    rw[show b-H.next=(b-(H.next+1))+1 by omega];simp only[Awa]
    cases r[b-(H.next+1)]? with
    |none=>rfl
    |some o=>cases o<;>simp only[Jv,hg,Ad (show ¬ b=H.next by omega)]
   .rw[Ad h3,hg]
    by_cases h4:b=H.next
    .subst h4
     rw[Ac rfl,Ac (by omega)];simp[Jv]
    .grind
theorem Z0:∀(l:Al) (n:Nat),AbD l n=l[n]?
 |[],_=>by simp[AbD]
 |x::r,0=>by simp[AbD]
 |x::r,n+1=>by simp[AbD,Z0 r n]
theorem SI{n:Nat}:∀{l:Al},QN n l=U->∀ c∈l,c<n
 |[],_,c,hc=>by cases hc
 |d::r,h,c,hc=>by
  unfold QN at h
  cases e:Awv d n with
  |false=>rw[e]at h;cases h
  |true=>
   rw[e]at h;rcases AvK.1 hc with rfl|hc
   .simpa[AaH]using e
   .exact SI h c hc
theorem SJ{n:Nat}:∀{l:List BO},Un n l=U->∀ o∈l,∀ c∈o.ids,c<n
 |[],_,o,ho=>by cases ho
 |d::r,h,o,ho=>by
  unfold Un at h
  cases e:QN n d.ids with
  |false=>rw[e]at h;cases h
  |true=>
   rw[e]at h;rcases AvK.1 ho with rfl|ho
   .exact SI e
   .exact SJ h o ho
theorem Loc.trav:∀(n:Nat) (todo acc:Al),Loc (trav n todo acc)
 |n,[],acc=>by cases n<;>(unfold Go.Proofs.YtlmhajfbpplpoaaGreat.trav;exact Loc.ret _)
 |0,_::_,_=>by unfold Go.Proofs.YtlmhajfbpplpoaaGreat.trav;exact Loc.fail
 |n+1,b::r,acc=>by
  unfold Go.Proofs.YtlmhajfbpplpoaaGreat.trav;split
  .exact Loc.trav n _ _
  .exact Loc.bind (Loc.getB _) λk=>Loc.trav n _ _
theorem Loc.readAll:∀(L:Al),Loc (readAll L)
 |[]=>Loc.ret _
 |b::r=>Loc.bind (Loc.getB _) λ_=>Loc.bind (Loc.readAll r) λ_=>Loc.ret _
theorem Loc.nextB:Loc nextB:=λH a H' ft hw h=>by
 unfold Go.Proofs.YtlmhajfbpplpoaaGreat.nextB at h;simp only[ξ,Prod.mk.injEq]at h;obtain⟨rfl,rfl,rfl⟩:=h;exact⟨η _,rfl,λb h1 h2=>by omega,hw,λb h1 h2=>by omega,λb hb=>by simp at hb,λ_ _=>rfl,λK hn _ _=>⟨K,by unfold Go.Proofs.YtlmhajfbpplpoaaGreat.nextB;rw[hn],hn,rfl,λb=>by simp⟩⟩
theorem Loc.writeAll(σ:Nat->Nat):∀(L:Al) (out:List BO),Loc (writeAll σ L out)
 |[],out=>by unfold Go.Proofs.YtlmhajfbpplpoaaGreat.writeAll;exact Loc.ret _
 |_::_,[]=>by unfold Go.Proofs.YtlmhajfbpplpoaaGreat.writeAll;exact Loc.fail
 |b::r,o::out=>by
  unfold Go.Proofs.YtlmhajfbpplpoaaGreat.writeAll;refine Loc.bind ?_ λ_=>Loc.writeAll σ r out
  cases o with
  |keep=>exact Loc.ret _
  |del=>exact Loc.delB _
  |set k=>exact Loc.setB _ _
theorem Loc.newAll(σ:Nat->Nat):∀(out:List BO),Loc (newAll σ out)
 |[]=>Loc.ret _
 |.set k::r=>Loc.bind (Loc.newB _) λ_=>Loc.newAll σ r
 |.keep::r=>Loc.fail
 |.del::r=>Loc.fail
theorem Loc.callD(D:DF)(args:Ab):Loc (callD D args):=by
 unfold Go.Proofs.YtlmhajfbpplpoaaGreat.callD;refine Loc.bind (Loc.trav _ _ _) λL=>Loc.bind (Loc.readAll L) λbs=>Loc.bind (Loc.opt _) λr=>?_
 split
 .grind [Loc.bind,Loc.newAll,Loc.nextB,Loc.ret,Loc.writeAll]
 .exact Loc.fail
def N7(L:Al)(t:Nat)(τ:Nat->Nat):List (Nat × ABlk)->List (Nat × ABlk)
 |[]=>[]
 |(b,k)::r=>if b∈L then N7 L t τ r else(t+b,k.ren τ)::N7 L t τ r
theorem LD{L:Al}{t:Nat}{τ:Nat->Nat}{b:Nat}(hb:b∉L):∀ l,look (t+b) (N7 L t τ l)=(look b l).map (ABlk.ren τ)
 |[]=>rfl
 | (c,k)::r=>by
  unfold N7
  by_cases hc:c∈L
  .rw[Ac hc,LD hb r]
   simp only[look];rw[Ad (show ¬ c=b from λe=>hb (e▸hc))]
  .rw[Ad hc]
   simp only[look]
   by_cases e:c=b
   .subst e
    simp
   .rw[Ad (by omega),Ad e,LD hb r]
theorem Gv{L:Al}{t:Nat}{τ:Nat->Nat}{b:Nat}(hb:b∈L):∀ l,look (t+b) (N7 L t τ l)=Δ
 |[]=>rfl
 |(c,k)::r=>by
  unfold N7
  by_cases hc:c∈L
  .rw[Ac hc,Gv hb r]
  .rw[Ad hc]
   simp only[look];rw[Ad (λe=>hc (by rw[show c=b by omega];exact hb)),Gv hb r]
theorem Xx{L:Al}{t:Nat}{τ:Nat->Nat}:∀ l,∀ p∈N7 L t τ l,t<=p.1
 |[],p,hp=>by cases hp
 |(c,k)::r,p,hp=>by
  unfold N7 at hp
  by_cases hc:c∈L
  .rw[Ac hc]at hp;exact Xx r p hp
  .rw[Ad hc]at hp
   rcases AvK.1 hp with rfl|hp
   .omega
   .exact Xx r p hp
theorem Nw{S:Mw}(hm:Nr S){D:DF}(hD:Ca S D):SB S (callD D):=by
 intro args μ F w H us hr hH hw hfr r' H' ft h;unfold callD at h;obtain⟨L,H1,f1,f2,h1,h⟩:=bind_some h;obtain⟨e1,hT⟩:=OG _ _ _ _ h1;rw[e1]at h;obtain⟨bs,H2,f3,f4,h2,h⟩:=bind_some h;obtain⟨e2,hbl,hbs⟩:=KV _ h2;rw[e2]at h;obtain⟨⟨r,out⟩,H3,f5,f6,h3,h⟩:=bind_some h;obtain⟨hd,e3⟩:=DV h3;rw[e3]at h;simp only at h
 cases c1:QN out.length r.ids with
 |false=>rw[c1]at h;exact(At h).elim
 |true=>
 cases c2:Un out.length out with
 |false=>rw[c1,c2]at h;exact(At h).elim
 |true=>
 rw[c1,c2]at h;obtain⟨n,H4,f7,f8,h4,h⟩:=bind_some h;have h4':n=H.next/\H4=H:=by
  grind [nextB]
 obtain⟨rfl,e4⟩:=h4';rw[e4]at h;obtain⟨rest,H5,f9,f10,h5,h⟩:=bind_some h;obtain⟨_,H6,f11,f12,h6,h⟩:=bind_some h;obtain⟨rfl,rfl⟩:=Au h;clear h h1 h2 h3 h4 e1 e2 e3 e4;have hnd:L.Nodup:=hT.nodup (by simp);have hL:∀ b∈L,∃ k,H.get b=V k/\∀ c∈k.ids,c∈L:=λb hb=>by
  rcases hT.new b hb with h|h
  .cases h
  .exact h
 obtain⟨w1,w2,w3,w4,w5,w6⟩:=N3 L out hnd (λb hb=>(hL b hb).imp λ_ h=>h.1) h5;obtain⟨n1,n2,n3,n4⟩:=RV rest h6;rw[w3]at n1 n3 n4;have hrl:rest.length=out.length-L.length:=by rw[w2];simp
 have hfree:∀ b,H.next<=b->b<H.next+rest.length->H.get b=Δ/\μ b=Δ:=λb g1 g2=>by
  have hb:H.below b:=by
   grind [AH.below]
  exact⟨hw b g1 hb,hfr b g1 hb⟩
 have hLfree:∀ b∈L,¬ (H.next<=b/\b<H.next+rest.length):=λb hb hx=>by
  grind
 obtain⟨hle,t0,ht0,hD⟩:=hD _ _ _ _ hd;rw[Av8,hbl]at hle
 let t:=t0
 let τ:Nat->Nat:=λc=>if c∈L then idx c L else t+c
 let μK:Mu:=λc=>if c<L.length then(L[c]?).bind μ else if c<t then Δ else μ (c-t)
 have hLt:L.length<=t:=Awe w1 ht0;have hτ:∀ c,μK (τ c)=μ c:=λc=>by
  show μK (if c∈L then idx c L else t+c)=_
  by_cases hc:c∈L
  .rw[Ac hc]
   show (if idx c L<L.length then _ else _)=_
   rw[Ac (MS hc),Eg hc];rfl
  .grind
 have hτL:∀ c∈L,τ c=idx c L:=λc hc=>Ac hc
 have hτidx:∀ c∈L,μK (idx c L)=μ c:=λc hc=>by rw[←hτL c hc];exact hτ c
 have hbs':∀ i b,L[i]? = V b->∃ k,H.get b=V k/\(bs.map (ABlk.ren λb=>idx b L))[i]? = V (k.ren λb=>idx b L)/\∀ c∈k.ids,c∈L:=λi b hb=>by
  obtain⟨k,q1,q2⟩:=hbs i b hb;obtain⟨k',q3,q4⟩:=hL b (Awx hb);rw[q2]at q3
  cases q3
  exact⟨k,q2,by rw[AwC,q1];rfl,q4⟩
 have hargs:RepList μK F w (IH (λb=>idx b L) args) us:=(Cp args us λc hc=>hτidx c (hT.todo c hc)).2 hr;have hHK:HRep μK F w (λb=>if b<t then(bs.map (ABlk.ren λb=>idx b L))[b]? else look b (N7 L t τ H.bs)):=by
  refine Pn (λc=>if c<L.length then(L[c]?).getD 0 else c-t) hH ?_ ?_
  .intro b b' k k' hk hk' he
   have cls:∀ b k,(if b<t then(bs.map (ABlk.ren λb=>idx b L))[b]? else look b (N7 L t τ H.bs))=V k->(∃ c,L[b]? = V c/\(if b<L.length then(L[b]?).getD 0 else b-t)=c)\/(t<=b/\b-t∉L/\(if b<L.length then(L[b]?).getD 0 else b-t)=b-t):=λb k hk=>by
    by_cases hbt:b<t
    .grind
    .rw[Ad hbt]at hk
     refine .inr ⟨by omega,λhc=>?_,by rw[Ad (by omega)]⟩;have:=Gv (t:=t) (τ:=τ) hc H.bs;rw[show t+(b-t)=b by omega]at this;rw[this]at hk;cases hk
   rcases cls b k hk with⟨c,a1,a2⟩|⟨a1,a2,a3⟩<;>rcases cls b' k' hk' with⟨c',d1,d2⟩|⟨d1,d2,d3⟩
   .rw[a2,d2]at he
    subst he;exact(Ax7 (Av9.1 a1).1 hnd).1 (a1.trans d1.symm)
   .grind
   .grind
   .rw[a3,d3]at he
    omega
  .intro b k₂ hk₂
   by_cases hbt:b<t
   .rw[Ac hbt,AwC]at hk₂
    cases e:bs[b]? with
    |none=>rw[e]at hk₂;cases hk₂
    |some k0=>
     have hbL:b<L.length:=by rw[←hbl];exact(Av9.1 e).1
     have hLb:L[b]? = V L[b]:=List.getElem?_eq_getElem hbL;obtain⟨k,q1,q2,q3⟩:=hbs' b _ hLb;rw[AwC,e]at q2;rw[e]at hk₂;simp only[AvP,ξ]at q2 hk₂;rw[q2]at hk₂;subst hk₂;refine⟨k,by rw[Ac hbL,hLb];exact q1,?_,DP _ _,λp hB=>(D8 λc hc=>hτidx c (q3 c hc)).2 hB⟩
     show (if b<L.length then(L[b]?).bind μ else _)=_
     rw[Ac hbL,Ac hbL,hLb];rfl
   .rw[Ad hbt]at hk₂
    have hbn:b-t∉L:=λhc=>by
     have:=Gv (t:=t) (τ:=τ) hc H.bs;rw[show t+(b-t)=b by omega]at this;rw[this]at hk₂;cases hk₂
    have:=LD (t:=t) (τ:=τ) hbn H.bs;rw[show t+(b-t)=b by omega,hk₂]at this
    cases e:look (b-t) H.bs with
    |none=>rw[e]at this;cases this
    |some k=>
     rw[e]at this;simp only[AvP,ξ]at this;subst this;refine⟨k,by rw[Ad (by omega)];exact e,?_,DP _ _,λp hB=>(D8 λc _=>hτ c).2 hB⟩
     show (if b<L.length then _ else if b<t then _ else _)=_
     rw[Ad (by omega),Ad hbt,Ad (by omega)]
 have hμK:∀ b,(bs.map (ABlk.ren λb=>idx b L)).length<=b->b<t->μK b=Δ:=λb g1 g2=>by
  grind
 refine hm _ _ _ _ (hD t (η _) μK F w (N7 L t τ H.bs) us (Xx _) hargs hHK hμK) ?_;rintro u w' ⟨μ',F',g1,g2,g3,g4,g5⟩;rw[Av8,hbl]at g5
 let μf:Mu:=λb=>if H.next<=b/\b<H.next+rest.length then μ' (L.length+(b-H.next)) else μ b
 have hμold:∀ c,¬ (H.next<=c/\c<H.next+rest.length)->μf c=μ c:=λc hc=>Ad hc
 have hμL:∀ c∈L,μf c=μ' (idx c L):=λc hc=>by
  grind [MS]
 have hσ:∀ c,c<out.length->μf (Iw L H.next c)=μ' c:=λc hc=>by
  unfold Iw;rw[Z0]
  cases e:L[c]? with
  |some b=>
   have hb:=Awx e;simp only;rw[hμL b hb];have:=(Ax7 (MS hb) hnd).1 ((Eg hb).trans e.symm);rw[this]
  |none=>
   have hcl:L.length<=c:=List.getElem?_eq_none_iff.1 e;simp only
   show (if H.next<=H.next+(c-L.length)/\H.next+(c-L.length)<H.next+rest.length then _ else _)=_
   rw[Ac (by omega),show L.length+(H.next+(c-L.length)-H.next)=c by omega]
 have hfar:∀ c p,μ c=V p->μf c=μ' (τ c):=λc p hp=>by
  have hc:¬ (H.next<=c/\c<H.next+rest.length):=λhx=>by rw[(hfree c hx.1 hx.2).2]at hp;cases hp
  rw[hμold c hc];have h1:μK (τ c)=V p:=(hτ c).trans hp;rw[hp,g3.mu _ _ h1]
 have hget:∀ b,H'.get b=if H.next<=b/\b<H.next+rest.length then Jv H5 (Iw L H.next) rest[b-H.next]? b else H5.get b:=n4
 refine⟨μf,F',(JI r u λc hc=>hσ c (SI c1 c hc)).2 g1,?_,⟨λb p hp=>?_,g3.prot⟩,g4,λb hb=>?_⟩
 .-- the heap
  let f:Nat->Nat:=λb=>if b∈L then idx b L else if H.next<=b/\b<H.next+rest.length then L.length+(b-H.next) else t+b
  have f1:∀ b,b∈L->f b=idx b L:=λb hb=>Ac hb
  have f2:∀ b,H.next<=b->b<H.next+rest.length->f b=L.length+(b-H.next):=λb h1 h2=>by
   grind
  have f3:∀ b,b∉L->¬ (H.next<=b/\b<H.next+rest.length)->f b=t+b:=λb h1 h2=>by
   show (if b∈L then _ else if _ then _ else _)=_
   rw[Ad h1,Ad h2]
  refine Pn f g2 ?_ ?_
  .intro b b' k k' _ _ he
   have cls:∀ b,(b∈L/\f b=idx b L/\f b<L.length)\/((H.next<=b/\b<H.next+rest.length)/\f b=L.length+(b-H.next))\/f b=t+b:=λb=>by
    by_cases h1:b∈L
    .grind [MS]
    .grind
   rcases cls b with⟨a1,a2,a3⟩|⟨a1,a2⟩|a1<;>rcases cls b' with⟨d1,d2,d3⟩|⟨d1,d2⟩|d1<;>try omega
   have:=Eg a1;rw[←a2,he,d2,Eg d1]at this;exact(Option.some.inj this).symm
  .intro b k₂ hk₂
   rw[hget]at hk₂
   by_cases hbL:b∈L
   .rw[Ad (hLfree b hbL),w5 _ b (Eg hbL)]at hk₂
    have hlt:idx b L<t:=Nat.lt_of_lt_of_le (MS hbL) hLt;obtain⟨k,q1,q2,q3⟩:=hbs' _ b (Eg hbL);rw[f1 b hbL]
    cases e:out[idx b L]? with
    |none=>rw[e]at hk₂;cases hk₂
    |some o=>
     rw[e]at hk₂
     cases o with
     |del=>cases hk₂
     |keep=>
      simp only[Jv]at hk₂;rw[q1]at hk₂;have hkk:=Option.some.inj hk₂;rw[←hkk];exact⟨k.ren λb=>idx b L,by rw[Ac hlt];unfold E4;rw[e];exact q2,hμL b hbL,(DP _ _).symm,λp hB=>(D8 λc hc=>(hμL c (q3 c hc)).symm).1 hB⟩
     |set k0=>
      simp only[Jv,ξ]at hk₂;subst hk₂;exact⟨k0,by rw[Ac hlt];unfold E4;rw[e],hμL b hbL,DP _ _,λp hB=>(D8 λc hc=>hσ c (SJ c2 _ (Awx e) c hc)).2 hB⟩
   .by_cases hx:H.next<=b/\b<H.next+rest.length
    .rw[Ac hx]at hk₂
     rw[f2 b hx.1 hx.2];have hlt:L.length+(b-H.next)<t:=by omega
     have hor:rest[b-H.next]? = out[L.length+(b-H.next)]?:=by rw[w2,List.getElem?_drop]
     rw[hor]at hk₂;have hμb:μf b=μ' (L.length+(b-H.next)):=Ac hx
     cases e:out[L.length+(b-H.next)]? with
     |none=>rw[e]at hk₂;cases hk₂
     |some o=>
      rw[e]at hk₂
      cases o with
      |del=>cases hk₂
      |keep=>
       simp only[Jv]at hk₂;rw[w6 b hbL,(hfree b hx.1 hx.2).1]at hk₂
       cases hk₂
      |set k0=>
       simp only[Jv,ξ]at hk₂;subst hk₂;exact⟨k0,by rw[Ac hlt];unfold E4;rw[e],hμb,DP _ _,λp hB=>(D8 λc hc=>hσ c (SJ c2 _ (Awx e) c hc)).2 hB⟩
    .rw[Ad hx,w6 b hbL]at hk₂
     rw[f3 b hbL hx];have hk0:look (t+b) (N7 L t τ H.bs)=V (k₂.ren τ):=by
      rw[LD hbL]
      show (H.get b).map _=_
      rw[hk₂];rfl
     obtain⟨p0,hp0,hB0⟩:=hH.blk b k₂ hk₂;refine⟨k₂.ren τ,by rw[Ad (by omega)];exact hk0,?_,(DP _ _).symm,λp hB=>(D8 λc hc=>?_).1 hB⟩
     .grind
     .obtain⟨q,hq⟩:=OV hB0 c hc
      exact(hfar c q hq).symm
 .grind
 .exact hμold b (by omega)
theorem Loc.frzA(own:List (Nat × Nat))(f:Nat):∀(i:Nat) (l:Ab),Loc (frzA own f i l)
 |_,[]=>Loc.ret _
 |i,x::r=>by
  unfold Go.Proofs.YtlmhajfbpplpoaaGreat.frzA;split
  .exact Loc.bind (Loc.frzA own f _ r) λ_=>Loc.ret _
  .exact Loc.bind (Loc.frz _ _) λ_=>Loc.bind (Loc.frzA own f _ r) λ_=>Loc.ret _
theorem KG(own:List (Nat × Nat))(f:Nat):∀(i:Nat) (l:Ab) {μ:Mu} {F:AQ} {w:World} {H:AH} {us:AN} {y:Ab} {H':AH} {ft:Foot},RepList μ F w l us->HRep μ F w H.get->H.wf->frzA own f i l H=V (y,H',ft)->Gh μ F w H H' λμ' F'=>RepList μ' F' w y us
 |i,[],μ,F,w,H,us,y,H',ft,hx,hH,hw,h=>by
  unfold frzA at h;obtain⟨rfl,rfl⟩:=Au h;exact Gh.same hH hx
 |i,x::r,μ,F,w,H,us,y,H',ft,hx,hH,hw,h=>by
  unfold frzA at h;simp only[RepList]at hx;obtain⟨u,t,rfl,hu,ht⟩:=hx
  cases e:Af3 own f i with
  |true=>
   rw[e]at h;obtain⟨r',H2,f3,f4,h3,h4⟩:=bind_some h;obtain⟨rfl,rfl⟩:=Au h4;refine(KG own f (i+1) r ht hH hw h3).mono λμ2 F2 l2 hr2=>?_
   simp only[RepList];exact⟨u,t,rfl,hu.later l2,hr2⟩
  |false=>
   rw[e]at h;obtain⟨x',H1,f1,f2,h1,h2⟩:=bind_some h;obtain⟨r',H2,f3,f4,h3,h4⟩:=bind_some h2;obtain⟨rfl,rfl⟩:=Au h4;obtain⟨n1,w1⟩:=UH 1000 x hw h1;have n2:=(Loc.frzA own f (i+1) r _ _ _ _ w1 h3).next;refine Gh.trans n1 n2 (JB 1000 x hu hH hw h1) λμ1 F1 l1 hH1 _ hx1=>?_
   refine(KG own f (i+1) r (ht.later' l1) hH1 w1 h3).mono λμ2 F2 l2 hr2=>?_
   simp only[RepList];exact⟨u,t,rfl,hx1.later l2,hr2⟩
def CW(P:Program)(f:FuncId):Mw:=λus w Q=>Calls P f us.toArray w λe w'=>∃ u,e=.returned u/\Q u w'
theorem CV(P:Program)(f:FuncId):Nr (CW P f):=λ_ _ _ _ h k=>Calls.mono h λ_ w' ⟨u,h1,h2⟩=>⟨u,h1,k u w' h2⟩
theorem Post.ghost{μ μ1:Mu}{F F1:AQ}{w w':World}{H H1 H':AH}{r:AV}{u:Value}(hn:H.next<=H1.next)(hn':H1.next<=H'.next)(h1:Later μ μ1 F F1 w w)(h2:∀ b,(b<H.next\/H1.next<=b)->μ1 b=μ b)(h:Post μ1 F1 w H1 r H' u w'):Post μ F w H r H' u w':=by
 obtain⟨μ2,F2,k1,k2,k3,k4,k5⟩:=h;exact⟨μ2,F2,k1,k2,h1.trans k3,k4.less λg o hg=>(h1.prot g o hg).1,λb hb=>by rw[k5 b (by omega),h2 b (by omega)]⟩
theorem SQ{P:Program}{D:Orc}(own:List (Nat × Nat))(hD:∀ f,Ca (CW P f) (D.ask (.fn f))):Hq P (callsM D own):=by
 intro f args μ F w H us hv hH hw hf r H' ft h;unfold callsM at h;obtain⟨l,H1,f1,f2,h1,h2⟩:=bind_some h;have L1:=Loc.frzA own f 0 args _ _ _ _ hw h1;obtain⟨μ1,F1,g1,g2,g3,g4⟩:=KG own f 0 args hv hH hw h1;have L2:=Loc.callD (D.ask (.fn f)) l _ _ _ _ L1.wf h2;have:=Nw (CV P f) (hD f) l μ1 F1 w H1 us.toList g4 g2 L1.wf (BW hf L1.next L1.top g3) r H' f2 h2;have:=CV P f _ _ _ _ this λu w' hp=>Post.ghost L1.next L2.next g1 g3 hp
 exact this
theorem Loc.callsM(D:Orc)(own:List (Nat × Nat))(f:FuncId)(args:Ab):Loc (callsM D own f args):=Loc.bind (Loc.frzA _ _ _ _) λ_=>Loc.callD _ _
theorem Jd{μ:Mu}{F:AQ}{w:World}:∀{m:List Bool} {T:Ab} {us:AN},RepList μ F w T us->RepList μ F w (CE m T) (CE m us)
 |true::l,x::r,us,h=>by
  simp only[RepList]at h;obtain⟨u,t,rfl,h2,h3⟩:=h;simp only[CE,RepList];exact⟨u,_,rfl,h2,Jd h3⟩
 |false::l,x::r,us,h=>by
  simp only[RepList]at h;obtain⟨u,t,rfl,h2,h3⟩:=h;simp only[CE];exact Jd h3
 |[],x::r,us,h=>by simp only[CE,RepList]
 |[],[],us,h=>by simp only[CE,RepList]
 |_::_,[],us,h=>by
  grind [RepList,CE]
theorem F8{μ:Mu}{F:AQ}{w:World}:∀(m:List Bool) (us:AN) {xs:Ab},RepList μ F w xs (CE m us)->RepList μ F w (Ce m us.length xs) us
 |_,[],xs,_=>by
  grind [RepList,Ce]
 |true::l,u::us,xs,h=>by
  simp only[CE]at h
  cases xs with
  |nil=>simp only[RepList]at h;cases h
  |cons x xs=>
   simp only[RepList]at h;obtain⟨u',t,e,h2,h3⟩:=h;simp only[List.cons.injEq]at e;obtain⟨rfl,rfl⟩:=e;simp only[ε,Ce,RepList];exact⟨u,us,rfl,h2,F8 l us h3⟩
 |false::l,u::us,xs,h=>by
  simp only[CE]at h;simp only[ε,Ce,RepList];exact⟨u,us,rfl,trivial,F8 l us h⟩
 |[],u::us,xs,h=>by
  simp only[ε,Ce,RepList];refine⟨u,us,rfl,trivial,F8 [] us (xs:=[]) ?_⟩
  cases us<;>simp only[CE,RepList]
theorem Dm:∀(m:List Bool) (n:Nat) (xs:Ab),(Ce m n xs).length=n
 |_,0,_=>by cases ‹List Bool›<;>simp[Ce]
 |true::l,n+1,x::xs=>by simp[Ce,Dm l n xs]
 |true::l,n+1,[]=>by simp[Ce,Dm l n []]
 |false::l,n+1,xs=>by simp[Ce,Dm l n xs]
 |[],n+1,xs=>by simp[Ce,Dm [] n []]
theorem Q3{μ:Mu}{F:AQ}{w:World}{H:AH}(hH:HRep μ F w H.get)(hb:H.below H.next)(hf:B3 μ H) :
  HRep (μ.set H.next ⟨0,0,0⟩) F w (AH.get ⟨(H.next,⟨[],U,U⟩)::H.bs,H.next+1,H.top⟩)/\Later μ (μ.set H.next ⟨0,0,0⟩) F F w w:=by
 have hμ:μ H.next=Δ:=hf H.next (η _) hb;have hl:Later μ (μ.set H.next ⟨0,0,0⟩) F F w w:=⟨λb p hp=>by
  unfold Mu.set;rw[Ad (λe=>by rw[e,hμ]at hp;cases hp)];exact hp,λg o hg=>⟨hg,rfl⟩⟩
 refine⟨?_,hl⟩;have get:∀ b,AH.get ⟨(H.next,⟨[],U,U⟩)::H.bs,H.next+1,H.top⟩ b=if b=H.next then V ⟨[],U,U⟩ else H.get b:=λb=>EX _ _ _ _ _ _
 have emp:∀ i,¬ (⟨[],U,U⟩:ABlk).owns 0 i:=λi h=>by
  grind [ABlk.owns]
 have old:∀{b:Nat} {p:Pl},b≠H.next->(μ.set H.next ⟨0,0,0⟩) b=V p->μ b=V p:=λ{b p} hb h=>by
  grind [Mu.set]
 have new:∀{p:Pl},(μ.set H.next ⟨0,0,0⟩) H.next=V p->p=⟨0,0,0⟩:=λ{p} h=>by
  unfold Mu.set at h;rw[Ac rfl]at h;exact(Option.some.inj h).symm
 refine⟨λb k hk=>?_,λb b' k k' p p' hne hk hk' hp hp' i i' ho ho'=>?_,hH.prot⟩
 .rw[get]at hk
  by_cases e:b=H.next
  .rw[Ac e]at hk
   cases hk
   refine⟨⟨0,0,0⟩,by unfold Mu.set;rw[Ac e],⟨λi x hx=>(by simp at hx),η _,λi hi=>absurd hi (Nat.not_lt_zero _),λh=>(by cases h),λi hi=>absurd hi (emp i),λ_=>rfl⟩⟩
  .rw[Ad e]at hk
   obtain⟨p,hp,hB⟩:=hH.blk b k hk;exact⟨p,hl.mu b p hp,hB.step hl (WStep.refl _ _) (λ_ _ _=>rfl) hB.free⟩
 .rw[get]at hk hk'
  by_cases e:b=H.next
  .grind
  .by_cases e':b'=H.next
   .grind
   .rw[Ad e]at hk
    rw[Ad e']at hk';exact hH.apart b b' k k' p p' hne hk hk' (old e hp) (old e' hp') i i' ho ho'
theorem Acu{μ:Mu}{F:AQ}{w:World}{H:AH}{b:Nat}{k:ABlk}{p:Pl}(hH:HRep μ F w H.get)(hk:H.get b=V k)(hp:μ b=V p)(hb:(H.del b).below H.next)(hf:B3 μ H) :
  HRep (μ.set H.next p) F w (AH.get ⟨(H.next,k)::(H.del b).bs,H.next+1,H.top⟩)/\Later μ (μ.set H.next p) F F w w:=by
 have hμ:μ H.next=Δ:=hf H.next (η _) hb;have hl:Later μ (μ.set H.next p) F F w w:=⟨λc q hq=>by
  unfold Mu.set;rw[Ad (λe=>by rw[e,hμ]at hq;cases hq)];exact hq,λg o hg=>⟨hg,rfl⟩⟩
 refine⟨?_,hl⟩;have get:∀ c,AH.get ⟨(H.next,k)::(H.del b).bs,H.next+1,H.top⟩ c=if c=H.next then V k else if c=b then Δ else H.get c:=λc=>by
  rw[EX,AH.get_del]
 have old:∀{c:Nat} {q:Pl},c≠H.next->(μ.set H.next p) c=V q->μ c=V q:=λ{c q} hc h=>by
  grind [Mu.set]
 have new:∀{q:Pl},(μ.set H.next p) H.next=V q->q=p:=λ{q} h=>by
  unfold Mu.set at h;rw[Ac rfl]at h;exact(Option.some.inj h).symm
 have src:∀ c kc,AH.get ⟨(H.next,k)::(H.del b).bs,H.next+1,H.top⟩ c=V kc->∃ c0,H.get c0=V kc/\(∀ q,(μ.set H.next p) c=V q->μ c0=V q)/\(μ.set H.next p) c=μ c0/\(c=H.next/\c0=b\/c≠H.next/\c≠b/\c0=c):=λc kc h=>by
  rw[get]at h
  by_cases e:c=H.next
  .rw[Ac e]at h
   cases h
   refine⟨b,hk,λq hq=>?_,?_,.inl ⟨e,rfl⟩⟩
   .grind
   .grind [Mu.set]
  .rw[Ad e]at h
   by_cases e2:c=b
   .grind
   .rw[Ad e2]at h
    refine⟨c,h,λq hq=>old e hq,?_,.inr ⟨e,e2,rfl⟩⟩;unfold Mu.set;rw[Ad e]
 refine⟨λc kc hc=>?_,λc c' kc kc' q q' hne hc hc' hq hq' i i' ho ho'=>?_,hH.prot⟩
 .obtain⟨c0,h0,h1,h2,_⟩:=src c kc hc
  obtain⟨q,hq,hB⟩:=hH.blk c0 kc h0;exact⟨q,by rw[h2];exact hq,hB.step hl (WStep.refl _ _) (λ_ _ _=>rfl) hB.free⟩
 .obtain⟨c0,h0,h1,_,h3⟩:=src c kc hc
  obtain⟨c0',h0',h1',_,h3'⟩:=src c' kc' hc';refine hH.apart c0 c0' kc kc' q q' ?_ h0 h0' (h1 q hq) (h1' q' hq') i i' ho ho';intro e;rcases h3 with⟨e1,e2⟩|⟨e1,e2,e3⟩<;>rcases h3' with⟨e1',e2'⟩|⟨e1',e2',e3'⟩
  .omega
  .omega
  .omega
  .omega
theorem Mq(x:AV){μ:Mu}{F:AQ}{w:World}{H:AH}{u:Value}{y:AV}{H1:AH}{ft:Foot}(hx:Rep μ F w x u)(hH:HRep μ F w H.get)(hw:H.wf)(hf:B3 μ H)(h:touchS x H=V (y,H1,ft)):Gh μ F w H H1 λμ' F'=>Rep μ' F' w y u:=by
 unfold touchS at h;split at h
 .rename_i b o n e
  obtain⟨k,H2,f1,f2,h1,h2⟩:=bind_some h;obtain⟨hk,e1⟩:=BY h1;rw[e1]at h2
  cases ex:k.ex with
  |false=>
   rw[ex]at h2;obtain⟨rfl,rfl⟩:=Au h2;exact Gh.same hH hx
  |true=>
   rw[ex]at h2;obtain⟨_,H3,f3,f4,h3,h4⟩:=bind_some h2;obtain⟨c,H4,f5,f6,h5,h6⟩:=bind_some h4;obtain⟨rfl,rfl⟩:=Au h6;have e3:H3=H.del b:=by
    grind [AM.delB]
   subst e3;obtain⟨b1,b2⟩:=E1 h5;simp only[Prod.mk.injEq]at b2;obtain⟨rfl,rfl,_⟩:=b2;simp only[Rep]at hx;obtain⟨p,hp,hu⟩:=hx;obtain⟨g1,g2⟩:=Acu hH hk hp b1 hf;refine⟨μ.set H.next p,F,g2,g1,λc hc=>?_,?_⟩
   .unfold Mu.set
    have hc:c<H.next\/H.next+1<=c:=hc;rw[Ad (by omega)]
   .simp only[Rep]
    refine⟨p,?_,hu⟩
    show (μ.set H.next p) H.next=V p
    unfold Mu.set;rw[Ac rfl]
 .grind [Gh.same,Au]
theorem Gh.fresh{μ:Mu}{F:AQ}{w:World}{H H1:AH}{Q:Mu->AQ->Prop}(hf:B3 μ H)(hn:H.next<=H1.next)(ht:H1.top=H.top)(h:Gh μ F w H H1 Q):Gh μ F w H H1 λμ' F'=>Q μ' F'/\B3 μ' H1:=by
 obtain⟨μ',F',h1,h2,h3,h4⟩:=h;exact⟨μ',F',h1,h2,h3,h4,BW hf hn ht h3⟩
theorem Iq:∀(l:Ab) {μ:Mu} {F:AQ} {w:World} {H:AH} {us:AN} {y:Ab} {H1:AH} {ft:Foot},RepList μ F w l us->HRep μ F w H.get->H.wf->B3 μ H->touchL l H=V (y,H1,ft)->Gh μ F w H H1 λμ' F'=>RepList μ' F' w y us
 |[],μ,F,w,H,us,y,H1,ft,hx,hH,hw,hf,h=>by
  obtain⟨rfl,rfl⟩:=Au h;exact Gh.same hH hx
 |x::r,μ,F,w,H,us,y,H1,ft,hx,hH,hw,hf,h=>by
  unfold touchL at h;obtain⟨x',H2,f1,f2,h1,h2⟩:=bind_some h;obtain⟨r',H3,f3,f4,h3,h4⟩:=bind_some h2;obtain⟨rfl,rfl⟩:=Au h4;simp only[RepList]at hx;obtain⟨u,t,rfl,hu,ht⟩:=hx;have L1:=Loc.touchS x _ _ _ _ hw h1;have L2:=Loc.touchL r _ _ _ _ L1.wf h3;refine Gh.trans L1.next L2.next (Gh.fresh hf L1.next L1.top (Mq x hu hH hw hf h1)) λμ1 F1 l1 hH1 _ hx1=>?_
  refine(Iq r (ht.later' l1) hH1 L1.wf hx1.2 h3).mono λμ2 F2 l2 hr2=>?_
  simp only[RepList];exact⟨u,t,rfl,hx1.1.later l2,hr2⟩
theorem G4{μ:Mu}{F:AQ}{w:World}{H:Nat->Option ABlk}{b:Nat}{k k':ABlk}{p:Pl}(hH:HRep μ F w H)(hk:H b=V k)(hp:μ b=V p)(hs:Shape k k')(hB:BRep μ F w p k'):HRep μ F w λc=>if c=b then V k' else H c:=by
 have src:∀{c:Nat} {kc:ABlk},(if c=b then V k' else H c)=V kc->∃ k0,H c=V k0/\∀ room i,kc.owns room i->k0.owns room i:=λ{c kc} h=>by
  by_cases e:c=b
  .rw[Ac e]at h
   cases h
   exact⟨k,by rw[e];exact hk,λroom i=>(hs.owns room i).1⟩
  .grind
 refine⟨λc kc hc=>?_,λc c' kc kc' q q' hne hc hc' hq hq' i i' ho ho'=>?_,hH.prot⟩
 .have hc:(if c=b then V k' else H c)=V kc:=hc
  by_cases e:c=b
  .grind
  .rw[Ad e]at hc
   exact hH.blk c kc hc
 .obtain⟨k0,h0,h1⟩:=src hc
  obtain⟨k0',h0',h1'⟩:=src hc';exact hH.apart c c' k0 k0' q q' hne h0 h0' hq hq' i i' (h1 _ _ ho) (h1' _ _ ho')
theorem T8(b:Nat){μ:Mu}{F:AQ}{w:World}{H:AH}{y:Unit}{H1:AH}{ft:Foot}(hH:HRep μ F w H.get)(hw:H.wf)(hf:B3 μ H)(h:touchB b H=V (y,H1,ft)):Gh μ F w H H1 λ_ _=>True:=by
 unfold touchB at h;obtain⟨k,H2,f1,f2,h1,h2⟩:=bind_some h;obtain⟨hk,e1⟩:=BY h1;rw[e1]at h2
 cases kex:k.ex<;>cases kst:k.st<;>rw[kex,kst]at h2<;>try (obtain⟨_,rfl⟩:=Au h2;exact Gh.same hH trivial)
 rotate_left
 .obtain⟨e5,_⟩:=Hg h2
  obtain⟨p,hp,hB⟩:=hH.blk b k hk;refine⟨μ,F,Later.refl _ _ _,?_,λ_ _=>rfl,trivial⟩;have:H1.get=λc=>if c=b then V k else H.get c:=by
   funext c
   rw[e5,AH.get_put]
  rw[this];exact G4 hH hk hp ⟨rfl,rfl,rfl⟩ hB
 obtain⟨cs,H3,f3,f4,h3,h4⟩:=bind_some h2;obtain⟨k2,H4,f5,f6,h5,h6⟩:=bind_some h4;obtain⟨hk2,e4⟩:=BY h5;rw[e4]at h6
 cases hex:k2.ex<;>cases hlen:Av5 cs.length k2.cells.length<;>rw[hex,hlen]at h6<;>try exact(At h6).elim
 obtain⟨e5,_⟩:=Hg h6;have hlen':cs.length=k2.cells.length:=AvY hlen;obtain⟨p,hp,hB⟩:=hH.blk b k hk;obtain⟨us,r1,r2⟩:=DN (g:=p.g) (cs:=k.cells) (o:=p.o) (μ:=μ) (F:=F) (w:=w) hB.cell;have L1:=Loc.touchL k.cells _ _ _ _ hw h3;have hG:=Iq k.cells r1 hH hw hf h3;have hn3:H3.next<=H1.next:=by rw[e5];exact η _
 refine Gh.trans L1.next hn3 hG λμ1 F1 l1 hH1 _ hr1=>?_
 have hp1:=l1.mu _ _ hp;obtain⟨p2,hp2,hB2⟩:=hH1.blk b k2 hk2;rw[hp1]at hp2
 cases hp2
 have hs:Shape k2 { k2 with cells:=cs }:=⟨hlen',rfl,rfl⟩;have hBn:BRep μ1 F1 w p { k2 with cells:=cs }:=Hv hs hB2 (λi x hi=>by
  obtain⟨v,v1,v2⟩:=hr1.get hi;exact⟨v,r2 i v v1,v2⟩) λhe=>absurd (hex.symm.trans he) (by simp)
 refine⟨μ1,F1,Later.refl _ _ _,?_,λ_ _=>rfl,trivial⟩;have:H1.get=λc=>if c=b then V { k2 with cells:=cs } else H3.get c:=by
  funext c
  rw[e5,AH.get_put,hex]
 rw[this];exact G4 hH1 hk2 hp1 hs hBn
theorem Es:∀(l:Al) {μ:Mu} {F:AQ} {w:World} {H:AH} {y:Unit} {H1:AH} {ft:Foot},HRep μ F w H.get->H.wf->B3 μ H->touchI l H=V (y,H1,ft)->Gh μ F w H H1 λ_ _=>True
 |[],μ,F,w,H,y,H1,ft,hH,hw,hf,h=>by
  obtain⟨_,rfl⟩:=Au h;exact Gh.same hH trivial
 |b::r,μ,F,w,H,y,H1,ft,hH,hw,hf,h=>by
  unfold touchI at h;obtain⟨_,H2,f1,f2,h1,h2⟩:=bind_some h;have L1:=Loc.touchB b _ _ _ _ hw h1;have L2:=Loc.touchI r _ _ _ _ L1.wf h2;exact Gh.trans L1.next L2.next (Gh.fresh hf L1.next L1.top (T8 b hH hw hf h1)) λμ1 F1 l1 hH1 _ hx1=>Es r hH1 L1.wf hx1.2 h2
theorem T9(x:AV){μ:Mu}{F:AQ}{w:World}{H:AH}{u:Value}{y:AV}{H1:AH}{ft:Foot}(hx:Rep μ F w x u)(hH:HRep μ F w H.get)(hw:H.wf)(hf:B3 μ H)(h:touchV x H=V (y,H1,ft)):Gh μ F w H H1 λμ' F'=>Rep μ' F' w y u:=by
 unfold touchV at h;split at h
 .grind [Mq]
 .obtain⟨cs',H2,f1,f2,h1,h2⟩:=bind_some h
  obtain⟨_,H3,f3,f4,h3,h4⟩:=bind_some h2;obtain⟨rfl,rfl⟩:=Au h4;simp only[Rep]at hx;obtain⟨us,rfl,hr⟩:=hx;have L1:=Loc.touchL _ _ _ _ _ hw h1;have L2:=Loc.touchI _ _ _ _ _ L1.wf h3;refine Gh.trans L1.next L2.next (Gh.fresh hf L1.next L1.top (Iq _ hr hH hw hf h1)) λμ1 F1 l1 hH1 _ hx1=>?_
  refine(Es _ hH1 L1.wf hx1.2 h3).mono λμ2 F2 l2 _=>?_
  simp only[Rep];exact⟨us,rfl,hx1.1.later' l2⟩
 .obtain⟨_,H3,f3,f4,h3,h4⟩:=bind_some h
  obtain⟨rfl,rfl⟩:=Au h4;exact(Es _ hH hw hf h3).mono λμ2 F2 l2 _=>hx.later l2
theorem NY{x:AV}{r:Ab}{m:List Bool}(hs:∀{μ:Mu} {F:AQ} {w:World} {H:AH} {us:AN} {y:Ab} {H1:AH} {ft:Foot},RepList μ F w r us->HRep μ F w H.get->H.wf->B3 μ H->touchA m r H=V (y,H1,ft)->Gh μ F w H H1 λμ' F'=>RepList μ' F' w y us)
  {μ:Mu} {F:AQ} {w:World} {H:AH} {us:AN} {y:Ab} {H1:AH} {ft:Foot} (hx:RepList μ F w (x::r) us) (hH:HRep μ F w H.get) (hw:H.wf) (hf:B3 μ H)
  (h:((touchV x).bind λx=>(touchA m r).bind λr=>AM.ret (x::r)) H=V (y,H1,ft)):Gh μ F w H H1 λμ' F'=>RepList μ' F' w y us:=by
 obtain⟨x',H2,f1,f2,h1,h2⟩:=bind_some h;obtain⟨r',H3,f3,f4,h3,h4⟩:=bind_some h2;obtain⟨rfl,rfl⟩:=Au h4;simp only[RepList]at hx;obtain⟨u,t,rfl,hu,ht⟩:=hx;have L1:=Loc.touchV x _ _ _ _ hw h1;have L2:=Loc.touchA m r _ _ _ _ L1.wf h3;refine Gh.trans L1.next L2.next (Gh.fresh hf L1.next L1.top (T9 x hu hH hw hf h1)) λμ1 F1 l1 hH1 _ hx1=>?_
 refine(hs (ht.later' l1) hH1 L1.wf hx1.2 h3).mono λμ2 F2 l2 hr2=>?_
 simp only[RepList];exact⟨u,t,rfl,hx1.1.later l2,hr2⟩
theorem Ft:∀(m:List Bool) (l:Ab) {μ:Mu} {F:AQ} {w:World} {H:AH} {us:AN} {y:Ab} {H1:AH} {ft:Foot},RepList μ F w l us->HRep μ F w H.get->H.wf->B3 μ H->touchA m l H=V (y,H1,ft)->Gh μ F w H H1 λμ' F'=>RepList μ' F' w y us
 |m,[],μ,F,w,H,us,y,H1,ft,hx,hH,hw,hf,h=>by
  have h:AM.ret [] H=V (y,H1,ft):=by
   cases m with
   |nil=>exact h
   |cons b m=>cases b<;>exact h
  obtain⟨rfl,rfl⟩:=Au h;exact Gh.same hH hx
 |true::m,x::r,μ,F,w,H,us,y,H1,ft,hx,hH,hw,hf,h=>by
  unfold touchA at h;obtain⟨_,H2,f1,f2,h1,h2⟩:=bind_some h;obtain⟨r',H3,f3,f4,h3,h4⟩:=bind_some h2;obtain⟨rfl,rfl⟩:=Au h4;simp only[RepList]at hx;obtain⟨u,t,rfl,hu,ht⟩:=hx;have L1:=Loc.touchI _ _ _ _ _ hw h1;have L2:=Loc.touchA m r _ _ _ _ L1.wf h3;refine Gh.trans L1.next L2.next (Gh.fresh hf L1.next L1.top (Es _ hH hw hf h1)) λμ1 F1 l1 hH1 _ hx1=>?_
  refine(Ft m r (ht.later' l1) hH1 L1.wf hx1.2 h3).mono λμ2 F2 l2 hr2=>?_
  simp only[RepList];exact⟨u,t,rfl,(hu.later l1).later l2,hr2⟩
 |false::m,x::r,μ,F,w,H,us,y,H1,ft,hx,hH,hw,hf,h=>by
  unfold touchA at h;exact NY (λa b c d e=>Ft m r a b c d e) hx hH hw hf h
 |[],x::r,μ,F,w,H,us,y,H1,ft,hx,hH,hw,hf,h=>by
  unfold touchA at h;exact NY (λa b c d e=>Ft [] r a b c d e) hx hH hw hf h
theorem XC(b:Nat){μ:Mu}{F:AQ}{w:World}{H:AH}{y:Unit}{H1:AH}{ft:Foot}(hH:HRep μ F w H.get)(hw:H.wf)(h:frzB b H=V (y,H1,ft)):Gh μ F w H H1 λ_ _=>True:=by
 unfold frzB at h;obtain⟨k,H2,f1,f2,h1,h2⟩:=bind_some h;obtain⟨hk,e1⟩:=BY h1;rw[e1]at h2
 cases kex:k.ex<;>cases kst:k.st<;>rw[kex,kst]at h2<;>try (obtain⟨_,rfl⟩:=Au h2;exact Gh.same hH trivial)
 obtain⟨cs,H3,f3,f4,h3,h4⟩:=bind_some h2;obtain⟨k2,H4,f5,f6,h5,h6⟩:=bind_some h4;obtain⟨hk2,e4⟩:=BY h5;rw[e4]at h6
 cases hex:k2.ex<;>cases hlen:Av5 cs.length k2.cells.length<;>rw[hex,hlen]at h6<;>try exact(At h6).elim
 obtain⟨e5,_⟩:=Hg h6;have hlen':cs.length=k2.cells.length:=AvY hlen;obtain⟨p,hp,hB⟩:=hH.blk b k hk;obtain⟨us,r1,r2⟩:=DN (g:=p.g) (cs:=k.cells) (o:=p.o) (μ:=μ) (F:=F) (w:=w) hB.cell;have L1:=Loc.frzL 1000 k.cells _ _ _ _ hw h3;have hG:=FR 1000 k.cells r1 hH hw h3;have hn3:H3.next<=H1.next:=by rw[e5];exact η _
 refine Gh.trans L1.next hn3 hG λμ1 F1 l1 hH1 _ hr1=>?_
 have hp1:=l1.mu _ _ hp;obtain⟨p2,hp2,hB2⟩:=hH1.blk b k2 hk2;rw[hp1]at hp2
 cases hp2
 have hs:Shape k2 { k2 with cells:=cs }:=⟨hlen',rfl,rfl⟩;have hBn:BRep μ1 F1 w p { k2 with cells:=cs }:=Hv hs hB2 (λi x hi=>by
  obtain⟨v,v1,v2⟩:=hr1.get hi;exact⟨v,r2 i v v1,v2⟩) λhe=>absurd (hex.symm.trans he) (by simp)
 refine⟨μ1,F1,Later.refl _ _ _,?_,λ_ _=>rfl,trivial⟩;have:H1.get=λc=>if c=b then V { k2 with cells:=cs } else H3.get c:=by
  funext c
  rw[e5,AH.get_put,hex]
 rw[this];exact G4 hH1 hk2 hp1 hs hBn
theorem EH:∀(l:Al) (T:Ab) {μ:Mu} {F:AQ} {w:World} {H:AH} {us:AN} {T1:Ab} {H1:AH} {ft:Foot},RepList μ F w T us->HRep μ F w H.get->H.wf->frzT l T H=V (T1,H1,ft)->Gh μ F w H H1 λμ' F'=>RepList μ' F' w T1 us
 |[],T,μ,F,w,H,us,T1,H1,ft,hT,hH,hw,h=>by
  obtain⟨rfl,rfl⟩:=Au h;exact Gh.same hH hT
 |t::r,T,μ,F,w,H,us,T1,H1,ft,hT,hH,hw,h=>by
  unfold frzT at h
  cases et:T[t]? with
  |none=>
   rw[et]at h;exact EH r T hT hH hw h
  |some x=>
   rw[et]at h;have gen:((frz 1000 x).bind λy=>frzT r (T.set t y)) H=V (T1,H1,ft)->Gh μ F w H H1 λμ' F'=>RepList μ' F' w T1 us:=λh=>by
    obtain⟨y,H2,f1,f2,h1,h2⟩:=bind_some h;have L1:=Loc.frz 1000 x _ _ _ _ hw h1;have L2:=Loc.frzT r _ _ _ _ _ L1.wf h2;obtain⟨u,hu,hx⟩:=hT.get et;refine Gh.trans L1.next L2.next (JB 1000 x hx hH hw h1) λμ1 F1 l1 hH1 _ hy=>?_
    refine EH r _ (RepList.mk (by simp[hT.length]) λi z hz=>?_) hH1 L1.wf h2;rw[AxM]at hz;split at hz
    .grind
    .obtain⟨v,v1,v2⟩:=hT.get hz
     exact⟨v,v1,v2.later l1⟩
   cases x with
   |ptr b o=>
    obtain⟨_,H2,f1,f2,h1,h2⟩:=bind_some h;have L1:=Loc.frzB b _ _ _ _ hw h1;have L2:=Loc.frzT r _ _ _ _ _ L1.wf h2;exact Gh.trans L1.next L2.next (XC b hH hw h1) λμ1 F1 l1 hH1 _ _=>EH r T (hT.later' l1) hH1 L1.wf h2
   |_=>exact gen h
theorem Gt:∀(l:Al) (T:Ab) {H:AH} {T1:Ab} {H1:AH} {ft:Foot},frzT l T H=V (T1,H1,ft)->T1.length=T.length
 |[],T,H,T1,H1,ft,h=>by
  obtain⟨rfl,rfl⟩:=Au h;rfl
 |t::r,T,H,T1,H1,ft,h=>by
  unfold frzT at h
  cases et:T[t]? with
  |none=>
   rw[et]at h;exact Gt r T h
  |some x=>
   rw[et]at h;have gen:((frz 1000 x).bind λy=>frzT r (T.set t y)) H=V (T1,H1,ft)->T1.length=T.length:=λh=>by
    obtain⟨y,H2,f1,f2,h1,h2⟩:=bind_some h;rw[Gt r _ h2,Awf]
   cases x with
   |ptr b o=>
    obtain⟨_,H2,f1,f2,h1,h2⟩:=bind_some h;exact Gt r T h2
   |_=>exact gen h
theorem O2(b:Nat){μ:Mu}{F:AQ}{w:World}{H:AH}{y:Unit}{H1:AH}{ft:Foot}(hH:HRep μ F w H.get)(h:AM.delB b H=V (y,H1,ft)):Gh μ F w H H1 λ_ _=>True:=by
 have e:H1=H.del b:=by
  grind [AM.delB]
 subst e;refine⟨μ,F,Later.refl _ _ _,⟨λc k hc=>?_,λc c' k k' p p' hne hc hc'=>?_,hH.prot⟩,λ_ _=>rfl,trivial⟩
 .rw[AH.get_del]at hc
  split at hc
  .cases hc
  .exact hH.blk c k hc
 .rw[AH.get_del]at hc hc'
  split at hc
  .cases hc
  .split at hc'
   .cases hc'
   .exact hH.apart c c' k k' p p' hne hc hc'
theorem Xh(b i:Nat){μ:Mu}{F:AQ}{w:World}{H:AH}{y:Unit}{H1:AH}{ft:Foot}(hH:HRep μ F w H.get)(h:delC b i H=V (y,H1,ft)):Gh μ F w H H1 λ_ _=>True:=by
 unfold delC at h;obtain⟨k,H2,f1,f2,h1,h2⟩:=bind_some h;obtain⟨_,e1⟩:=BY h1;rw[e1]at h2;have nop:AM.ret () H=V (y,H1,f2)->Gh μ F w H H1 λ_ _=>True:=λh=>by
  obtain⟨_,rfl⟩:=Au h;exact Gh.same hH trivial
 cases ek:k.cells[i]? with
 |none=>rw[ek]at h2;exact nop h2
 |some x=>
  rw[ek]at h2
  cases x with
  |sl c o n e=>exact O2 _ hH h2
  |_=>exact nop h2
theorem HS:∀(l:Al) (T:Ab) {μ:Mu} {F:AQ} {w:World} {H:AH} {y:Unit} {H1:AH} {ft:Foot},HRep μ F w H.get->H.wf->delT l T H=V (y,H1,ft)->Gh μ F w H H1 λ_ _=>True
 |[],T,μ,F,w,H,y,H1,ft,hH,hw,h=>by
  obtain⟨_,rfl⟩:=Au h;exact Gh.same hH trivial
 |t::r,T,μ,F,w,H,y,H1,ft,hH,hw,h=>by
  have gen:∀ b,((AM.delB b).bind λ_=>delT r T) H=V (y,H1,ft)->Gh μ F w H H1 λ_ _=>True:=λb h=>by
   obtain⟨_,H2,f1,f2,h1,h2⟩:=bind_some h;have L1:=Loc.delB b _ _ _ _ hw h1;have L2:=Loc.delT r T _ _ _ _ L1.wf h2;exact Gh.trans L1.next L2.next (O2 b hH h1) λμ1 F1 l1 hH1 _ _=>HS r T hH1 L1.wf h2
  have gen2:(match Ra T t with
   |some q=>(delC q.1 q.2).bind λ_=>delT r T
   |none=>delT r T) H=V (y,H1,ft)->Gh μ F w H H1 λ_ _=>True:=λh=>by
   cases eq:Ra T t with
   |none=>rw[eq]at h;exact HS r T hH hw h
   |some q=>
    rw[eq]at h;obtain⟨_,H2,f1,f2,h1,h2⟩:=bind_some h;have L1:=Loc.delC q.1 q.2 _ _ _ _ hw h1;have L2:=Loc.delT r T _ _ _ _ L1.wf h2;exact Gh.trans L1.next L2.next (Xh q.1 q.2 hH h1) λμ1 F1 l1 hH1 _ _=>HS r T hH1 L1.wf h2
  unfold delT at h
  cases et:T[t]? with
  |none=>rw[et]at h;exact gen2 h
  |some x=>
   rw[et]at h
   cases x with
   |sl b o n e=>exact gen b h
   |ptr b o=>exact gen b h
   |_=>exact gen2 h
theorem PK{cs:Ab}{i:Nat}(h:Gx cs i=U):cs[i]? = V (.v (.slice Δ 0 0)):=by
 grind [Gx,G5]
theorem QJ(b i e:Nat){μ:Mu}{F:AQ}{w:World}{H:AH}{y:Unit}{H1:AH}{ft:Foot}(hH:HRep μ F w H.get)(hw:H.wf)(hf:B3 μ H)(h:adoptB1 b i e H=V (y,H1,ft)):Gh μ F w H H1 λ_ _=>True:=by
 unfold adoptB1 at h;obtain⟨k,H2,f1,f2,h1,h2⟩:=bind_some h;obtain⟨hk,e1⟩:=BY h1;rw[e1]at h2
 cases kex:k.ex<;>cases knil:Gx k.cells i<;>rw[kex,knil]at h2<;>try (obtain⟨_,rfl⟩:=Au h2;exact Gh.same hH trivial)
 .obtain⟨c,H3,f3,f4,h3,h4⟩:=bind_some h2
  obtain⟨b1,b2⟩:=E1 h3;simp only[Prod.mk.injEq]at b2;obtain⟨rfl,rfl,_⟩:=b2;obtain⟨g1,g2⟩:=Q3 hH b1 hf;have g3:∀ b,(b<H.next\/H.next+1<=b)->(μ.set H.next ⟨0,0,0⟩) b=μ b:=λb hb=>by
   grind [Mu.set]
  obtain⟨k2,H4,f5,f6,h5,h6⟩:=bind_some h4;obtain⟨hk2,e4⟩:=BY h5;rw[e4]at h6
  cases hex:k2.ex<;>cases hnil:Gx k2.cells i<;>rw[hex,hnil]at h6<;>try exact(At h6).elim
  .obtain⟨e5,_⟩:=Hg h6
   have ht:=PK hnil;obtain⟨p2,hp2,hB2⟩:=g1.blk b k2 hk2;have hs:Shape k2 { k2 with cells:=k2.cells.set i (.sl H.next 0 0 e) }:=⟨by simp,rfl,rfl⟩;have hBn:BRep (μ.set H.next ⟨0,0,0⟩) F w p2 { k2 with cells:=k2.cells.set i (.sl H.next 0 0 e) }:=Hv hs hB2 (λj x hx=>by
    simp only at hx;rw[AxM]at hx;split at hx
    .rename_i e6
     subst e6;split at hx
     .simp only[ξ]at hx
      subst hx;obtain⟨u,hu,hr⟩:=hB2.cell _ _ ht;simp only[Rep]at hr;refine⟨u,hu,?_⟩;simp only[Rep];exact⟨⟨0,0,0⟩,by unfold Mu.set;rw[Ac rfl],.inl ⟨trivial,hr.1⟩⟩
     .cases hx
    .exact hB2.cell _ _ hx) λhe=>absurd (hex.symm.trans he) (by simp)
   refine⟨_,F,g2,?_,λc hc=>g3 c (by rw[e5]at hc;exact hc),trivial⟩;have:H1.get=λc=>if c=b then V { k2 with cells:=k2.cells.set i (.sl H.next 0 0 e) } else AH.get ⟨(H.next,⟨[],U,U⟩)::H.bs,H.next+1,H.top⟩ c:=by
    funext c
    rw[e5,AH.get_put,hex]
   rw[this];exact G4 g1 hk2 hp2 hs hBn
theorem X9(b i:Nat){μ:Mu}{F:AQ}{w:World}{H:AH}{y:Unit}{H1:AH}{ft:Foot}(hH:HRep μ F w H.get)(h:nilB b i H=V (y,H1,ft)):Gh μ F w H H1 λ_ _=>True:=by
 unfold nilB at h;obtain⟨k,H2,f1,f2,h1,h2⟩:=bind_some h;obtain⟨hk,e1⟩:=BY h1;rw[e1]at h2
 cases kex:k.ex<;>cases knil:Gx k.cells i<;>rw[kex,knil]at h2<;>try (obtain⟨_,rfl⟩:=Au h2;exact Gh.same hH trivial)
 obtain⟨e5,_⟩:=Hg h2;have ht:=PK knil;obtain⟨p2,hp2,hB2⟩:=hH.blk b k hk;have hs:Shape k { k with cells:=k.cells.set i (.ls []) }:=⟨by simp,rfl,rfl⟩;have hBn:BRep μ F w p2 { k with cells:=k.cells.set i (.ls []) }:=Hv hs hB2 (λj x hx=>by
  simp only at hx;rw[AxM]at hx;split at hx
  .rename_i e6
   subst e6;split at hx
   .simp only[ξ]at hx
    subst hx;obtain⟨u,hu,hr⟩:=hB2.cell _ _ ht;exact⟨u,hu,P8 (z:=.slice Δ 0 0) hr⟩
   .cases hx
  .exact hB2.cell _ _ hx) λhe=>absurd (kex.symm.trans he) (by simp)
 refine⟨μ,F,Later.refl _ _ _,?_,λ_ _=>rfl,trivial⟩;have:H1.get=λc=>if c=b then V { k with cells:=k.cells.set i (.ls []) } else H.get c:=by
  funext c
  rw[e5,AH.get_put,kex]
 rw[this];exact G4 hH hk hp2 hs hBn
theorem SE(b i e:Nat){μ:Mu}{F:AQ}{w:World}{H:AH}{y:Unit}{H1:AH}{ft:Foot}(hH:HRep μ F w H.get)(hw:H.wf)(hf:B3 μ H)(h:adoptB b i e H=V (y,H1,ft)):Gh μ F w H H1 λ_ _=>True:=by
 unfold adoptB at h
 cases he:Av5 e 0 with
 |true=>rw[he]at h;exact X9 b i hH h
 |false=>rw[he]at h;exact QJ b i e hH hw hf h
theorem Fl:∀(l:List (Nat × Nat)) (T:Ab) {μ:Mu} {F:AQ} {w:World} {H:AH} {us:AN} {T1:Ab} {H1:AH} {ft:Foot},RepList μ F w T us->HRep μ F w H.get->H.wf->B3 μ H->adoptM l T H=V (T1,H1,ft)->Gh μ F w H H1 λμ' F'=>RepList μ' F' w T1 us
 |[],T,μ,F,w,H,us,T1,H1,ft,hT,hH,hw,hf,h=>by
  obtain⟨rfl,rfl⟩:=Au h;exact Gh.same hH hT
 | (t,e)::r,T,μ,F,w,H,us,T1,H1,ft,hT,hH,hw,hf,h=>by
  unfold adoptM at h
  cases en:VH T t with
  |true=>
   rw[en]at h;have ht:=AfQ en;obtain⟨b,H2,f1,f2,h1,h2⟩:=bind_some h;have L1:=Loc.newB _ _ _ _ _ hw h1;obtain⟨b1,b2⟩:=E1 h1;simp only[Prod.mk.injEq]at b2;obtain⟨rfl,rfl,_⟩:=b2;obtain⟨g1,g2⟩:=Q3 hH b1 hf;have g3:∀ b,(b<H.next\/H.next+1<=b)->(μ.set H.next ⟨0,0,0⟩) b=μ b:=λb hb=>by
    grind [Mu.set]
   have hT2:RepList (μ.set H.next ⟨0,0,0⟩) F w (T.set t (.sl H.next 0 0 e)) us:=by
    obtain⟨u,hu,hr⟩:=hT.get ht;simp only[Rep]at hr;have hnew:Rep (μ.set H.next ⟨0,0,0⟩) F w (.sl H.next 0 0 e) u:=by
     simp only[Rep];exact⟨⟨0,0,0⟩,by unfold Mu.set;rw[Ac rfl],.inl ⟨trivial,hr.1⟩⟩
    have hl:=hT.length;refine RepList.mk (by simp[hl]) λi x hx=>?_
    rw[AxM]at hx;split at hx
    .grind
    .obtain⟨v,v1,v2⟩:=hT.get hx
     exact⟨v,v1,v2.later g2⟩
   have L2:=Loc.adoptM r _ _ _ _ _ L1.wf h2;refine Gh.trans L1.next L2.next (Q1:=λμ' F'=>μ'=μ.set H.next ⟨0,0,0⟩/\F'=F) ⟨_,F,g2,g1,g3,rfl,rfl⟩ ?_;rintro μ' F' _ _ _ ⟨rfl,rfl⟩;exact Fl r _ hT2 g1 L1.wf (BW hf L1.next L1.top g3) h2
  |false=>
   rw[en]at h
   cases eq:Ra T t with
   |some q=>
    rw[eq]at h;obtain⟨_,H2,f1,f2,h1,h2⟩:=bind_some h;have L1:=Loc.adoptB _ _ _ _ _ _ _ hw h1;have L2:=Loc.adoptM r T _ _ _ _ L1.wf h2;exact Gh.trans L1.next L2.next (SE q.1 q.2 e hH hw hf h1) λμ1 F1 l1 hH1 ag _=>Fl r T (hT.later' l1) hH1 L1.wf (BW hf L1.next L1.top ag) h2
   |none=>
    rw[eq]at h;exact Fl r T hT hH hw hf h
def B6:Code->List Code
 |.seq a b=>B6 a++B6 b
 |.cond _ a b=>B6 a++B6 b
 |.block _ c=>B6 c
 |.loop c=>c::B6 c
 |_=>[]
theorem Cv(P:Program)(ents:Nat)(hs:Ld):∀(c:Code) (n:Nat),(BF P ents hs c n).2.length=(B6 c).length
 |.skip,n=>rfl
 |.region ..,n=>rfl
 |.seq a b,n=>by
  have h1:=Cv P ents hs a n;have h2:=Cv P ents hs b (n+(BF P ents hs a n).2.length);simp only[BF,B6,ζ,h1]at h2 ⊢;rw[h2]
 |.cond c a b,n=>by
  have h1:=Cv P ents hs a n;have h2:=Cv P ents hs b (n+(BF P ents hs a n).2.length);simp only[BF,B6,ζ,h1]at h2 ⊢;rw[h2]
 |.block id c,n=>by
  have h1:=Cv P ents hs c n;simp only[BF,B6,h1]
 |.loop c,n=>by
  have h1:=Cv P ents hs c (n+1);unfold BF B6;simp only[ε]
  cases hs[n]?<;>simp[h1]
 |.exit _,n=>rfl
 |.ret,n=>rfl
 |.rangeFunc ..,n=>rfl
 |.scope _,n=>rfl
 |.label _,n=>rfl
 |.goto _,n=>rfl
 |.refuse _,n=>rfl
def IM(P:Program)(h:LpH)(Λ:Ab->AM (AX × Ab))(c:Code):Prop:=∀(xs:Ab) (H:AH) (x:AX) (ys:Ab) (H':AH) (ft:Foot),Λ xs H=V ((x,ys),H',ft)->
 ∀(μ:Mu) (F:AQ) (w:World) (a:Act),a.tmps.toList.length=h.n->RepList μ F w xs (CE h.live a.tmps.toList)->a.defers=[]->HRep μ F w H.get->H.wf->B3 μ H->(Code.loop c).wp P (EndsA μ F w H λx1 T1 H1=>x1=x/\T1=Ce (h.out x) h.n ys/\H1=H') a w
section
variable {P:Program} {Γ:FuncId->Ab->AM AV} {ents:Nat}
theorem Ah3(hE:JV P ents)(ops:Array Oper)(o:Oper)(T:Ab):Le (coreM Ai Γ (JZ P ents ops o) T) (coreA P Γ ops o T):=by
 unfold JZ
 cases e:Adv ops o.guard with
 |none=>
  simp only;intro H r h;unfold coreM WD at h;simp only at h
  cases h
 |some g=>
  simp only;intro H r h;unfold coreM at h
  cases e2:WD Ai T g with
  |none=>simp only[e2]at h;cases h
  |some t=>
   simp only[e2]at h
   have hw:Fv ops o T=V t:=by
    unfold Adv at e;unfold Fv;unfold WD at e2
    cases eg:o.guard with
    |none=>
     rw[eg]at e;simp only[ξ]at e;rw[←e]at e2;exact e2
    |some jw=>
     obtain⟨j,want⟩:=jw;rw[eg]at e;simp only at e ⊢;unfold GI
     cases ed:(ops[j]?).bind (·.dst) with
     |none=>rw[ed]at e;cases e
     |some d=>
      rw[ed]at e;simp only[ξ]at e;rw[←e]at e2;simp only[Option.bind_some]at e2 ⊢
      cases et:T[d]? with
      |none=>rw[et]at e2;cases e2
      |some v=>
       rw[et]at e2
       cases v with
       |v z=>
        cases z with
        |bool b=>cases want<;>(simp only[ξ]at e2;subst e2;simp[Ai,Ih,Ar.not])
        |tuple vs=>simp only[ξ]at e2;subst e2;cases want<;>rfl
        |_=>cases e2
       |_=>cases e2
   unfold coreA;rw[hw]
   cases t with
   |true=>exact Ajl hE o T H r h
   |false=>exact h
theorem AgH(hE:JV P ents)(ops:Array Oper):∀(l:List Oper) {T:Ab} {H:AH} {r:Ab × AH × List Foot},runM Ai Γ (l.map (JZ P ents ops)) T H=V r->Gm P Γ ops l T H=V r
 |[],T,H,r,h=>h
 |o::l,T,H,r,h=>by
  simp only[AvT,runM]at h;simp only[Gm,NU]
  cases e:coreM Ai Γ (JZ P ents ops o) T H with
  |none=>rw[e]at h;cases h
  |some q=>
   obtain⟨v,H1,f⟩:=q;rw[e]at h;rw[Ah3 hE ops o T H _ e];simp only at h ⊢;have hd:(JZ P ents ops o).dst=o.dst:=by unfold JZ;split<;>rfl
   rw[hd]at h
   cases e2:runM Ai Γ (l.map (JZ P ents ops)) (Cx T o.dst v) H1 with
   |none=>rw[e2]at h;cases h
   |some q2=>
    rw[e2]at h;rw[AgH hE ops l e2];exact h
theorem EndsA.ghost{μ μ1:Mu}{F F1:AQ}{w:World}{H H1:AH}{Q:AX->Ab->AH->Prop}{e:Exit}{a':Act}{w':World}(hn:H.next<=H1.next)(ht:H1.top=H.top)(h1:Later μ μ1 F F1 w w)(h2:∀ b,(b<H.next\/H1.next<=b)->μ1 b=μ b)(h:EndsA μ1 F1 w H1 Q e a' w'):EndsA μ F w H Q e a' w':=by
 obtain⟨x,T',H',e1,hq,hg⟩:=h;exact⟨x,T',H',e1,hq,GoodA.trans h1 (WStep.refl _ _) h2 hn ht hg⟩
abbrev AtE(x:AX)(T':Ab)(H':AH):AX->Ab->AH->Prop:=λx1 T1 H1=>x1=x/\T1=T'/\H1=H'
theorem EG{Λ:Nat->Ab->AM (AX × Ab)}(hm:P.follows .mixedOrders=U)(hE:JV P ents)(hΓ:Hq P Γ)(hL:∀ f args,Loc (Γ f args))(hLΛ:∀ i T,Loc (Λ i T))(hs:Ld):∀(c:Code) (n:Nat),Mv c=U->(∀ j c' q,(B6 c)[j]? = V c'->hs[n+j]? = V q->IM P q (Λ (n+j)) c')->
  ∀{T:Ab} {H:AH} {x:AX} {T':Ab} {H':AH} {ft:Foot},evC Ai Γ Λ (BF P ents hs c n).1 T H=V ((x,T'),H',ft)->∀{μ:Mu} {F:AQ} {w:World} {a:Act},RT μ F w T a->HRep μ F w H.get->H.wf->B3 μ H->c.wp P (EndsA μ F w H (AtE x T' H')) a w
 |.skip,n,_,_,T,H,x,T',H',ft,h,μ,F,w,a,hT,hH,hw,hf=>by
  obtain⟨e,rfl⟩:=Au h;simp only[Prod.mk.injEq]at e;obtain⟨rfl,rfl⟩:=e;exact wp_skip ⟨.normal,_,_,rfl,⟨rfl,rfl,rfl⟩,GoodA.refl hT hH hw⟩
 |.exit id,n,_,_,T,H,x,T',H',ft,h,μ,F,w,a,hT,hH,hw,hf=>by
  obtain⟨e,rfl⟩:=Au h;simp only[Prod.mk.injEq]at e;obtain⟨rfl,rfl⟩:=e;exact wp_exit ⟨.exit id,_,_,rfl,⟨rfl,rfl,rfl⟩,GoodA.refl hT hH hw⟩
 |.ret,n,_,_,T,H,x,T',H',ft,h,μ,F,w,a,hT,hH,hw,hf=>by
  obtain⟨e,rfl⟩:=Au h;simp only[Prod.mk.injEq]at e;obtain⟨rfl,rfl⟩:=e;exact wp_ret ⟨.ret,_,_,rfl,⟨rfl,rfl,rfl⟩,GoodA.refl hT hH hw⟩
 |.region id ops draw,n,hok,_,T,H,x,T',H',ft,h,μ,F,w,a,hT,hH,hw,hf=>by
  have h:regM Ai Γ (ops.toList.map (JZ P ents ops)) (if draw then V (Uj ops) else Δ) T H=V ((x,T'),H',ft):=h;unfold regM at h
  cases e:runM Ai Γ (ops.toList.map (JZ P ents ops)) T H with
  |none=>rw[e]at h;cases h
  |some q=>
   obtain⟨T1,H1,fs⟩:=q;rw[e]at h;have h1:=AgH hE ops _ e;have key:x=.normal/\T'=T1/\H'=H1/\(draw=U->Fe (Uj ops) fs=U):=by
    grind
   obtain⟨rfl,rfl,rfl,k⟩:=key;exact D7 hm hΓ hL (.region id ops draw) _ T H hok (by simp only[aw];exact⟨_,_,fs,h1,k,rfl,rfl,rfl⟩) hT hH hw hf
 |.seq y z,n,hok,hl,T,H,x,T',H',ft,h,μ,F,w,a,hT,hH,hw,hf=>by
  have h:((evC Ai Γ Λ (BF P ents hs y n).1 T).bind λr=>match r.1 with
   |.normal=>evC Ai Γ Λ (BF P ents hs z (n+(BF P ents hs y n).2.length)).1 r.2
   |ax=>AM.ret (ax,r.2)) H=V ((x,T'),H',ft):=h
  simp only[Mv,AvF]at hok;obtain⟨⟨x1,T1⟩,H1,f1,f2,h1,h2⟩:=bind_some h;have hly:∀ j c' q,(B6 y)[j]? = V c'->hs[n+j]? = V q->IM P q (Λ (n+j)) c':=λj c' q hj=>hl j c' q (by
   show (B6 y++B6 z)[j]? = V c'
   rw[AwD (Av9.1 hj).1];exact hj)
  have hlz:∀ j c' q,(B6 z)[j]? = V c'->hs[n+(BF P ents hs y n).2.length+j]? = V q->IM P q (Λ (n+(BF P ents hs y n).2.length+j)) c':=λj c' q hj=>by
   rw[Cv,AvQ];exact hl _ c' q (by
    show (B6 y++B6 z)[(B6 y).length+j]? = V c'
    rw[Axk (AyH _ _),Ayh];exact hj)
  refine wp_seq (wp_mono (EG hm hE hΓ hL hLΛ hs y n hok.1 hly h1 hT hH hw hf) ?_);rintro e a1 w1 ⟨ax,T2,H2,rfl,⟨rfl,rfl,rfl⟩,hg⟩;simp only at h2
  cases ax with
  |normal=>
   obtain⟨⟨μ1,F1,g1,g2,g3,g4,g5⟩,g6,g7,g8⟩:=hg;refine wp_mono (EG hm hE hΓ hL hLΛ hs z _ hok.2 hlz h2 g1 g2 g8 (BW hf g6 g7 g5)) ?_;rintro e a2 w2 ⟨ax,T3,H3,rfl,hq2,hg2⟩;exact⟨ax,T3,H3,rfl,hq2,GoodA.trans g3 g4 g5 g6 g7 hg2⟩
  |exit i=>
   obtain⟨e,rfl⟩:=Au h2;simp only[Prod.mk.injEq]at e;obtain⟨rfl,rfl⟩:=e;exact⟨.exit i,_,_,rfl,⟨rfl,rfl,rfl⟩,hg⟩
  |goto l=>
   obtain⟨e,rfl⟩:=Au h2;simp only[Prod.mk.injEq]at e;obtain⟨rfl,rfl⟩:=e;exact⟨.goto l,_,_,rfl,⟨rfl,rfl,rfl⟩,hg⟩
  |ret=>
   obtain⟨e,rfl⟩:=Au h2;simp only[Prod.mk.injEq]at e;obtain⟨rfl,rfl⟩:=e;exact⟨.ret,_,_,rfl,⟨rfl,rfl,rfl⟩,hg⟩
 |.cond c y z,n,hok,hl,T,H,x,T',H',ft,h,μ,F,w,a,hT,hH,hw,hf=>by
  have h:(match AS T c with
   |.v (.bool t)=>(match t with
    |true=>evC Ai Γ Λ (BF P ents hs y n).1 T
    |false=>evC Ai Γ Λ (BF P ents hs z (n+(BF P ents hs y n).2.length)).1 T)
   |_=>AM.fail) H=V ((x,T'),H',ft):=h
  simp only[Mv,AvF]at hok;have hly:∀ j c' q,(B6 y)[j]? = V c'->hs[n+j]? = V q->IM P q (Λ (n+j)) c':=λj c' q hj=>hl j c' q (by
   show (B6 y++B6 z)[j]? = V c'
   rw[AwD (Av9.1 hj).1];exact hj)
  have hlz:∀ j c' q,(B6 z)[j]? = V c'->hs[n+(BF P ents hs y n).2.length+j]? = V q->IM P q (Λ (n+(BF P ents hs y n).2.length+j)) c':=λj c' q hj=>by
   rw[Cv,AvQ];exact hl _ c' q (by
    show (B6 y++B6 z)[(B6 y).length+j]? = V c'
    rw[Axk (AyH _ _),Ayh];exact hj)
  have h3:=Ma hT c
  cases ec:AS T c with
  |v u=>
   rw[ec]at h h3;simp only[Rep]at h3
   cases u with
   |bool t=>
    cases t with
    |true=>exact wp_cond_true h3.1 (EG hm hE hΓ hL hLΛ hs y n hok.1 hly h hT hH hw hf)
    |false=>exact wp_cond_false h3.1 (EG hm hE hΓ hL hLΛ hs z _ hok.2 hlz h hT hH hw hf)
   |_=>exact(At h).elim
  |_=>rw[ec]at h;exact(At h).elim
 |.block id c,n,hok,hl,T,H,x,T',H',ft,h,μ,F,w,a,hT,hH,hw,hf=>by
  have h:((evC Ai Γ Λ (BF P ents hs c n).1 T).bind λr=>match r.1 with
   |.exit i=>if i=id then AM.ret (.normal,r.2) else AM.ret (.exit i,r.2)
   |ax=>AM.ret (ax,r.2)) H=V ((x,T'),H',ft):=h
  simp only[Mv]at hok;obtain⟨⟨x1,T1⟩,H1,f1,f2,h1,h2⟩:=bind_some h;refine wp_block (wp_mono (EG hm hE hΓ hL hLΛ hs c n hok hl h1 hT hH hw hf) ?_);rintro e a1 w1 ⟨ax,T2,H2,rfl,⟨rfl,rfl,rfl⟩,hg⟩;simp only at h2
  cases ax with
  |normal=>
   obtain⟨e,rfl⟩:=Au h2;simp only[Prod.mk.injEq]at e;obtain⟨rfl,rfl⟩:=e;exact⟨.normal,_,_,rfl,⟨rfl,rfl,rfl⟩,hg⟩
  |goto l=>
   obtain⟨e,rfl⟩:=Au h2;simp only[Prod.mk.injEq]at e;obtain⟨rfl,rfl⟩:=e;exact⟨.goto l,_,_,rfl,⟨rfl,rfl,rfl⟩,hg⟩
  |ret=>
   obtain⟨e,rfl⟩:=Au h2;simp only[Prod.mk.injEq]at e;obtain⟨rfl,rfl⟩:=e;exact⟨.ret,_,_,rfl,⟨rfl,rfl,rfl⟩,hg⟩
  |exit i=>
   simp only[AX.ex,Exit.inBlock];rcases Bz h2 with⟨hi,h2⟩|⟨hi,h2⟩
   .obtain⟨e,rfl⟩:=Au h2
    simp only[Prod.mk.injEq]at e;obtain⟨rfl,rfl⟩:=e;rw[Ac hi];exact⟨.normal,_,_,rfl,⟨rfl,rfl,rfl⟩,hg⟩
   .obtain⟨e,rfl⟩:=Au h2
    simp only[Prod.mk.injEq]at e;obtain⟨rfl,rfl⟩:=e;rw[Ad hi];exact⟨.exit i,_,_,rfl,⟨rfl,rfl,rfl⟩,hg⟩
 |.loop c,n,hok,hl,T,H,x,T',H',ft,h,μ,F,w,a,hT,hH,hw,hf=>by
  cases eh:hs[n]? with
  |none=>
   have:(BF P ents hs (.loop c) n).1=.bad:=by unfold BF;rw[eh]
   rw[this]at h;exact(At h).elim
  |some q=>
   have:(BF P ents hs (.loop c) n).1=.loop n q:=by unfold BF;rw[eh]
   rw[this]at h;have h:((adoptM q.ad T).bind λT=>(frzT q.fz T).bind λT=>match Av5 T.length q.n with
    |true=>(Λ n (CE q.live T)).bind λr=>AM.ret (r.1,Ce (q.out r.1) q.n r.2)
    |false=>AM.fail) H=V ((x,T'),H',ft):=h
   obtain⟨T0,H0,f1,f2,h1,h2⟩:=bind_some h;obtain⟨T1,H1,f3,f4,h3,h2⟩:=bind_some h2;have L0:=Loc.adoptM q.ad T _ _ _ _ hw h1;have L1:=Loc.frzT q.fz T0 _ _ _ _ L0.wf h3;obtain⟨μ1,F1,g1,g2,g3,g4⟩:=Gh.trans L0.next L1.next (Fl q.ad T hT.1 hH hw hf h1) λμ0 F0 l0 hH0 _ hT0=>EH q.fz T0 hT0 hH0 L0.wf h3
   cases en:Av5 T1.length q.n with
   |false=>rw[en]at h2;exact(At h2).elim
   |true=>
    rw[en]at h2;obtain⟨⟨y,ys⟩,H2,f5,f6,h5,h4⟩:=bind_some h2;obtain⟨e4,rfl⟩:=Au h4;simp only[Prod.mk.injEq]at e4;obtain⟨rfl,rfl⟩:=e4;have hn:a.tmps.toList.length=q.n:=by rw[g4.length];exact AvY en
    have:=hl 0 c q (by unfold B6;rfl) eh _ _ _ _ _ _ h5 μ1 F1 w a hn (Jd g4) hT.2 g2 L1.wf (BW hf (Awe L0.next L1.next) (L1.top.trans L0.top) g3);exact wp_mono this λe a' w' he=>EndsA.ghost (Awe L0.next L1.next) (L1.top.trans L0.top) g1 g3 he
 |.rangeFunc ..,n,_,_,T,H,x,T',H',ft,h,_,_,_,_,_,_,_,_=>(At h).elim
 |.scope _,n,_,_,T,H,x,T',H',ft,h,_,_,_,_,_,_,_,_=>(At h).elim
 |.label _,n,_,_,T,H,x,T',H',ft,h,_,_,_,_,_,_,_,_=>(At h).elim
 |.goto _,n,_,_,T,H,x,T',H',ft,h,_,_,_,_,_,_,_,_=>(At h).elim
 |.refuse _,n,_,_,T,H,x,T',H',ft,h,_,_,_,_,_,_,_,_=>(At h).elim
end
theorem Loc.loopsM(D:Orc)(f i:Nat)(T:Ab):Loc (loopsM D f i T):=by
 grind [Go.Proofs.YtlmhajfbpplpoaaGreat.loopsM,Loc.bind,Loc.callD,Loc.fail,Loc.ret]
theorem Loc.resM(T:Ab):∀ l,Loc (resM T l)
 |[]=>Loc.ret _
 |.tmp _::r=>Loc.bind (Loc.resM T r) λ_=>Loc.ret _
 |.cell _ _ _::r=>Loc.bind (Loc.loadM _ _ _) λ_=>Loc.bind (Loc.resM T r) λ_=>Loc.ret _
theorem Loc.fnM(A:Ar)(D:Orc)(own:List (Nat × Nat))(f:Nat)(mf:MFn)(args:Ab):Loc (fnM A D own f mf args):=by
 grind [Go.Proofs.YtlmhajfbpplpoaaGreat.fnM,Loc.bind,Loc.callsM,Loc.evC,Loc.fail,Loc.frz,Loc.loopsM,Loc.resM,Loc.ret,Loc.touchI]
theorem Loc.lpM(A:Ar)(D:Orc)(own:List (Nat × Nat))(f i:Nat)(h:LpH)(c:MC)(xs:Ab):Loc (lpM A D own f i h c xs):=by
 grind [Go.Proofs.YtlmhajfbpplpoaaGreat.lpM,Loc.bind,Loc.callsM,Loc.delT,Loc.evC,Loc.fail,Loc.frzT,Loc.loopsM,Loc.ret,Loc.touchA]
theorem Jj{A:Ar}{Γ:FuncId->Ab->AM AV}:∀(l:List MOp) {T:Ab} {H:AH} {T':Ab} {H':AH} {fs:List Foot},runM A Γ l T H=V (T',H',fs)->T'.length=T.length
 |[],T,H,T',H',fs,h=>by
  grind [runM]
 |o::r,T,H,T',H',fs,h=>by
  simp only[runM]at h;rcases e1:coreM A Γ o T H with _|⟨v,H1,f⟩<;>rw[e1]at h
  .cases h
  simp only at h;rcases e2:runM A Γ r (Cx T o.dst v) H1 with _|⟨T2,H2,fs'⟩<;>rw[e2]at h
  .cases h
  simp only[ξ,Prod.mk.injEq]at h;obtain⟨rfl,rfl,rfl⟩:=h;rw[Jj r e2,GL]
theorem EQ:∀(l:List (Nat × Nat)) (T:Ab) {H:AH} {T':Ab} {H':AH} {ft:Foot},adoptM l T H=V (T',H',ft)->T'.length=T.length
 |[],T,H,T',H',ft,h=>by
  obtain⟨rfl,rfl⟩:=Au h;rfl
 | (t,e)::r,T,H,T',H',ft,h=>by
  unfold adoptM at h
  cases en:VH T t with
  |true=>
   rw[en]at h;obtain⟨b,H1,f1,f2,h1,h2⟩:=bind_some h;rw[EQ r _ h2,Awf]
  |false=>
   rw[en]at h
   cases eq:Ra T t with
   |some q=>
    rw[eq]at h;obtain⟨_,H1,f1,f2,h1,h2⟩:=bind_some h;exact EQ r T h2
   |none=>
    rw[eq]at h;exact EQ r T h
theorem EF{A:Ar}{Γ:FuncId->Ab->AM AV}{Λ:Nat->Ab->AM (AX × Ab)}:∀(c:MC) (T:Ab) (r:AX × Ab) {H H':AH} {ft:Foot},(h:evC A Γ Λ c T H=V (r,H',ft))->r.2.length=T.length
 |.skip,T,r,H,H',ft,h=>by
  obtain⟨rfl,rfl⟩:=Au h;rfl
 |.reg ops bf,T,r,H,H',ft,h=>by
  have h:regM A Γ ops bf T H=V (r,H',ft):=h;unfold regM at h;rcases e:runM A Γ ops T H with _|⟨T1,H1,fs⟩<;>rw[e]at h
  .cases h
  simp only at h
  cases bf with
  |none=>
   simp only[ξ,Prod.mk.injEq]at h;rw[←h.1];exact Jj ops e
  |some bf=>
   simp only at h
   cases eh:Fe bf fs with
   |true=>
    rw[eh]at h;simp only[ξ,Prod.mk.injEq]at h;rw[←h.1];exact Jj ops e
   |false=>rw[eh]at h;cases h
 |.seq a b,T,r,H,H',ft,h=>by
  obtain⟨⟨ax,T1⟩,H1,f1,f2,h1,h2⟩:=bind_some h;have e1:=EF a T _ h1
  cases ax with
  |normal=>rw[EF b _ r h2];exact e1
  |_=>
   obtain⟨rfl,rfl⟩:=Au h2;exact e1
 |.cond c a b,T,r,H,H',ft,h=>by
  have h:(match AS T c with
   |.v (.bool t)=>(match t with
    |true=>evC A Γ Λ a T
    |false=>evC A Γ Λ b T)
   |_=>AM.fail) H=V (r,H',ft):=h
  cases ec:AS T c with
  |v u=>
   rw[ec]at h
   cases u with
   |bool t=>
    cases t with
    |true=>exact EF a T r h
    |false=>exact EF b T r h
   |_=>exact(At h).elim
  |_=>rw[ec]at h;exact(At h).elim
 |.block id c,T,r,H,H',ft,h=>by
  obtain⟨⟨ax,T1⟩,H1,f1,f2,h1,h2⟩:=bind_some h;have e1:=EF c T _ h1
  cases ax with
  |exit i=>
   rcases Bz h2 with⟨_,h2⟩|⟨_,h2⟩ <;>
   .grind [Au]
  |_=>
   obtain⟨rfl,rfl⟩:=Au h2;exact e1
 |.loop i q,T,r,H,H',ft,h=>by
  obtain⟨T1,H1,f1,f2,h1,h2⟩:=bind_some h;have e1:=EQ _ _ h1;obtain⟨T2,H3,f5,f6,h5,h2⟩:=bind_some h2;have e2:=Gt _ _ h5
  cases en:Av5 T2.length q.n with
  |true=>
   rw[en]at h2;obtain⟨r1,H2,f3,f4,h3,h4⟩:=bind_some h2;obtain⟨rfl,rfl⟩:=Au h4;simp only;rw[Dm,←e1,←e2];exact(AvY en).symm
  |false=>rw[en]at h2;exact(At h2).elim
 |.exit id,T,r,H,H',ft,h=>by
  obtain⟨rfl,rfl⟩:=Au h;rfl
 |.ret,T,r,H,H',ft,h=>by
  obtain⟨rfl,rfl⟩:=Au h;rfl
 |.bad,T,r,H,H',ft,h=>(At h).elim
def axV:AX->Value
 |.normal=>.bool Θ
 |.ret=>.bool U
 |.exit i=>.int .i64 (Int.ofNat i)
 |.goto _=>.bool Θ
def LoopW(P:Program)(c:Code)(Q:Exit->Act->World->Prop)(a:Act)(w:World):Prop:=∀ b k cs,∃ e a' w',Q e a' w'/\Arrives P (lone (b.at a (.code c::.inLoop c::k)) cs w) b k cs e a' w'
theorem LoopW.mono{P:Program}{c:Code}{Q Q':Exit->Act->World->Prop}{a:Act}{w:World}(h:LoopW P c Q a w)(k:∀ e a' w',Q e a' w'->Q' e a' w'):LoopW P c Q' a w:=λb l cs=>by
 obtain⟨e,a',w',h1,h2⟩:=h b l cs;exact⟨e,a',w',k _ _ _ h1,h2⟩
theorem LoopW.wp{P:Program}{c:Code}{Q:Exit->Act->World->Prop}{a:Act}{w:World}(h:LoopW P c Q a w):(Code.loop c).wp P Q a w:=λb k cs=>by
 obtain⟨e,a',w',h1,h2⟩:=h b k cs;exact⟨e,a',w',h1,.of_steps (.one step_loop) h2⟩
theorem LoopW.step{P:Program}{c:Code}{Q:Exit->Act->World->Prop}{a:Act}{w:World} (h:c.wp P (λe a' w'=>match e with
  |.normal=>LoopW P c Q a' w'
  |e=>Q e a' w') a w):LoopW P c Q a w:=by
 intro b k cs;obtain⟨e,a₁,w₁,hq,harr⟩:=h b (.inLoop c::k) cs
 cases e with
 |normal=>
  obtain⟨e₂,a₂,w₂,hq₂,harr₂⟩:=hq b k cs;exact⟨e₂,a₂,w₂,hq₂,.of_steps (Steps.trans harr (.one step_inLoop)) harr₂⟩
 |exit id=>exact⟨_,a₁,w₁,hq,.pass (x:=.inLoop c) rfl (λ_ _=>.inl (by simp)) harr⟩
 |goto l=>exact⟨_,a₁,w₁,hq,.pass (x:=.inLoop c) rfl (λ_ _=>.inl (by simp)) harr⟩
 |ret=>exact⟨_,a₁,w₁,hq,.pass (x:=.inLoop c) rfl (λ_ _=>.inl (by simp)) harr⟩
 |panic ch=>exact⟨_,a₁,w₁,hq,.pass (x:=.inLoop c) rfl (λ_ _=>.inl (by simp)) harr⟩
 |outgrown=>exact⟨_,a₁,w₁,hq,.pass (x:=.inLoop c) rfl (λ_ _=>.inl (by simp)) harr⟩
def Q0(P:Program)(h:LpH)(c:Code):Mw:=λus w Q=>∀ a:Act,a.tmps.toList.length=h.n->CE h.live a.tmps.toList=us->a.defers=[]->LoopW P c (λe a' w'=>a'.defers=[]/\a'.tmps.toList.length=h.n/\∃ x:AX,e=x.ex/\(x=.ret\/∃ i,x=.exit i)/\Q (.tuple (axV x::CE (h.out x) a'.tmps.toList).toArray) w') a w
theorem Qi(P:Program)(h:LpH)(c:Code):Nr (Q0 P h c):=λ_ _ _ _ g k a h1 h2 h3=>LoopW.mono (g a h1 h2 h3) λ_ _ w' ⟨q1,q2,x,q3,q4,q5⟩=>⟨q1,q2,x,q3,q4,k _ w' q5⟩
theorem Ada{μ:Mu}{F:AQ}{w:World}{v:AV}{ax x:AX}(h:WW v=V ax)(hr:Rep μ F w v (axV x))(hx:x=.ret\/∃ i,x=.exit i):ax=x:=by
 unfold WW at h;split at h<;>simp only[ξ,reduceCtorEq]at h
 .simp only[Rep]at hr
  rcases hx with rfl|⟨i,rfl⟩
  .exact h.symm
  .grind [absurd,axV]
 .simp only[Rep]at hr
  rcases hx with rfl|⟨i,rfl⟩
  .grind [absurd,axV]
  .grind [absurd,axV]
 .simp only[Rep]at hr
  rcases hx with rfl|⟨i,rfl⟩
  .grind [absurd,axV]
  .grind [axV]
theorem LF{P:Program}{D:Orc}{f i:Nat}{c:Code}{q:LpH}(hD:Ca (Q0 P q c) (D.ask (.lp f i))){xs:Ab}{H:AH}{x:AX}{ys:Ab}{H':AH}{ft:Foot}(h:loopsM D f i xs H=V ((x,ys),H',ft)){μ:Mu}{F:AQ}{w:World}{a:Act}(hn:a.tmps.toList.length=q.n)(hT:RepList μ F w xs (CE q.live a.tmps.toList))(hd:a.defers=[])(hH:HRep μ F w H.get)(hw:H.wf)(hf:B3 μ H) :
  LoopW P c (λe a' w'=>e=x.ex/\a'.defers=[]/\a'.tmps.toList.length=q.n/\(x=.ret\/∃ i,x=.exit i)/\H.next<=H'.next/\H'.top=H.top/\H'.wf/\∃ μ' F',RepList μ' F' w' ys (CE (q.out x) a'.tmps.toList)/\HRep μ' F' w' H'.get/\Later μ μ' F F' w w'/\WStep F w w'/\∀ b,(b<H.next\/H'.next<=b)->μ' b=μ b) a w:=by
 unfold loopsM at h;obtain⟨r,H1,f1,f2,h1,h2⟩:=bind_some h;have L1:=Loc.callD (D.ask (.lp f i)) xs _ _ _ _ hw h1;have key:=Nw (Qi P q c) hD xs μ F w H _ hT hH hw hf r H1 f1 h1 a hn rfl hd;refine LoopW.mono key ?_;rintro e a' w' ⟨hd',hn',y,rfl,hy,μ',F',q1,q2,q3,q4,q5⟩
 cases r with
 |tup vs=>
  cases vs with
  |nil=>exact(At h2).elim
  |cons v vs=>
   simp only at h2
   cases e1:WW v with
   |none=>rw[e1]at h2;exact(At h2).elim
   |some ax=>
    rw[e1]at h2;obtain⟨e2,rfl⟩:=Au h2;simp only[Prod.mk.injEq]at e2;obtain⟨rfl,rfl⟩:=e2;simp only[Rep]at q1;obtain⟨us,hus,hr⟩:=q1;simp only[Value.tuple.injEq]at hus;rw[←hus]at hr;simp only[RepList]at hr;obtain⟨u,t,e3,hu,ht⟩:=hr;simp only[List.cons.injEq]at e3;obtain⟨rfl,rfl⟩:=e3;have:=Ada e1 hu hy;subst this;exact⟨rfl,hd',hn',hy,L1.next,L1.top,L1.wf,μ',F',ht,q2,q3,q4,q5⟩
 |_=>exact(At h2).elim
theorem LG{P:Program}{D:Orc}{f i:Nat}{c:Code}{q:LpH}(hD:Ca (Q0 P q c) (D.ask (.lp f i))):IM P q (loopsM D f i) c:=λ_ _ _ _ _ _ h _ _ _ _ hn hT hd hH hw hf=>
 (LoopW.mono (LF hD h hn hT hd hH hw hf) λ_ a' _ ⟨h1,h2,h3,_,h5,h6,h7,μ',F',k1,k2,k3,k4,k5⟩=>⟨_,_,_,h1,⟨rfl,rfl,rfl⟩,⟨μ',F',⟨by rw[←h3];exact F8 _ _ k1,h2⟩,k2,k3,k4,k5⟩,h5,h6,h7⟩).wp
theorem TH{P:Program}(T:Ab):∀(rs:List ResultVar),(∀ t ty,.cell t ty∈rs->(Cn P ty=V U/\∃ n,DS P ty=V n)\/Cn P ty=V Θ)->Le (resM T (J0 P rs)) (resA P T rs)
 |[],_=>Le.refl _
 |.tmp t::r,h=>Le.bind (TH T r λt ty ht=>h t ty (by simp[ht])) λ_=>Le.refl _
 |.cell t ty::r,h=>by
  have ih:=TH (P:=P) T r λt ty ht=>h t ty (by simp[ht])
  rcases h t ty (by simp) with⟨h1,n,h2⟩|h1
  .have:J0 P (.cell t ty::r)=.cell t U n::J0 P r:=by unfold J0;rw[AvT];simp only[h1,h2]
   rw[this];exact Le.bind (Ox h1 (λ_=>h2) _) λ_=>Le.bind ih λ_=>Le.refl _
  .have:J0 P (.cell t ty::r)=.cell t Θ 0::J0 P r:=by unfold J0;rw[AvT];simp only[h1]
   rw[this];exact Le.bind (Ox (n:=0) h1 (λh=>by cases h) _) λ_=>Le.bind ih λ_=>Le.refl _
def okR(P:Program)(rs:List ResultVar):Bool:=rs.all λr=>match r with
 |.tmp _=>U
 |.cell _ ty=>(match Cn P ty,DS P ty with
  |some U,V _=>U
  |some Θ,_=>U
  |_,_=>Θ)
theorem AfZ{P:Program}{rs:List ResultVar}(h:okR P rs=U):∀ t ty,.cell t ty∈rs->(Cn P ty=V U/\∃ n,DS P ty=V n)\/Cn P ty=V Θ:=λt ty ht=>by
 have:=AvJ.1 h _ ht;simp only at this;split at this
 .grind
 .exact .inr ‹_›
 .cases this
structure FnOk (P:Program) (ents:Nat) (f:FuncId) (mf:MFn):Prop where
 ok:∃ fn c hs,P.funcs[f]? = V fn/\fn.body=V c/\Mv c=U/\okR P fn.results.toList=U/\mf.nt=fn.ntmps/\mf.res=J0 P fn.results.toList/\mf.body=(BF P ents hs c 0).1/\mf.loops=(BF P ents hs c 0).2
theorem Aa3{P:Program}{ents:Nat}{D:Orc}(own:List (Nat × Nat))(hm:P.follows .mixedOrders=U)(hE:JV P ents){f:FuncId}{mf:MFn}{fn:Func}{c:Code}{hs:Ld}(h1:P.funcs[f]? = V fn)(h2:fn.body=V c)(h3:Mv c=U)(h4:okR P fn.results.toList=U)
  (h5:mf.nt=fn.ntmps) (h6:mf.res=J0 P fn.results.toList) (h7:mf.body=(BF P ents hs c 0).1) (hΓ:Hq P (callsM D own)) (hΛ:∀ j c' q,(B6 c)[j]? = V c'->hs[j]? = V q->IM P q (loopsM D f j) c'):SB (CW P f) (fnM Ai D own f mf):=by
 intro args μ F w H us hv hH hw hf r H' ft h;unfold fnM at h;obtain⟨⟨x,T1⟩,H1,f1,f2,g1,g2⟩:=bind_some h;rw[h7,h5]at g1;have hlen:=hv.length;have hT:RT μ F w (S6 fn.ntmps args) { tmps:=us.toArray++Array.replicate (fn.ntmps-us.toArray.size) Go.undef,defers:=[] }:=by
  refine⟨?_,rfl⟩;unfold S6;simp only[Array.toList_append,Array.toList_replicate];refine RepList.append hv (RepList.mk (by simp[hlen]) λi x hx=>?_);rw[Ayf]at hx;split at hx
  .rename_i hi
   simp only[ξ]at hx;subst hx;exact⟨Go.undef,by rw[Ayf,Ac (by simp[hlen];omega)],Hd _ _ _⟩
  .cases hx
 refine calls_of_wp h1 h2 (wp_mono (EG hm hE hΓ (Loc.callsM D own) (Loc.loopsM D f) hs c 0 h3 (λj c' q hj=>by rw[AvW];exact hΛ j c' q hj) g1 hT hH hw hf) ?_);rintro e a' w' ⟨x',T',H2,rfl,⟨rfl,rfl,rfl⟩,⟨μ',F',k1,k2,k3,k4,k5⟩,k6,k7,k8⟩;simp only at g2;have hx:(x'=.normal\/x'=.ret)/\((resM T' mf.res).bind λl=>(match mf.own with
  |true=>AM.ret (JT l)
  |false=>frz 1000 (JT l)).bind λv=>match mf.tch with
   |true=>(touchI (EY args)).bind λ_=>AM.ret v
   |false=>AM.ret v) H2=V (r,H',f2):=by
  cases x' with
  |normal=>exact⟨.inl rfl,g2⟩
  |ret=>exact⟨.inr rfl,g2⟩
  |exit i=>exact(At g2).elim
  |goto l=>exact(At g2).elim
 obtain⟨hx,g3⟩:=hx;obtain⟨l,H3,f3,f4,q1,q2⟩:=bind_some g3;obtain⟨v0,H4,f5,f6,q3,q4⟩:=bind_some q2;rw[h6]at q1;have q1':=TH T' fn.results.toList (AfZ h4) _ _ q1;have q1'':Qc P fn T' H2=V (JT l,H3,⟨f3.rd++[],f3.wr++[]⟩):=by
  unfold Qc AM.bind;rw[q1'];rfl
 obtain⟨e3,u,hu1,hu2⟩:=Qd k1 k2 q1'';rw[e3]at q3;have hf2:B3 μ' H2:=BW hf k6 k7 k5;have mid:H2.next<=H4.next/\H4.top=H2.top/\H4.wf/\Gh μ' F' w' H2 H4 λμ2 F2=>Rep μ2 F2 w' v0 u:=by
  cases eo:mf.own with
  |true=>
   rw[eo]at q3;obtain⟨rfl,rfl⟩:=Au q3;exact⟨η _,rfl,k8,Gh.same k2 hu2⟩
  |false=>
   rw[eo]at q3;have L3:=Loc.frz 1000 (JT l) _ _ _ _ k8 q3;exact⟨L3.next,L3.top,L3.wf,JB 1000 (JT l) hu2 k2 k8 q3⟩
 obtain⟨n4,t4,w4,μ2,F2,m1,m2,m3,m4⟩:=mid;have hf4:B3 μ2 H4:=BW hf2 n4 t4 m3;have last:H4.next<=H'.next/\r=v0/\Gh μ2 F2 w' H4 H' λμ3 F3=>Rep μ3 F3 w' v0 u:=by
  cases et:mf.tch with
  |false=>
   rw[et]at q4;obtain⟨rfl,rfl⟩:=Au q4;exact⟨η _,rfl,Gh.same m2 m4⟩
  |true=>
   rw[et]at q4;obtain⟨ys,H5,f7,f8,p1,p2⟩:=bind_some q4;obtain⟨rfl,rfl⟩:=Au p2;have L4:=Loc.touchI (EY args) _ _ _ _ w4 p1;exact⟨L4.next,rfl,(Es (EY args) m2 w4 hf4 p1).mono λμ3 F3 l3 _=>m4.later l3⟩
 obtain⟨n5,rfl,μ3,F3,o1,o2,o3,o4⟩:=last;have fin:Post μ F w H r H' u w':=
  ⟨μ3,F3,o4,o2,k3.trans (m1.trans o1),k4,λb hb=>by rw[o3 b (by omega),m3 b (by omega),k5 b (by omega)]⟩
 have fin2:a'.defers=[]/\∃ v,(results fn a'.tmps).run P w'=.ok v w'/\∃ u,Ending.returned v=.returned u/\Post μ F w H r H' u w':=⟨k1.2,u,hu1,u,rfl,fin⟩;rcases hx with rfl|rfl
 .exact fin2
 .exact fin2
theorem Abs{P:Program}{ents:Nat}{D:Orc}(own:List (Nat × Nat))(hm:P.follows .mixedOrders=U)(hE:JV P ents){f i:Nat}{q:LpH}{c:Code}{hs:Ld}{n:Nat}(h3:Mv c=U)(hΓ:Hq P (callsM D own))
  (hΛ:∀ j c' q,(B6 c)[j]? = V c'->hs[n+j]? = V q->IM P q (loopsM D f (n+j)) c') (hD:Ca (Q0 P q c) (D.ask (.lp f i))):SB (Q0 P q c) (lpM Ai D own f i q (BF P ents hs c n).1):=by
 intro xs μ F w H us hv hH hw hf r H' ft h a hn ha hd;subst ha;unfold lpM at h;obtain⟨⟨x,T1⟩,H1,f1,f2,g1,g2⟩:=bind_some h;have hT0:RT μ F w (Ce q.live q.n xs) a:=⟨by rw[←hn];exact F8 _ _ hv,hd⟩;refine LoopW.step (wp_mono (EG hm hE hΓ (Loc.callsM D own) (Loc.loopsM D f) hs c n h3 hΛ g1 hT0 hH hw hf) ?_);rintro e a' w' ⟨x',T',H2,rfl,⟨rfl,rfl,rfl⟩,⟨μ',F',k1,k2,k3,k4,k5⟩,k6,k7,k8⟩;simp only at g2;have hf2:B3 μ' H2:=BW hf k6 k7 k5;have hn':a'.tmps.toList.length=q.n:=by
  rw[k1.1.length,EF _ _ _ g1,Dm]
 have tup:∀{y:AX} {ys:Ab} {μ2:Mu} {F2:AQ} {w2:World} {vs:AN},(y=.ret\/∃ i,y=.exit i)->RepList μ2 F2 w2 ys vs->Rep μ2 F2 w2 (.tup (axA y::ys)) (.tuple (axV y::vs).toArray):=λ{y ys μ2 F2 w2 vs} hy hT=>by
  simp only[Rep];refine⟨_,rfl,?_⟩;simp only[RepList];refine⟨axV y,vs,rfl,?_,hT⟩;rcases hy with rfl|⟨i,rfl⟩<;>(simp only[axA,axV,Rep];exact⟨trivial,rfl⟩)
 have out:∀(y:AX),(y=.ret\/∃ i,y=.exit i)->((frzT (q.fzo y) T').bind λT=>(delT (q.dlo y) T).bind λ_=>(touchA (q.nt y) (CE (q.out y) T)).bind λys=>AM.ret (.tup (axA y::ys))) H2=V (r,H',f2)->Post μ F w H r H' (.tuple (axV y::CE (q.out y) a'.tmps.toList).toArray) w':=λy hy g=>by
  obtain⟨T3,H3,f3,f4,p1,p2⟩:=bind_some g;obtain⟨_,H4,f5,f6,p3,p4⟩:=bind_some p2;obtain⟨ys,H5,f7,f8,p5,p6⟩:=bind_some p4;obtain⟨rfl,rfl⟩:=Au p6;have L3:=Loc.frzT (q.fzo y) T' _ _ _ _ k8 p1;have L4:=Loc.delT (q.dlo y) T3 _ _ _ _ L3.wf p3;have L5:=Loc.touchA (q.nt y) (CE (q.out y) T3) _ _ _ _ L4.wf p5;have n3:=L3.next;have n4:=L4.next;have n5:=L5.next;obtain⟨μ3,F3,o1,o2,o3,o4⟩:=EH _ _ k1.1 k2 k8 p1;have hf3:=BW hf2 L3.next L3.top o3;obtain⟨μ4,F4,v1,v2,v3,_⟩:=HS _ _ o2 L3.wf p3;have hf4:=BW hf3 L4.next L4.top v3;obtain⟨μ2,F2,m1,m2,m3,m4⟩:=Ft _ _ (Jd (m:=q.out y) (o4.later' v1)) v2 L4.wf hf4 p5;exact⟨μ2,F2,tup hy m4,m2,k3.trans (o1.trans (v1.trans m1)),k4,λb hb=>by rw[m3 b (by omega),v3 b (by omega),o3 b (by omega),k5 b (by omega)]⟩
 cases x' with
 |normal=>
  obtain⟨T3,H4,f5,f6,p1,g3⟩:=bind_some g2;obtain⟨⟨y,ys⟩,H3,f3,f4,q1,q2⟩:=bind_some g3;obtain⟨rfl,rfl⟩:=Au q2;have L3:=Loc.frzT q.fz T' _ _ _ _ k8 p1;have n3:=L3.next;obtain⟨μ3,F3,o1,o2,o3,o4⟩:=EH q.fz T' k1.1 k2 k8 p1;have:=LF hD q1 (μ:=μ3) (F:=F3) (w:=w') (a:=a') hn' (Jd o4) k1.2 o2 L3.wf (BW hf2 L3.next L3.top o3);refine LoopW.mono this ?_;rintro e a2 w2 ⟨rfl,h1,h2,hy,h5,h6,h7,μ2,F2,m1,m2,m3,m4,m5⟩;exact⟨h1,h2,y,rfl,hy,μ2,F2,tup hy m1,m2,(k3.trans o1).trans m3,WStep.trans (λg o hg=>((k3.trans o1).prot g o hg).1) k4 m4,λb hb=>by rw[m5 b (by omega),o3 b (by omega),k5 b (by omega)]⟩
 |goto l=>exact(At g2).elim
 |exit i=>exact⟨k1.2,hn',.exit i,rfl,.inr ⟨i,rfl⟩,out (.exit i) (.inr ⟨i,rfl⟩) g2⟩
 |ret=>exact⟨k1.2,hn',.ret,rfl,.inl rfl,out .ret (.inl rfl) g2⟩
structure Seat where
 fns:Nat->Option MFn
 own:List (Nat × Nat)
 ext:Nat->Option DF
def Anl(A:Ar)(M:Seat)(D:Orc):Orc:=.mk λk args bs=>match k with
 |.fn f=>(match M.ext f with
  |some d=>d args bs
  |none=>(match M.fns f with
   |some mf=>QG (Fr (fnM A D M.own f mf)) args bs
   |none=>Δ))
 |.lp f i=>(match M.fns f with
  |some mf=>(match mf.loops[i]? with
   |some lc=>QG (Fr (lpM A D M.own f i lc.1 lc.2)) args bs
   |none=>Δ)
  |none=>Δ)
def Dn(A:Ar)(M:Seat):Nat->Orc
 |0=>.no
 |n+1=>Anl A M (Dn A M n)
open Classical in
noncomputable def Bf(A:Ar)(M:Seat):Orc:=.mk λk args bs=>if h:∃ r n,∀ m,n<=m->(Dn A M m).ask k args bs=V r then V h.choose else Δ
section
variable {A:Ar} {M:Seat}
theorem Si{k:Key}{args:Ab}{bs:List ABlk}{r:AV × List BO}(h:(Bf A M).ask k args bs=V r):∃ n,∀ m,n<=m->(Dn A M m).ask k args bs=V r:=by
 unfold Bf Orc.ask at h;simp only at h;split at h
 .rename_i hx
  simp only[ξ]at h;rw[←h];exact hx.choose_spec
 .cases h
open Classical in
theorem AjZ{k:Key}{args:Ab}{bs:List ABlk}{r:AV × List BO}{n:Nat}(h:∀ m,n<=m->(Dn A M m).ask k args bs=V r):(Bf A M).ask k args bs=V r:=by
 have hx:∃ r n,∀ m,n<=m->(Dn A M m).ask k args bs=V r:=⟨r,n,h⟩;have:(Bf A M).ask k args bs=V hx.choose:=by
  unfold Bf
  show (if h:∃ r n,∀ m,n<=m->(Dn A M m).ask k args bs=V r then V h.choose else Δ)=_
  rw[dif_pos hx]
 rw[this];obtain⟨n',h'⟩:=hx.choose_spec;have e1:=h' (max n n') (Nat.le_max_right _ _);have e2:=h (max n n') (Nat.le_max_left _ _);rw[e1]at e2;exact e2
def Ev{β:Type}(A:Ar)(M:Seat)(g:Orc->Option β):Prop:=∀ r,g (Bf A M)=V r->∃ n,∀ m,n<=m->g (Dn A M m)=V r
def EvM{α:Type}(A:Ar)(M:Seat)(g:Orc->AM α):Prop:=∀ H,Ev A M λD=>g D H
theorem EvM.const{α:Type}(x:AM α):EvM A M λ_=>x:=λ_ _ h=>⟨0,λ_ _=>h⟩
theorem EvM.bind{α β:Type}{x:Orc->AM α}{f:Orc->α->AM β}(hx:EvM A M x)(hf:∀ a,EvM A M λD=>f D a):EvM A M λD=>(x D).bind (f D):=λH r h=>by
 simp only[AM.bind]at h ⊢
 cases e1:x (Bf A M) H with
 |none=>rw[e1]at h;cases h
 |some q=>
  obtain⟨a,H1,f1⟩:=q;rw[e1]at h;simp only at h
  cases e2:f (Bf A M) a H1 with
  |none=>rw[e2]at h;cases h
  |some q2=>
   rw[e2]at h;obtain⟨n1,h1⟩:∃ n,∀ m,n<=m->x (Dn A M m) H=V (a,H1,f1):=hx H _ e1;obtain⟨n2,h2⟩:∃ n,∀ m,n<=m->f (Dn A M m) a H1=V q2:=hf a H1 _ e2;refine⟨max n1 n2,λm hm=>?_⟩;rw[h1 m (by omega)];simp only;rw[h2 m (by omega)];exact h
theorem EvM.opt{α:Type}{g:Orc->Option α}(h:Ev A M g):EvM A M λD=>AM.opt (g D):=λH r e=>by
 have e:AM.opt (g (Bf A M)) H=V r:=e
 cases e1:g (Bf A M) with
 |none=>rw[e1]at e;cases e
 |some a=>
  obtain⟨n,hn⟩:=h a e1;refine⟨n,λm hm=>?_⟩
  show AM.opt (g (Dn A M m)) H=V r
  rw[hn m hm];rw[e1]at e;exact e
theorem EvM.callD(k:Key)(args:Ab):EvM A M λD=>callD (D.ask k) args:=by
 unfold Go.Proofs.YtlmhajfbpplpoaaGreat.callD;refine EvM.bind (EvM.const _) λL=>EvM.bind (EvM.const _) λbs=>EvM.bind (EvM.opt λr h=>Si h) λr=>EvM.const _
theorem EvM.callsM(own:List (Nat × Nat))(f:FuncId)(args:Ab):EvM A M λD=>callsM D own f args:=by
 simp_all [Go.Proofs.YtlmhajfbpplpoaaGreat.callsM,EvM.bind,EvM.callD,EvM.const]
theorem EvM.loopsM(f i:Nat)(T:Ab):EvM A M λD=>loopsM D f i T:=by
 simp_all [Go.Proofs.YtlmhajfbpplpoaaGreat.loopsM,EvM.bind,EvM.callD,EvM.const]
theorem EvM.mop{B:Ar}{Γ:Orc->FuncId->Ab->AM AV}(hΓ:∀ f args,EvM A M λD=>Γ D f args)(o:MO)(T:Ab):EvM A M λD=>mop B (Γ D) o T:=by
 cases o with
 |callF f args=>exact hΓ _ _
 |callV ents x args=>
  show EvM A M λD=>(match AS T x with
   |.fn (.func g) a cs=>(match ents.testBit g with
    |true=>Γ D g (a++QW T args++cs)
    |false=>AM.fail)
   |_=>AM.fail)
  split
  .split
   .exact hΓ _ _
   .exact EvM.const _
  .exact EvM.const _
 |_=>exact EvM.const _
theorem EvM.coreM{B:Ar}{Γ:Orc->FuncId->Ab->AM AV}(hΓ:∀ f args,EvM A M λD=>Γ D f args)(o:MOp)(T:Ab):EvM A M λD=>coreM B (Γ D) o T:=by
 unfold Go.Proofs.YtlmhajfbpplpoaaGreat.coreM;split
 .split
  .exact EvM.mop hΓ _ _
  .exact EvM.const _
 .exact EvM.const _
theorem Ev.runM{B:Ar}{Γ:Orc->FuncId->Ab->AM AV}(hΓ:∀ f args,EvM A M λD=>Γ D f args):∀(l:List MOp) (T:Ab) (H:AH),Ev A M λD=>runM B (Γ D) l T H
 |[],T,H=>λr h=>⟨0,λ_ _=>h⟩
 |o::l,T,H=>λr h=>by
  simp only[Go.Proofs.YtlmhajfbpplpoaaGreat.runM]at h ⊢
  cases e1:Go.Proofs.YtlmhajfbpplpoaaGreat.coreM B (Γ (Bf A M)) o T H with
  |none=>rw[e1]at h;cases h
  |some q=>
   obtain⟨v,H1,f1⟩:=q;rw[e1]at h;simp only at h
   cases e2:Go.Proofs.YtlmhajfbpplpoaaGreat.runM B (Γ (Bf A M)) l (Cx T o.dst v) H1 with
   |none=>rw[e2]at h;cases h
   |some q2=>
    rw[e2]at h;obtain⟨n1,h1⟩:∃ n,∀ m,n<=m->Go.Proofs.YtlmhajfbpplpoaaGreat.coreM B (Γ (Dn A M m)) o T H=V (v,H1,f1):=EvM.coreM hΓ o T H _ e1;obtain⟨n2,h2⟩:∃ n,∀ m,n<=m->Go.Proofs.YtlmhajfbpplpoaaGreat.runM B (Γ (Dn A M m)) l (Cx T o.dst v) H1=V q2:=Ev.runM hΓ l _ H1 _ e2;refine⟨max n1 n2,λm hm=>?_⟩;rw[h1 m (by omega)];simp only;rw[h2 m (by omega)];exact h
theorem EvM.regM{B:Ar}{Γ:Orc->FuncId->Ab->AM AV}(hΓ:∀ f args,EvM A M λD=>Γ D f args)(ops:List MOp)(bf:Option (Al))(T:Ab):EvM A M λD=>regM B (Γ D) ops bf T:=λH r h=>by
 simp only[Go.Proofs.YtlmhajfbpplpoaaGreat.regM]at h ⊢
 cases e1:Go.Proofs.YtlmhajfbpplpoaaGreat.runM B (Γ (Bf A M)) ops T H with
 |none=>rw[e1]at h;cases h
 |some q=>
  rw[e1]at h;obtain⟨n1,h1⟩:∃ n,∀ m,n<=m->Go.Proofs.YtlmhajfbpplpoaaGreat.runM B (Γ (Dn A M m)) ops T H=V q:=Ev.runM hΓ ops T H _ e1;exact⟨n1,λm hm=>by rw[h1 m hm];exact h⟩
theorem EvM.evC{B:Ar}{Γ:Orc->FuncId->Ab->AM AV}{Λ:Orc->Nat->Ab->AM (AX × Ab)}(hΓ:∀ f args,EvM A M λD=>Γ D f args)(hΛ:∀ i T,EvM A M λD=>Λ D i T):∀(c:MC) (T:Ab),EvM A M λD=>evC B (Γ D) (Λ D) c T
 |.skip,T=>EvM.const _
 |.reg ops bf,T=>EvM.regM hΓ _ _ _
 |.seq a b,T=>by
  unfold Go.Proofs.YtlmhajfbpplpoaaGreat.evC;refine EvM.bind (EvM.evC hΓ hΛ a T) λr=>?_
  split
  .exact EvM.evC hΓ hΛ b _
  .exact EvM.const _
 |.cond c a b,T=>by
  unfold Go.Proofs.YtlmhajfbpplpoaaGreat.evC;split
  .split
   .exact EvM.evC hΓ hΛ a T
   .exact EvM.evC hΓ hΛ b T
  .exact EvM.const _
 |.block id c,T=>by
  unfold Go.Proofs.YtlmhajfbpplpoaaGreat.evC;exact EvM.bind (EvM.evC hΓ hΛ c T) λr=>EvM.const _
 |.loop i q,T=>by
  unfold Go.Proofs.YtlmhajfbpplpoaaGreat.evC;refine EvM.bind (EvM.const _) λ_=>EvM.bind (EvM.const _) λ_=>?_
  split
  .simp_all [EvM.bind,EvM.const]
  .exact EvM.const _
 |.exit id,T=>EvM.const _
 |.ret,T=>EvM.const _
 |.bad,_=>EvM.const _
theorem EvM.fnM{B:Ar}(own:List (Nat × Nat))(f:Nat)(mf:MFn)(args:Ab):EvM A M λD=>fnM B D own f mf args:=by
 unfold Go.Proofs.YtlmhajfbpplpoaaGreat.fnM;exact EvM.bind (EvM.evC (Γ:=λD=>Go.Proofs.YtlmhajfbpplpoaaGreat.callsM D own) (Λ:=λD=>Go.Proofs.YtlmhajfbpplpoaaGreat.loopsM D f) (EvM.callsM own) (EvM.loopsM f) _ _) λr=>EvM.const _
theorem EvM.lpM{B:Ar}(own:List (Nat × Nat))(f i:Nat)(q:LpH)(c:MC)(T:Ab):EvM A M λD=>lpM B D own f i q c T:=by
 unfold Go.Proofs.YtlmhajfbpplpoaaGreat.lpM;refine EvM.bind (EvM.evC (Γ:=λD=>Go.Proofs.YtlmhajfbpplpoaaGreat.callsM D own) (Λ:=λD=>Go.Proofs.YtlmhajfbpplpoaaGreat.loopsM D f) (EvM.callsM own) (EvM.loopsM f) _ _) λr=>?_
 split
 .simp_all [EvM.bind,EvM.const,EvM.loopsM]
 .exact EvM.const _
 .exact EvM.const _
theorem Ev.gcRun{m:Orc->Ab->AM AV}(h:∀ args,EvM A M λD=>m D args)(args:Ab)(bs:List ABlk):Ev A M λD=>QG (Fr (m D)) args bs:=λr e=>by
 have key:∀ q,Fr (m (Bf A M)) args bs=V q->∃ n,∀ k,n<=k->Fr (m (Dn A M k)) args bs=V q:=λq hq=>by
  unfold Fr at hq ⊢
  cases e1:m (Bf A M) args ⟨Du 0 bs,bs.length,Δ⟩ with
  |none=>rw[e1]at hq;cases hq
  |some x=>
   rw[e1]at hq;obtain⟨n,hn⟩:∃ n,∀ k,n<=k->m (Dn A M k) args ⟨Du 0 bs,bs.length,Δ⟩=V x:=h args _ _ e1;exact⟨n,λk hk=>by rw[hn k hk];exact hq⟩
 have e:QG (Fr (m (Bf A M))) args bs=V r:=e;unfold QG at e
 cases e1:Fr (m (Bf A M)) args bs with
 |none=>rw[e1]at e;cases e
 |some q=>
  rw[e1]at e;obtain⟨n,hn⟩:=key q e1;refine⟨n,λk hk=>?_⟩
  show QG (Fr (m (Dn A M k))) args bs=V r
  unfold QG;rw[hn k hk];exact e
theorem Ng{k:Key}{args:Ab}{bs:List ABlk}{r:AV × List BO}(h:∃ n,∀ m,n<=m->(Anl A M (Dn A M m)).ask k args bs=V r):(Bf A M).ask k args bs=V r:=by
 obtain⟨n,hn⟩:=h;refine AjZ (n:=n+1) λm hm=>?_
 cases m with
 |zero=>omega
 |succ m=>exact hn m (by omega)
theorem AjX{f:Nat}{mf:MFn}(he:M.ext f=Δ)(hf:M.fns f=V mf){args:Ab}{bs:List ABlk}{r:AV × List BO}(h:QG (Fr (fnM A (Bf A M) M.own f mf)) args bs=V r):(Bf A M).ask (.fn f) args bs=V r:=by
 obtain⟨n,hn⟩:=Ev.gcRun (m:=λD=>fnM A D M.own f mf) (λargs=>EvM.fnM M.own f mf args) args bs r h;refine Ng ⟨n,λm hm=>?_⟩
 show (match M.ext f with
  |some d=>d args bs
  |none=>(match M.fns f with
   |some mf=>QG (Fr (fnM A (Dn A M m) M.own f mf)) args bs
   |none=>Δ))=_
 rw[he,hf];exact hn m hm
theorem AjY{f i:Nat}{mf:MFn}{live:LpH}{c:MC}(hf:M.fns f=V mf)(hl:mf.loops[i]? = V (live,c)){args:Ab}{bs:List ABlk}{r:AV × List BO}(h:QG (Fr (lpM A (Bf A M) M.own f i live c)) args bs=V r):(Bf A M).ask (.lp f i) args bs=V r:=by
 obtain⟨n,hn⟩:=Ev.gcRun (m:=λD=>lpM A D M.own f i live c) (λargs=>EvM.lpM M.own f i live c args) args bs r h;refine Ng ⟨n,λm hm=>?_⟩
 show (match M.fns f with
  |some mf=>(match mf.loops[i]? with
   |some lc=>QG (Fr (lpM A (Dn A M m) M.own f i lc.1 lc.2)) args bs
   |none=>Δ)
  |none=>Δ)=_
 rw[hf];simp only[hl];exact hn m hm
theorem BB{f:Nat}{d:DF}(he:M.ext f=V d){args:Ab}{bs:List ABlk}{r:AV × List BO}(h:d args bs=V r):(Bf A M).ask (.fn f) args bs=V r:=
 Ng ⟨0,λm _=>by
  show (match M.ext f with
   |some d=>d args bs
   |none=>(match M.fns f with
    |some mf=>QG (Fr (fnM A (Dn A M m) M.own f mf)) args bs
    |none=>Δ))=_
  rw[he];exact h⟩
end
structure SeatOk (P:Program) (ents:Nat) (M:Seat):Prop where
 mixed:P.follows .mixedOrders=U
 ent:JV P ents
 fns:∀ f mf,M.fns f=V mf->FnOk P ents f mf
 ext:∀ f d,M.ext f=V d->Ca (CW P f) d
theorem DR(P:Program)(ents:Nat)(hs:Ld):∀(c:Code) (n:Nat) (j:Nat) (c':Code),(B6 c)[j]? = V c'->∃ live,(∀ q,hs[n+j]? = V q->live=q)/\(BF P ents hs c n).2[j]? = V (live,(BF P ents hs c' (n+j+1)).1)/\(Mv c=U->Mv c'=U)/\∀ i c2,(B6 c')[i]? = V c2->(B6 c)[j+1+i]? = V c2
 |.skip,n,j,c',h=>by simp[B6]at h
 |.region ..,n,j,c',h=>by simp[B6]at h
 |.seq a b,n,j,c',h=>by
  have h:(B6 a++B6 b)[j]? = V c':=h;have hn:(BF P ents hs (.seq a b) n).2=(BF P ents hs a n).2++(BF P ents hs b (n+(BF P ents hs a n).2.length)).2:=rfl;rw[hn];rcases Av3 j (B6 a).length with hj|hj
  .rw[AwD hj]at h
   obtain⟨live,h0,h1,h2,h3⟩:=DR P ents hs a n j c' h;refine⟨live,h0,by rw[AwD (by rw[Cv];exact hj)];exact h1,λhok=>h2 (by simp only[Mv,AvF]at hok;exact hok.1),λi c2 hi=>?_⟩;have:=h3 i c2 hi
   show (B6 a++B6 b)[j+1+i]? = V c2
   rw[AwD (Av9.1 this).1];exact this
  .rw[Axk hj]at h
   obtain⟨live,h0,h1,h2,h3⟩:=DR P ents hs b (n+(BF P ents hs a n).2.length) (j-(B6 a).length) c' h;have hl:=Cv P ents hs a n;rw[hl]at h0;refine⟨live,λq hq=>h0 q (by rw[show n+(B6 a).length+(j-(B6 a).length)=n+j by omega];exact hq),?_,λhok=>h2 (by simp only[Mv,AvF]at hok;exact hok.2),λi c2 hi=>?_⟩
   .grind
   .grind [B6]
 |.cond q a b,n,j,c',h=>by
  have h:(B6 a++B6 b)[j]? = V c':=h;have hn:(BF P ents hs (.cond q a b) n).2=(BF P ents hs a n).2++(BF P ents hs b (n+(BF P ents hs a n).2.length)).2:=rfl;rw[hn];rcases Av3 j (B6 a).length with hj|hj
  .rw[AwD hj]at h
   obtain⟨live,h0,h1,h2,h3⟩:=DR P ents hs a n j c' h;refine⟨live,h0,by rw[AwD (by rw[Cv];exact hj)];exact h1,λhok=>h2 (by simp only[Mv,AvF]at hok;exact hok.1),λi c2 hi=>?_⟩;have:=h3 i c2 hi
   show (B6 a++B6 b)[j+1+i]? = V c2
   rw[AwD (Av9.1 this).1];exact this
  .rw[Axk hj]at h
   obtain⟨live,h0,h1,h2,h3⟩:=DR P ents hs b (n+(BF P ents hs a n).2.length) (j-(B6 a).length) c' h;have hl:=Cv P ents hs a n;rw[hl]at h0;refine⟨live,λq hq=>h0 q (by rw[show n+(B6 a).length+(j-(B6 a).length)=n+j by omega];exact hq),?_,λhok=>h2 (by simp only[Mv,AvF]at hok;exact hok.2),λi c2 hi=>?_⟩
   .grind
   .grind [B6]
 |.block id a,n,j,c',h=>DR P ents hs a n j c' h
 |.loop a,n,j,c',h=>by
  have h:(a::B6 a)[j]? = V c':=h;have hn:∃ live,(∀ q,hs[n]? = V q->live=q)/\(BF P ents hs (.loop a) n).2=(live,(BF P ents hs a (n+1)).1)::(BF P ents hs a (n+1)).2:=by
   have:BF P ents hs (.loop a) n=(match BF P ents hs a (n+1),hs[n]? with
    |(mc,lc),V h=>(.loop n h,(h,mc)::lc)
    |(mc,lc),Δ=>(.bad,(⟨0,[],[],[],[]⟩,mc)::lc)):=by rw[BF];rfl
   rw[this]
   cases hs[n]? with
   |none=>exact⟨_,λq h=>(by cases h),rfl⟩
   |some q=>exact⟨_,λq' h=>Option.some.inj h,rfl⟩
  obtain⟨live,hq0,hn⟩:=hn;rw[hn]
  cases j with
  |zero=>
   simp only[List.getElem?_cons_zero,ξ]at h;subst h;exact⟨live,hq0,rfl,λhok=>hok,λi c2 hi=>by
    show (a::B6 a)[0+1+i]? = V c2
    rw[show 0+1+i=i+1 by omega];exact hi⟩
  |succ j=>
   simp only[Awa]at h;obtain⟨live',h0,h1,h2,h3⟩:=DR P ents hs a (n+1) j c' h;refine⟨live',λq hq=>h0 q (by rw[show n+1+j=n+(j+1) by omega];exact hq),?_,h2,λi c2 hi=>?_⟩
   .grind
   .grind [B6]
 |.exit _,n,j,c',h=>by simp[B6]at h
 |.ret,n,j,c',h=>by simp[B6]at h
 |.rangeFunc ..,n,j,c',h=>by simp[B6]at h
 |.scope _,n,j,c',h=>by simp[B6]at h
 |.label _,n,j,c',h=>by simp[B6]at h
 |.goto _,n,j,c',h=>by simp[B6]at h
 |.refuse _,n,j,c',h=>by simp[B6]at h
theorem KJ{S:Mw}:Ca S λ_ _=>Δ:=λ_ _ _ _ h=>by cases h
theorem SU{P:Program}{ents:Nat}{M:Seat}(hM:SeatOk P ents M):∀ n,(∀ f,Ca (CW P f) ((Dn Ai M n).ask (.fn f)))/\∀ f mf fn c,M.fns f=V mf->P.funcs[f]? = V fn->fn.body=V c->∀ i c' q mc,(B6 c)[i]? = V c'->mf.loops[i]? = V (q,mc)->Ca (Q0 P q c') ((Dn Ai M n).ask (.lp f i))
 |0=>⟨λ_=>KJ,λ_ _ _ _ _ _ _ _ _ _ _ _ _=>KJ⟩
 |n+1=>by
  obtain⟨ih1,ih2⟩:=SU hM n;have hΓ:=SQ (P:=P) M.own ih1;refine⟨λf=>?_,λf mf fn c h0 h1 h2 i c' q mc hi hq=>?_⟩
  .have hd:(Dn Ai M (n+1)).ask (.fn f)=λargs bs=>(match M.ext f with
     |some d=>d args bs
     |none=>(match M.fns f with
      |some mf=>QG (Fr (fnM Ai (Dn Ai M n) M.own f mf)) args bs
      |none=>Δ)):=rfl
   rw[hd]
   cases e:M.ext f with
   |some d=>exact hM.ext f d e
   |none=>
    cases e2:M.fns f with
    |none=>exact KJ
    |some mf=>
     obtain⟨fn,c,hs,k1,k2,k3,k4,k5,k6,k7,k8⟩:=(hM.fns f mf e2).ok;refine UJ (CV P f) (R9 (Aa3 M.own hM.mixed hM.ent k1 k2 k3 k4 k5 k6 k7 hΓ λj c' q hj hq=>LG ?_) λargs=>Loc.fnM _ _ _ _ _ _);obtain⟨live,q0,q1,_,_⟩:=DR P ents hs c 0 j c' hj;rw[AvW]at q0;rw[q0 q hq]at q1;exact ih2 f mf fn c e2 k1 k2 j c' q _ hj (by rw[k8];exact q1)
  .have hd:(Dn Ai M (n+1)).ask (.lp f i)=λargs bs=>(match M.fns f with
     |some mf=>(match mf.loops[i]? with
      |some lc=>QG (Fr (lpM Ai (Dn Ai M n) M.own f i lc.1 lc.2)) args bs
      |none=>Δ)
     |none=>Δ):=rfl
   rw[hd,h0];simp only[hq];obtain⟨fn',c0,hs,k1,k2,k3,k4,k5,k6,k7,k8⟩:=(hM.fns f mf h0).ok;rw[h1]at k1
   cases k1
   rw[h2]at k2
   cases k2
   obtain⟨live,q0,q1,q2,q3⟩:=DR P ents hs c 0 i c' hi;rw[k8,q1]at hq;simp only[ξ,Prod.mk.injEq]at hq;obtain⟨rfl,rfl⟩:=hq;refine UJ (Qi P live c') (R9 (Abs M.own hM.mixed hM.ent (q2 k3) hΓ (λj c2 q hj hq=>?_) (ih2 f mf fn c h0 h1 h2 i c' live _ hi (by rw[k8];exact q1))) λargs=>Loc.lpM _ _ _ _ _ _ _ _);rw[show 0+i+1+j=i+1+j by omega];obtain⟨live2,p0,p1,_,_⟩:=DR P ents hs c 0 (i+1+j) c2 (q3 j c2 hj);rw[show 0+(i+1+j)=0+i+1+j by omega]at p0;rw[p0 q hq]at p1;exact LG (ih2 f mf fn c h0 h1 h2 (i+1+j) c2 q _ (q3 j c2 hj) (by rw[k8];exact p1))
theorem DQ{P:Program}{ents:Nat}{M:Seat}(hM:SeatOk P ents M)(f:FuncId):Ca (CW P f) ((Bf Ai M).ask (.fn f)):=by
 intro args bs r out h;obtain⟨n,hn⟩:=Si h;exact(SU hM n).1 f args bs r out (hn n (η _))
