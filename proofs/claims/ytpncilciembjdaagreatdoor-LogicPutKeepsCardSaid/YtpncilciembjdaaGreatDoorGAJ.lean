/- Renaming the numbers of -/
import Derived.Test.YtpncilciembjdaaGreatDoorGAI
set_option linter.all false
open Bool renaming false->Ξ,true->U,and_eq_true->Aqr
open List renaming all_eq_true->Aqt,getElem?_append->As4,getElem?_append_left->Aq5,getElem?_append_right->Aq2,getElem?_cons_succ->AqA,getElem?_eq_getElem->θ,getElem?_eq_none->Ara,getElem?_eq_some_iff->Aqo,getElem?_inj->AsI,getElem?_map->AqD,getElem?_replicate->AsS,getElem?_set->Asn,getElem?_take->AqH,length_append->χ,length_cons->ε,length_map->Aqy,length_nil->Aq8,length_set->AqW,length_take->AqT,map_cons->AqF,mem_append->AqZ,mem_cons->ι,mem_of_getElem?->AqB,mem_singleton->Aq1,nodup_append->Ath
open Nat renaming add_assoc->AqP,add_sub_cancel_left->AsV,beq->AqO,blt->Arx,eq_of_beq_eq_true->AqG,le_add_right->Asj,le_refl->ω,le_trans->AqS,lt_or_ge->AqJ
open Option renaming none->Θ,some->Δ,map_some->AqQ
namespace Go.Proofs.YtpncilciembjdaaGreatDoor
open Option.some renaming injEq->Ψ
open Go.RowKit
section
variable {F:Az} {w:World}
mutual
theorem C7(μ μ':Mu):∀(x:AV) (u:Value),x.noid=U->Rep μ F w x u->Rep μ' F w x u
 |.v x,u,_,h=>by simpa only[Rep]using h
 |.ptr b o,u,hn,_=>by simp[AV.noid]at hn
 |.sl b o n e,u,hn,_=>by simp[AV.noid]at hn
 |.ls xs,u,_,h=>by
  simp only[Rep]at h ⊢;obtain⟨h0,A,c,h1,h2,h3,h4⟩:=h;refine⟨h0,A,c,h1,h2,h3,λhne=>?_⟩;obtain⟨g,o,e,hA,hr⟩:=h4 hne;exact⟨g,o,e,hA,JP μ μ' g e xs o h0 hr⟩
 |.lp cs,u,_,h=>by
  simp only[Rep]at h ⊢;obtain⟨h0,g,o,h1,h2⟩:=h;exact⟨h0,g,o,h1,I7 μ μ' g cs o h0 h2⟩
 |.agg cs,u,hn,h=>by
  simp only[Rep]at h ⊢;simp only[AV.noid]at hn;obtain⟨us,h1,h2⟩:=h;exact⟨us,h1,CX μ μ' cs _ hn h2⟩
 |.tup cs,u,hn,h=>by
  simp only[Rep]at h ⊢;simp only[AV.noid]at hn;obtain⟨us,h1,h2⟩:=h;exact⟨us,h1,CX μ μ' cs _ hn h2⟩
 |.fn f a c,u,hn,h=>by
  simp only[Rep]at h ⊢;simp only[AV.noid,Aqr]at hn;obtain⟨ua,uc,h1,h2,h3⟩:=h;exact⟨ua,uc,h1,CX μ μ' a _ hn.1 h2,CX μ μ' c _ hn.2 h3⟩
 |.any,_,_,_=>by simp only[Rep]
theorem JP(μ μ':Mu)(g e:Nat):∀(xs:List (List AV)) (o:Nat),Fz xs=U->RepRows μ F w g e xs o->RepRows μ' F w g e xs o
 |[],_,_,_=>by simp only[RepRows]
 |x::r,o,hn,h=>by
  simp only[RepRows]at h ⊢;simp only[Fz,List.all_cons,Aqr]at hn;exact⟨h.1,I7 μ μ' g x o hn.1 h.2.1,JP μ μ' g e r _ hn.2 h.2.2⟩
theorem I7(μ μ':Mu)(g:Nat):∀(xs:List AV) (o:Nat),AA xs=U->RepAt μ F w g xs o->RepAt μ' F w g xs o
 |[],_,_,_=>by simp only[RepAt]
 |x::r,o,hn,h=>by
  simp only[RepAt]at h ⊢;simp only[AA,Aqr]at hn;obtain⟨⟨h1,u,h2,h3⟩,h4⟩:=h;exact⟨⟨h1,u,h2,C7 μ μ' x u hn.1 h3⟩,I7 μ μ' g r _ hn.2 h4⟩
theorem CX(μ μ':Mu):∀(xs:List AV) (us:List Value),AA xs=U->RepList μ F w xs us->RepList μ' F w xs us
 |[],us,_,h=>by simpa only[RepList]using h
 |x::r,us,hn,h=>by
  simp only[RepList]at h ⊢;simp only[AA,Aqr]at hn;obtain⟨u,t,h1,h2,h3⟩:=h;exact⟨u,t,h1,C7 μ μ' x u hn.1 h2,CX μ μ' r t hn.2 h3⟩
end
mutual
theorem If{μ₁ μ₂:Mu}{τ:Nat->Nat}:∀(x:AV) (u:Value),(∀ c∈x.ids,μ₂ (τ c)=μ₁ c)->(Rep μ₂ F w (x.ren τ) u ↔ Rep μ₁ F w x u)
 |.v x,u,_=>by simp only[AV.ren,Rep]
 |.ptr b o,u,h=>by
  simp only[AV.ids,Aq1,forall_eq]at h;simp only[AV.ren,Rep,h]
 |.sl b o n e,u,h=>by
  simp only[AV.ids,Aq1,forall_eq]at h;simp only[AV.ren,Rep,h]
 |.ls xs,u,_=>by
  simp only[AV.ren];exact⟨C7 μ₂ μ₁ _ _ rfl,C7 μ₁ μ₂ _ _ rfl⟩
 |.lp cs,u,_=>by
  simp only[AV.ren];exact⟨C7 μ₂ μ₁ _ _ rfl,C7 μ₁ μ₂ _ _ rfl⟩
 |.agg cs,u,h=>by
  simp only[AV.ids]at h;simp only[AV.ren,Rep];constructor
  .rintro⟨us,h1,h2⟩;exact⟨us,h1,(BN cs _ h).1 h2⟩
  .rintro⟨us,h1,h2⟩;exact⟨us,h1,(BN cs _ h).2 h2⟩
 |.tup cs,u,h=>by
  simp only[AV.ids]at h;simp only[AV.ren,Rep];constructor
  .rintro⟨us,h1,h2⟩;exact⟨us,h1,(BN cs _ h).1 h2⟩
  .rintro⟨us,h1,h2⟩;exact⟨us,h1,(BN cs _ h).2 h2⟩
 |.fn f a c,u,h=>by
  simp only[AV.ids,AqZ]at h;simp only[AV.ren,Rep];constructor
  .rintro⟨ua,uc,h1,h2,h3⟩;exact⟨ua,uc,h1,(BN a _ λc hc=>h c (.inl hc)).1 h2,(BN c _ λc hc=>h c (.inr hc)).1 h3⟩
  .rintro⟨ua,uc,h1,h2,h3⟩;exact⟨ua,uc,h1,(BN a _ λc hc=>h c (.inl hc)).2 h2,(BN c _ λc hc=>h c (.inr hc)).2 h3⟩
 |.any,_,_=>by simp only[AV.ren,Rep]
theorem BN{μ₁ μ₂:Mu}{τ:Nat->Nat}:∀(xs:List AV) (us:List Value),(∀ c∈DZ xs,μ₂ (τ c)=μ₁ c)->(RepList μ₂ F w (GF τ xs) us ↔ RepList μ₁ F w xs us)
 |[],us,_=>by simp only[GF,RepList]
 |x::r,us,h=>by
  simp only[DZ,AqZ]at h;simp only[GF,RepList];constructor
  .rintro⟨u,t,h1,h2,h3⟩;exact⟨u,t,h1,(If x _ λc hc=>h c (.inl hc)).1 h2,(BN r _ λc hc=>h c (.inr hc)).1 h3⟩
  .rintro⟨u,t,h1,h2,h3⟩;exact⟨u,t,h1,(If x _ λc hc=>h c (.inl hc)).2 h2,(BN r _ λc hc=>h c (.inr hc)).2 h3⟩
end
mutual
theorem VQ{μ:Mu}:∀(x:AV) (u:Value),Rep μ F w x u->∀ c∈x.ids,∃ p,μ c=Δ p
 |.v x,u,_,c,hc=>by simp[AV.ids]at hc
 |.ptr b o,u,h,c,hc=>by
  simp only[AV.ids,Aq1]at hc;subst hc;simp only[Rep]at h;exact⟨_,h.choose_spec.1⟩
 |.sl b o n e,u,h,c,hc=>by
  simp only[AV.ids,Aq1]at hc;subst hc;simp only[Rep]at h;exact⟨_,h.choose_spec.1⟩
 |.ls xs,u,_,c,hc=>by simp[AV.ids]at hc
 |.lp cs,u,_,c,hc=>by simp[AV.ids]at hc
 |.agg cs,u,h,c,hc=>by
  simp only[Rep]at h;obtain⟨us,_,h2⟩:=h;exact D5 cs _ h2 c hc
 |.tup cs,u,h,c,hc=>by
  simp only[Rep]at h;obtain⟨us,_,h2⟩:=h;exact D5 cs _ h2 c hc
 |.fn f a k,u,h,c,hc=>by
  simp only[Rep]at h;obtain⟨ua,uc,_,h2,h3⟩:=h;simp only[AV.ids,AqZ]at hc;rcases hc with hc|hc
  .exact D5 a _ h2 c hc
  .exact D5 k _ h3 c hc
 |.any,_,_,c,hc=>by simp[AV.ids]at hc
theorem D5{μ:Mu}:∀(xs:List AV) (us:List Value),RepList μ F w xs us->∀ c∈DZ xs,∃ p,μ c=Δ p
 |[],us,_,c,hc=>by simp[DZ]at hc
 |x::r,us,h,c,hc=>by
  simp only[RepList]at h;obtain⟨u,t,_,h2,h3⟩:=h;simp only[DZ,AqZ]at hc;rcases hc with hc|hc
  .exact VQ x u h2 c hc
  .exact D5 r t h3 c hc
end
theorem JH{c:Nat}:∀{xs:List AV},c∈DZ xs ↔ ∃ x∈xs,c∈x.ids
 |[]=>by simp[DZ]
 |x::r=>by simp[DZ,JH (xs:=r)]
theorem Mm(τ:Nat->Nat):∀ xs,GF τ xs=xs.map (AV.ren τ)
 |[]=>rfl
 |x::r=>by simp[GF,Mm τ r]
mutual
theorem AkR{τ:Nat->Nat}(h:∀ c,τ c=c):∀ x:AV,x.ren τ=x
 |.v x=>rfl
 |.ptr b o=>by simp only[AV.ren,h]
 |.sl b o n e=>by simp only[AV.ren,h]
 |.ls xs=>rfl
 |.lp cs=>rfl
 |.agg cs=>by simp only[AV.ren,Ie h cs]
 |.tup cs=>by simp only[AV.ren,Ie h cs]
 |.fn f a c=>by simp only[AV.ren,Ie h a,Ie h c]
 |.any=>rfl
theorem Ie{τ:Nat->Nat}(h:∀ c,τ c=c):∀ xs:List AV,GF τ xs=xs
 |[]=>rfl
 |x::r=>by simp only[GF,AkR h x,Ie h r]
end
def Shape(k k':ABlk):Prop:=k'.cells.length=k.cells.length/\k'.st=k.st/\k'.ex=k.ex
theorem B4(τ:Nat->Nat)(k:ABlk):Shape k (k.ren τ):=by
 unfold ABlk.ren
 cases e:k.ex with
 |true=>exact⟨rfl,rfl,rfl⟩
 |false=>exact⟨by simp[Mm],rfl,by simp[e]⟩
theorem Shape.owns{k k':ABlk}(h:Shape k k')(room i:Nat):k'.owns room i ↔ k.owns room i:=by
 unfold ABlk.owns;rw[h.1,h.2.1,h.2.2]
theorem Shape.symm{k k':ABlk}(h:Shape k k'):Shape k' k:=⟨h.1.symm,h.2.1.symm,h.2.2.symm⟩
theorem ME{μ:Mu}{p:Pl}{k:ABlk}(h:BRep μ F w p k):∀ c∈k.ids,∃ q,μ c=Δ q:=by
 intro c hc;unfold ABlk.ids at hc;split at hc
 .cases hc
 .obtain⟨x,hx,hcx⟩:=JH.1 hc
  obtain⟨i,hi⟩:=List.getElem?_of_mem hx;obtain⟨u,_,hr⟩:=h.cell i x hi;exact VQ x u hr c hcx
theorem FV{μ μ':Mu}{p:Pl}{k k':ABlk}(hs:Shape k k')(h:BRep μ F w p k)(hc:∀ i x,k'.cells[i]? = Δ x->∃ u,w.cell? ⟨p.g,p.o+i,Θ⟩=Δ u/\Rep μ' F w x u)(hp:k'.ex=U->AA k'.cells=U):BRep μ' F w p k':=
 ⟨hc,by rw[hs.1];exact h.room,h.there,λh1 i hi=>h.kept (by rw[←hs.2.1];exact h1) i (by rw[←hs.1];exact hi),λi hi=>h.free i ((hs.owns _ _).1 hi),hp⟩
theorem Aat{τ:Nat->Nat}{k:ABlk}(e:k.ex=U):k.ren τ=k:=by unfold ABlk.ren;rw[e]
theorem Xg{τ:Nat->Nat}{k:ABlk}(e:k.ex=Ξ):(k.ren τ).cells=GF τ k.cells:=by unfold ABlk.ren;rw[e]
theorem WN{k:ABlk}(e:k.ex=Ξ):k.ids=DZ k.cells:=by unfold ABlk.ids;rw[e]
theorem CN{μ₁ μ₂:Mu}{τ:Nat->Nat}{p:Pl}{k:ABlk}(h:∀ c∈k.ids,μ₂ (τ c)=μ₁ c):BRep μ₂ F w p (k.ren τ) ↔ BRep μ₁ F w p k:=by
 have hs:=B4 τ k
 cases e:k.ex with
 |true=>
  rw[Aat e];have key:∀{μ μ':Mu},BRep μ F w p k->BRep μ' F w p k:=λ{μ μ'} hb=>FV ⟨rfl,rfl,rfl⟩ hb (λi x hx=>by
   obtain⟨u,h2,h3⟩:=hb.cell i x hx;have en:=hb.pure e;rw[Bp,Aqt]at en;exact⟨u,h2,C7 μ μ' x u (en x (AqB hx)) h3⟩) hb.pure
  exact⟨key,key⟩
 |false=>
  have hc:=Xg (τ:=τ) e;rw[WN e]at h;constructor
  .intro hb
   refine FV hs.symm hb (λi x hx=>?_) (λh=>by rw[e]at h;cases h);obtain⟨u,h2,h3⟩:=hb.cell i (x.ren τ) (by rw[hc,Mm,AqD,hx];rfl);exact⟨u,h2,(If x u λc hcx=>h c (JH.2 ⟨x,AqB hx,hcx⟩)).1 h3⟩
  .intro hb
   refine FV hs hb (λi x hx=>?_) (λh=>by rw[hs.2.2,e]at h;cases h);rw[hc,Mm,AqD]at hx
   cases e1:k.cells[i]? with
   |none=>rw[e1]at hx;cases hx
   |some y=>
    rw[e1]at hx;simp only[AqQ,Ψ]at hx;subst hx;obtain⟨u,h2,h3⟩:=hb.cell i y e1;exact⟨u,h2,(If y u λc hcx=>h c (JH.2 ⟨y,AqB e1,hcx⟩)).2 h3⟩
theorem Tt(k:ABlk):k.ren id=k:=by
 cases e:k.ex with
 |true=>exact Aat e
 |false=>
  obtain⟨cs,st,ex⟩:=k;simp only at e;subst e;simp only[ABlk.ren,Ie (τ:=id) λ_=>rfl]
theorem U3{μ₁ μ₂:Mu}{p:Pl}{k:ABlk}(h:∀ c∈k.ids,μ₂ c=μ₁ c)(hB:BRep μ₁ F w p k):BRep μ₂ F w p k:=by
 have:=(CN (τ:=id) h).2 hB
 rwa [Tt]at this
theorem Jy{μ₁ μ₂:Mu}{H₁ H₂:Nat->Option ABlk}(f:Nat->Nat)(h:HRep μ₁ F w H₁)(inj:∀ b b' k k',H₂ b=Δ k->H₂ b'=Δ k'->f b=f b'->b=b')
  (hb:∀ b k₂,H₂ b=Δ k₂->∃ k₁,H₁ (f b)=Δ k₁/\μ₂ b=μ₁ (f b)/\Shape k₁ k₂/\∀ p,BRep μ₁ F w p k₁->BRep μ₂ F w p k₂):HRep μ₂ F w H₂:=by
 refine⟨λb k hk=>?_,λb b' k k' p p' hne hk hk' hp hp' i i' ho ho'=>?_,h.prot⟩
 .obtain⟨k₁,h1,h2,_,h3⟩:=hb b k hk
  obtain⟨p,hp,hB⟩:=h.blk _ _ h1;exact⟨p,h2.trans hp,h3 p hB⟩
 .obtain⟨k₁,h1,h2,h3,_⟩:=hb b k hk
  obtain⟨k₁',h1',h2',h3',_⟩:=hb b' k' hk';exact h.apart (f b) (f b') k₁ k₁' p p' (λe=>hne (inj b b' k k' hk hk' e)) h1 h1' (by rw[←h2];exact hp) (by rw[←h2'];exact hp') i i' ((h3.owns _ _).1 ho) ((h3'.owns _ _).1 ho')
end
abbrev J7:=List Value->World->(Value->World->Prop)->Prop
def Ov(S:J7):Prop:=∀ us w Q Q',S us w Q->(∀ u w',Q u w'->Q' u w')->S us w Q'
def PO(S:J7)(m:List AV->AM AV):Prop:=∀(args:List AV) (μ:Mu) (F:Az) (w:World) (H:AH) (us:List Value),RepList μ F w args us->HRep μ F w H.get->H.wf->BD μ H->
 ∀ r H' ft,m args H=Δ (r,H',ft)->S us w λu w'=>Post μ F w H r H' u w'
def CM(bs:List ABlk)(out:List BO)(b:Nat):Option ABlk:=match out[b]? with
 |some .keep=>bs[b]?
 |some (.set k)=>Δ k
 |_=>Θ
def AN(S:J7)(D:DF):Prop:=∀ args bs r out,D args bs=Δ (r,out)->bs.length<=out.length/\∃ t0,out.length<=t0/\∀ t,t0<=t->∀(μ:Mu) (F:Az) (w:World) (KL:List (Nat × ABlk)) (us:List Value),(∀ p∈KL,t<=p.1)->
 RepList μ F w args us->HRep μ F w (λb=>if b<t then bs[b]? else look b KL)->(∀ b,bs.length<=b->b<t->μ b=Θ)->
 S us w λu w'=>∃ μ' F',Rep μ' F' w' r u/\HRep μ' F' w' (λb=>if b<t then CM bs out b else look b KL)/\Later μ μ' F F' w w'/\WStep F w w'/\∀ b,(b<bs.length\/out.length<=b)->μ' b=μ b
theorem Qa(b:Nat):∀ l,EG b l=l.contains b
 |[]=>rfl
 |c::r=>by
  unfold EG;rw[AiU];simp only[List.contains_cons]
  cases e:b == c with
  |true=>simp
  |false=>simp[Qa b r]
theorem Fs{b:Nat}{l:List Nat}:EG b l=U ↔ b∈l:=by rw[Qa];simp
theorem KJ(KL:List (Nat × ABlk)):∀(bs:List ABlk) (n b:Nat),look b (CK n bs++KL)=if n<=b/\b<n+bs.length then bs[b-n]? else look b KL
 |[],n,b=>by
  simp only[CK,List.nil_append,Aq8,Nat.add_zero];rw[if_neg (by omega)]
 |k::r,n,b=>by
  simp only[CK,List.cons_append,look]
  by_cases h:n=b
  .subst h
   simp
  .rw[if_neg h,KJ KL r (n+1) b]
   by_cases h2:n<=b
   .by_cases h3:b<n+1+r.length
    .rw[if_pos (by omega),if_pos (by simp;omega)]
     rw[show b-n=(b-(n+1))+1 by omega];simp
    .rw[if_neg (by omega),if_neg (by simp;omega)]
   .rw[if_neg (by omega),if_neg (by omega)]
theorem WV{KL:List (Nat × ABlk)}{t b:Nat}(h:∀ p∈KL,t<=p.1)(hb:b<t):look b KL=Θ:=by
 induction KL with
 |nil=>rfl
 |cons p r ih=>
  obtain⟨c,k⟩:=p;simp only[look];have:=h (c,k) (by simp);simp only at this;rw[if_neg (by omega)];exact ih λp hp=>h p (by simp[hp])
theorem IW:∀(n a i:Nat),(DB a n)[i]? = if i<n then Δ (a+i) else Θ
 |0,a,i=>by simp[DB]
 |n+1,a,0=>by simp[DB]
 |n+1,a,i+1=>by
  simp only[DB,AqA,IW n (a+1) i,Nat.add_lt_add_iff_right];rw[show a+1+i=a+(i+1) by omega]
theorem Fg:∀(n a:Nat),(DB a n).length=n
 |0,a=>rfl
 |n+1,a=>by simp[DB,Fg n]
theorem Pn{S:J7}{m:List AV->AM AV}(hS:PO S m)(hL:∀ args,Loc (m args)):AN S (Ef m):=by
 intro args bs r out h;unfold Ef at h;rcases e:m args ⟨CK 0 bs,bs.length,Θ⟩ with _|⟨r0,H',ft⟩<;>rw[e]at h
 .cases h
 simp only[Ψ,Prod.mk.injEq]at h;obtain⟨rfl,hout⟩:=h;have get0:∀ b,AH.get ⟨CK 0 bs,bs.length,Θ⟩ b=bs[b]?:=λb=>by
  have:=KJ [] bs 0 b;rw[List.append_nil]at this
  show look b (CK 0 bs)=_
  rw[this]
  by_cases hb:b<bs.length
  .rw[if_pos (by omega)];rfl
  .rw[if_neg (by omega),Ara (by omega)];rfl
 have wf0:AH.wf ⟨CK 0 bs,bs.length,Θ⟩:=λb hb _=>by
  rw[get0,Ara hb]
 have L:=hL args _ _ _ _ wf0 e;have hn:bs.length<=H'.next:=L.next;have hlen:out.length=H'.next:=by
  rw[←hout];simp only[χ,Aqy,Fg];omega
 refine⟨by omega,H'.next,by omega,λt ht μ F w KL us hKL hr hH hμ=>?_⟩;have getK:∀ b,AH.get ⟨CK 0 bs++KL,bs.length,Δ t⟩ b=if b<t then bs[b]? else look b KL:=λb=>by
  show look b (CK 0 bs++KL)=_
  rw[KJ KL bs 0 b]
  by_cases hb:b<bs.length
  .rw[if_pos (by omega),if_pos (by omega)];rfl
  .rw[if_neg (by omega)]
   by_cases hbt:b<t
   .rw[if_pos hbt,WV hKL hbt,Ara (by omega)]
   .rw[if_neg hbt]
 have lt:∀ b,b∈ft.rd\/b∈ft.wr->b<H'.next:=λb hb=>by
  rcases AqJ b H'.next with h1|h1
  .exact h1
  .exact absurd (show AH.below ⟨CK 0 bs,bs.length,Θ⟩ b from λt h=>by cases h) (L.bound b hb h1)
 obtain⟨K',k1,k2,k3,k4⟩:=L.move ⟨CK 0 bs++KL,bs.length,Δ t⟩ rfl (λb _ h2=>λt' ht'=>by cases ht';omega) (λb hb hx=>by
  rw[getK,get0];have:=lt b hb;rw[if_pos (by omega)])
 have hwK:AH.wf ⟨CK 0 bs++KL,bs.length,Δ t⟩:=λb h1 h2=>by
  rw[getK];have h1':bs.length<=b:=h1;have h2':b<t:=h2 t rfl;rw[if_pos h2',Ara h1']
 have hfK:BD μ ⟨CK 0 bs++KL,bs.length,Δ t⟩:=λb h1 h2=>hμ b h1 (h2 t rfl)
 have hHK:HRep μ F w (AH.get ⟨CK 0 bs++KL,bs.length,Δ t⟩):=by
  have:(AH.get ⟨CK 0 bs++KL,bs.length,Δ t⟩)=λb=>if b<t then bs[b]? else look b KL:=funext getK
  rw[this];exact hH
 have hPost:=hS args μ F w _ us hr hHK hwK hfK _ _ _ k1;have hK':K'.get=λb=>if b<t then CM bs out b else look b KL:=by
  funext b
  rw[k4,getK];have hob:out[b]? = if b<bs.length then Δ (Uu H' ft.wr b) else if b<H'.next then Δ (Af8 H' b) else Θ:=by
   rw[←hout,As4];simp only[Aqy,Fg,AqD,IW]
   by_cases h1:b<bs.length
   .rw[if_pos h1,if_pos h1,if_pos h1];simp
   .rw[if_neg h1,if_neg h1]
    by_cases h2:b<H'.next
    .rw[if_pos (by omega),if_pos h2,show bs.length+(b-bs.length)=b by omega];rfl
    .rw[if_neg (by omega),if_neg h2];rfl
  unfold CM;rw[hob]
  by_cases hbt:b<t
  .rw[if_pos hbt,if_pos hbt]
   by_cases h1:b<bs.length
   .rw[if_pos h1]
    simp only[Uu]
    cases e1:EG b ft.wr with
    |true=>
     rw[if_pos (Fs.1 e1)]
     cases H'.get b<;>rfl
    |false=>
     rw[if_neg (λhc=>by rw[Fs.2 hc]at e1;cases e1)]
   .rw[if_neg h1]
    by_cases h2:b<H'.next
    .rw[if_pos h2]
     rw[if_pos (L.new b (by show bs.length<=b;omega) h2)];simp only[Af8]
     cases H'.get b<;>rfl
    .rw[if_neg h2]
     rw[if_neg (λhc=>h2 (lt b (.inr hc))),Ara (by omega)]
  .rw[if_neg hbt,if_neg hbt,if_neg (λhc=>by have:=lt b (.inr hc);omega)]
 have:(λu w'=>Post μ F w ⟨CK 0 bs++KL,bs.length,Δ t⟩ r0 K' u w')=λu w'=>∃ μ' F',Rep μ' F' w' r0 u/\HRep μ' F' w' (λb=>if b<t then CM bs out b else look b KL)/\Later μ μ' F F' w w'/\WStep F w w'/\∀ b,(b<bs.length\/out.length<=b)->μ' b=μ b:=by
  funext u w'
  unfold Post;rw[hK',k2,←hlen]
 rw[this]at hPost;exact hPost
theorem Wf(a b:Nat):Arx a b=decide (a<b):=Bool.eq_iff_iff.2 (by simp[Arx];omega)
theorem Qq:∀(l:List BO) (n:Nat),Us l n=l[n]?
 |[],_=>by simp[Us]
 |x::r,0=>by simp[Us]
 |x::r,n+1=>by simp[Us,Qq r n]
theorem N0:∀(l:List BO) (n:Nat),ID l n=l.take n
 |[],_=>by simp[ID]
 |x::r,0=>by simp[ID]
 |x::r,n+1=>by simp[ID,N0 r n]
theorem VP(τ:Nat->Nat):∀ l,Aas τ l=l.map (BO.ren τ)
 |[]=>rfl
 |x::r=>by simp[Aas,VP τ r]
theorem SF(τ:Nat->Nat)(out:List BO):∀ l,SE τ out l=l.map λb=>match out[b]? with
  |some o=>o.ren τ
  |none=>.del
 |[]=>rfl
 |x::r=>by
  simp only[SE,Qq,AqF,SF τ out r];rfl
theorem Su{c:Nat}:∀{l:List BO},c∈Uf l ↔ ∃ o∈l,c∈o.ids
 |[]=>by simp[Uf]
 |o::r=>by simp[Uf,Su (l:=r)]
theorem Dx{b:Nat}:∀{l:List Nat},b∈l->l[idx b l]? = Δ b
 |[],h=>by cases h
 |c::r,h=>by
  unfold idx;rw[AiU]
  by_cases e:b=c
  .subst e;simp
  .have:(b == c)=Ξ:=by simpa using e
   rw[this];simp only[AqA];exact Dx (by rcases ι.1 h with h|h;exact absurd h e;exact h)
theorem KA{b:Nat}{l:List Nat}(h:b∈l):idx b l<l.length:=(Aqo.1 (Dx h)).1
structure GcOk (k:Nat) (out:List BO) (todo acc acc':List Nat):Prop where
 sub:∀ b∈acc,b∈acc'
 nodup:acc.Nodup->acc'.Nodup
 new:∀ b∈acc',b∈acc\/(k<=b/\∃ kb,out[b]? = Δ (.set kb)/\∀ c∈kb.ids,c<k\/c∈acc')
 todo:∀ b∈todo,b<k\/b∈acc'
theorem HM(k:Nat)(out:List BO):∀(n:Nat) (todo acc acc':List Nat),Fa k out n todo acc=Δ acc'->GcOk k out todo acc acc'
 |n,[],acc,acc',h=>by
  have:acc=acc':=by cases n<;>(unfold Fa at h;simpa using h)
  subst this;exact⟨λ_ h=>h,λh=>h,λ_ h=>.inl h,λ_ h=>by cases h⟩
 |0,b::r,acc,acc',h=>by unfold Fa at h;cases h
 |n+1,b::r,acc,acc',h=>by
  unfold Fa at h
  cases e1:Arx b k with
  |true=>
   rw[e1]at h;have ih:=HM k out n r acc acc' h;have hbk:b<k:=by simpa[Wf]using e1
   exact⟨ih.sub,ih.nodup,ih.new,λc hc=>by
    rcases ι.1 hc with rfl|hc
    .exact .inl (by omega)
    .exact ih.todo c hc⟩
  |false=>
   rw[e1]at h;have hbk:k<=b:=by
    have:¬ b<k:=by simpa[Wf]using e1
    omega
   cases e2:EG b acc with
   |true=>
    rw[e2]at h;have ih:=HM k out n r acc acc' h;exact⟨ih.sub,ih.nodup,ih.new,λc hc=>by
     rcases ι.1 hc with rfl|hc
     .exact .inr (ih.sub _ (Fs.1 e2))
     .exact ih.todo c hc⟩
   |false=>
    rw[e2]at h;simp only[Qq]at h;have hb:b∉acc:=λhc=>by rw[Fs.2 hc]at e2;cases e2
    cases e3:out[b]? with
    |none=>rw[e3]at h;cases h
    |some o=>
     rw[e3]at h
     cases o with
     |keep=>cases h
     |del=>cases h
     |set kb=>
      have ih:=HM k out n (r++kb.ids) (acc++[b]) acc' h;refine⟨λc hc=>ih.sub c (by simp[hc]),λhn=>ih.nodup ?_,λc hc=>?_,λc hc=>?_⟩
      .rw[Ath]
       exact⟨hn,by simp,λx hx y hy=>by simp at hy;subst hy;exact λe=>hb (e▸hx)⟩
      .rcases ih.new c hc with h1|h1
       .simp only[AqZ,Aq1]at h1
        rcases h1 with h1|rfl
        .exact .inl h1
        .exact .inr ⟨hbk,kb,e3,λd hd=>ih.todo d (by simp[hd])⟩
       .exact .inr h1
      .rcases ι.1 hc with rfl|hc
       .exact .inr (ih.sub _ (by simp))
       .exact ih.todo c (by simp[hc])
theorem Ajt{k:Nat}{acc:List Nat}{b:Nat}(h:b<k):WB k acc b=b:=by
 unfold WB;rw[show Arx b k=U by simp[Wf];omega]
theorem Ajs{k:Nat}{acc:List Nat}{b:Nat}(h:k<=b):WB k acc b=k+idx b acc:=by
 unfold WB;rw[show Arx b k=Ξ by simp[Wf];omega]
theorem RN{S:J7}(hm:Ov S){D:DF}(hD:AN S D):AN S (Oc D):=by
 intro args bs r' out' h;unfold Oc at h;rcases e:D args bs with _|⟨r,out⟩<;>rw[e]at h
 .cases h
 simp only at h;rcases e2:Fa bs.length out 4096 (r.ids++Uf (ID out bs.length)) []with _|acc<;>rw[e2]at h
 .cases h
 simp only[Ψ,Prod.mk.injEq]at h;obtain⟨rfl,hout⟩:=h;have hg:=HM _ _ _ _ _ _ e2;have hnd:=hg.nodup (by simp);obtain⟨hle,t0,ht0,hD⟩:=hD args bs r out e;have hacc:∀ b∈acc,bs.length<=b/\∃ kb,out[b]? = Δ (.set kb)/\∀ c∈kb.ids,c<bs.length\/c∈acc:=λb hb=>by
  rcases hg.new b hb with h|h
  .cases h
  .exact h
 rw[N0,VP,SF]at hout;have hlen:out'.length=bs.length+acc.length:=by
  rw[←hout];simp only[χ,Aqy,AqT];omega
 refine⟨by omega,max t0 out'.length,by omega,λt ht μ F w KL us hKL hr hH hμ=>?_⟩;refine hm _ _ _ _ (hD t (by omega) μ F w KL us hKL hr hH hμ) ?_;rintro u w' ⟨μ',F',g1,g2,g3,g4,g5⟩;have hob:∀ b,out'[b]? = if b<bs.length then out[b]?.map (BO.ren (WB bs.length acc)) else(acc[b-bs.length]?).map λb=>match out[b]? with
   |some o=>o.ren (WB bs.length acc)
   |none=>.del:=λb=>by
  rw[←hout,As4];simp only[Aqy,AqT,AqD,AqH]
  by_cases h1:b<bs.length
  .rw[if_pos (by omega),if_pos h1,if_pos h1]
  .rw[if_neg (by omega),if_neg h1,show min bs.length out.length=bs.length by omega]
 let μ'':Mu:=λb=>if b<bs.length then μ' b else if b<out'.length then(acc[b-bs.length]?).bind μ' else μ b
 have hτ:∀ c,c<bs.length\/c∈acc->μ'' (WB bs.length acc c)=μ' c:=λc hc=>by
  by_cases h1:c<bs.length
  .rw[Ajt h1]
   show (if c<bs.length then _ else _)=_
   rw[if_pos h1]
  .have hc':c∈acc:=by rcases hc with h|h;exact absurd h h1;exact h
   rw[Ajs (by omega)];have h2:=KA hc'
   show (if bs.length+idx c acc<bs.length then _ else if bs.length+idx c acc<out'.length then(acc[bs.length+idx c acc-bs.length]?).bind μ' else _)=_
   rw[if_neg (by omega),if_pos (by omega),show bs.length+idx c acc-bs.length=idx c acc by omega,Dx hc'];rfl
 have hold:∀ c p,μ c=Δ p->μ'' c=μ' c:=λc p hp=>by
  show (if c<bs.length then _ else if c<out'.length then _ else _)=_
  by_cases h1:c<bs.length
  .rw[if_pos h1]
  .rw[if_neg h1]
   by_cases h2:c<out'.length
   .rw[hμ c (by omega) (by omega)]at hp;cases hp
   .rw[if_neg h2]
    by_cases h3:c<t
    .rw[hμ c (by omega) h3]at hp;cases hp
    .exact(g5 c (.inr (by omega))).symm
 have hrids:∀ c∈r.ids,c<bs.length\/c∈acc:=λc hc=>hg.todo c (by simp[hc])
 have hkids:∀ b kb,b<bs.length->out[b]? = Δ (.set kb)->∀ c∈kb.ids,c<bs.length\/c∈acc:=λb kb hb hk c hc=>hg.todo c (by
  rw[AqZ];refine .inr (Su.2 ⟨.set kb,?_,hc⟩);rw[N0];refine AqB (i:=b) ?_;rw[AqH,if_pos hb,hk])
 refine⟨μ'',F',(If r u λc hc=>hτ c (hrids c hc)).2 g1,?_,⟨λb p hp=>?_,g3.prot⟩,g4,λb hb=>?_⟩
 .-- the heap
  let f:Nat->Nat:=λb=>if b<bs.length then b else if b<out'.length then(acc[b-bs.length]?).getD 0 else b
  have hf1:∀ b,b<bs.length->f b=b:=λb hb=>by show (if _ then _ else _)=_;rw[if_pos hb]
  have hf2:∀ b,bs.length<=b->b<out'.length->∃ c,acc[b-bs.length]? = Δ c/\f b=c:=λb h1 h2=>by
   have:b-bs.length<acc.length:=by omega
   refine⟨acc[b-bs.length],θ this,?_⟩
   show (if b<bs.length then _ else if b<out'.length then _ else _)=_
   rw[if_neg (by omega),if_pos h2,θ this];rfl
  have hf3:∀ b,out'.length<=b->f b=b:=λb hb=>by
   show (if b<bs.length then _ else if b<out'.length then _ else _)=_
   rw[if_neg (by omega),if_neg (by omega)]
  have live:∀ b k,(if b<t then CM bs out' b else look b KL)=Δ k->b<out'.length\/t<=b:=λb k hk=>by
   by_cases h1:b<t
   .rw[if_pos h1]at hk
    unfold CM at hk;rcases AqJ b out'.length with h2|h2
    .exact .inl h2
    .rw[Ara h2]at hk;cases hk
   .exact .inr (by omega)
  refine Jy f g2 ?_ ?_
  .intro b b' k k' hk hk' he
   have l1:=live b k hk;have l2:=live b' k' hk';have cls:∀ b,b<out'.length\/t<=b->(b<bs.length/\f b=b)\/(bs.length<=b/\b<out'.length/\∃ c,acc[b-bs.length]? = Δ c/\f b=c/\bs.length<=c/\c<t)\/(t<=b/\f b=b):=λb hb=>by
    rcases AqJ b bs.length with h1|h1
    .exact .inl ⟨h1,hf1 b h1⟩
    .rcases hb with h2|h2
     .obtain⟨c,c1,c2⟩:=hf2 b h1 h2
      obtain⟨c3,kb,c4,_⟩:=hacc c (AqB c1);have:=(Aqo.1 c4).1;exact .inr (.inl ⟨h1,h2,c,c1,c2,c3,by omega⟩)
     .exact .inr (.inr ⟨h2,hf3 b (by omega)⟩)
   rcases cls b l1 with⟨a1,a2⟩|⟨a1,a2,c,a3,a4,a5,a6⟩|⟨a1,a2⟩<;>rcases cls b' l2 with⟨d1,d2⟩|⟨d1,d2,c',d3,d4,d5,d6⟩|⟨d1,d2⟩<;>try omega
   have hcc:c=c':=by omega
   subst hcc;have:=(AsI (by omega) hnd).1 (a3.trans d3.symm);omega
  .intro b k₂ hk₂
   rcases live b k₂ hk₂ with h1|h1
   .have hbt:b<t:=by omega
    rw[if_pos hbt]at hk₂;unfold CM at hk₂;rw[hob]at hk₂
    by_cases h2:b<bs.length
    .rw[if_pos h2]at hk₂
     rw[hf1 b h2];have hμb:μ'' b=μ' b:=by show (if _ then _ else _)=_;rw[if_pos h2]
     cases e3:out[b]? with
     |none=>rw[e3]at hk₂;cases hk₂
     |some o=>
      rw[e3]at hk₂
      cases o with
      |del=>cases hk₂
      |keep=>
       simp only[AqQ,BO.ren]at hk₂;refine⟨k₂,by rw[if_pos hbt];unfold CM;rw[e3];exact hk₂,hμb,⟨rfl,rfl,rfl⟩,λp hB=>?_⟩;obtain⟨p0,_,hB0⟩:=hH.blk b k₂ (by rw[if_pos hbt];exact hk₂);have:∀ c∈k₂.ids,μ'' c=μ' c:=λc hc=>by
        obtain⟨q,hq⟩:=ME hB0 c hc;exact hold c q hq
       exact U3 this hB
      |set k0=>
       simp only[AqQ,BO.ren,Ψ]at hk₂;subst hk₂;exact⟨k0,by rw[if_pos hbt];unfold CM;rw[e3],hμb,B4 _ _,λp hB=>(CN λc hc=>hτ c (hkids b k0 h2 e3 c hc)).2 hB⟩
    .rw[if_neg h2]at hk₂
     obtain⟨c,c1,c2⟩:=hf2 b (by omega) h1;rw[c1]at hk₂;obtain⟨c3,kb,c4,c5⟩:=hacc c (AqB c1);have clt:=(Aqo.1 c4).1;simp only[AqQ,c4,BO.ren,Ψ]at hk₂;subst hk₂;rw[c2];refine⟨kb,by rw[if_pos (by omega)];unfold CM;rw[c4],?_,B4 _ _,λp hB=>(CN λd hd=>hτ d (c5 d hd)).2 hB⟩
     show (if b<bs.length then _ else if b<out'.length then(acc[b-bs.length]?).bind μ' else _)=_
     rw[if_neg h2,if_pos h1,c1];rfl
   .rw[if_neg (by omega)]at hk₂
    rw[hf3 b (by omega)];have hμb:μ'' b=μ' b:=by
     show (if b<bs.length then _ else if b<out'.length then _ else _)=_
     rw[if_neg (by omega),if_neg (by omega)];exact(g5 b (.inr (by omega))).symm
    refine⟨k₂,by rw[if_neg (by omega)];exact hk₂,hμb,⟨rfl,rfl,rfl⟩,λp hB=>?_⟩;obtain⟨p0,_,hB0⟩:=hH.blk b k₂ (by rw[if_neg (by omega)];exact hk₂);have:∀ c∈k₂.ids,μ'' c=μ' c:=λc hc=>by
     obtain⟨q,hq⟩:=ME hB0 c hc;exact hold c q hq
    exact U3 this hB
 .show (if b<bs.length then _ else if b<out'.length then _ else _)=_
  by_cases h1:b<bs.length
  .rw[if_pos h1];exact g3.mu b p hp
  .rw[if_neg h1]
   by_cases h2:b<out'.length
   .rw[hμ b (by omega) (by omega)]at hp;cases hp
   .rw[if_neg h2];exact hp
 .show (if b<bs.length then _ else if b<out'.length then _ else _)=_
  rcases hb with hb|hb
  .rw[if_pos hb];exact g5 b (.inl hb)
  .rw[if_neg (by omega),if_neg (by omega)]
structure TravOk (H:AH) (todo acc L:List Nat):Prop where
 sub:∀ b∈acc,b∈L
 nodup:acc.Nodup->L.Nodup
 new:∀ b∈L,b∈acc\/∃ k,H.get b=Δ k/\∀ c∈k.ids,c∈L
 todo:∀ b∈todo,b∈L
theorem Mq{H:AH}:∀(n:Nat) (todo acc L:List Nat) {H':AH} {ft:Foot},trav n todo acc H=Δ (L,H',ft)->H'=H/\TravOk H todo acc L
 |n,[],acc,L,H',ft,h=>by
  have:AM.ret acc H=Δ (L,H',ft):=by cases n<;>(unfold trav at h;exact h)
  obtain⟨rfl,rfl⟩:=Ag this;exact⟨rfl,λ_ h=>h,λh=>h,λ_ h=>.inl h,λ_ h=>by cases h⟩
 |0,b::r,acc,L,H',ft,h=>by unfold trav at h;exact(Af h).elim
 |n+1,b::r,acc,L,H',ft,h=>by
  unfold trav at h
  cases e2:EG b acc with
  |true=>
   rw[e2]at h;obtain⟨e0,ih⟩:=Mq n r acc L h;exact⟨e0,ih.sub,ih.nodup,ih.new,λc hc=>by
    rcases ι.1 hc with rfl|hc
    .exact ih.sub _ (Fs.1 e2)
    .exact ih.todo c hc⟩
  |false=>
   rw[e2]at h;have hb:b∉acc:=λhc=>by rw[Fs.2 hc]at e2;cases e2
   obtain⟨k,H1,f1,f2,h1,h2⟩:=bind_some h;obtain⟨hk,e1⟩:=By h1;rw[e1]at h2;obtain⟨e0,ih⟩:=Mq n (r++k.ids) (acc++[b]) L h2;refine⟨e0,λc hc=>ih.sub c (by simp[hc]),λhn=>ih.nodup ?_,λc hc=>?_,λc hc=>?_⟩
   .rw[Ath]
    exact⟨hn,by simp,λx hx y hy=>by simp at hy;subst hy;exact λe=>hb (e▸hx)⟩
   .rcases ih.new c hc with h1|h1
    .simp only[AqZ,Aq1]at h1
     rcases h1 with h1|rfl
     .exact .inl h1
     .exact .inr ⟨k,hk,λd hd=>ih.todo d (by simp[hd])⟩
    .exact .inr h1
   .rcases ι.1 hc with rfl|hc
    .exact ih.sub _ (by simp)
    .exact ih.todo c (by simp[hc])
theorem I6{H:AH}:∀(L:List Nat) {bs:List ABlk} {H':AH} {ft:Foot},readAll L H=Δ (bs,H',ft)->H'=H/\bs.length=L.length/\∀(i b:Nat),L[i]? = Δ b->∃ k,bs[i]? = Δ k/\H.get b=Δ k
 |[],bs,H',ft,h=>by
  obtain⟨rfl,rfl⟩:=Ag h;exact⟨rfl,rfl,λi b hb=>by simp at hb⟩
 |c::r,bs,H',ft,h=>by
  unfold readAll at h;obtain⟨k,H1,f1,f2,h1,h2⟩:=bind_some h;obtain⟨hk,e1⟩:=By h1;rw[e1]at h2;obtain⟨l,H2,f3,f4,h3,h4⟩:=bind_some h2;obtain⟨rfl,e2⟩:=Ag h4;obtain⟨e3,h5,h6⟩:=I6 r h3;refine⟨e2.trans e3,by simp[h5],λi b hb=>?_⟩
  cases i with
  |zero=>simp at hb;subst hb;exact⟨k,rfl,hk⟩
  |succ i=>simpa using h6 i b (by simpa using hb)
def Hx(H:AH)(σ:Nat->Nat)(o:Option BO)(b:Nat):Option ABlk:=match o with
 |some .keep=>H.get b
 |some (.set k)=>Δ (k.ren σ)
 |_=>Θ
theorem LV{σ:Nat->Nat}:∀(L:List Nat) (out:List BO) {H:AH} {rest:List BO} {H':AH} {ft:Foot},L.Nodup->(∀ b∈L,∃ k,H.get b=Δ k)->writeAll σ L out H=Δ (rest,H',ft)->
  L.length<=out.length/\rest=out.drop L.length/\H'.next=H.next/\H'.top=H.top/\(∀(i b:Nat),L[i]? = Δ b->H'.get b=Hx H σ out[i]? b)/\∀ b,b∉L->H'.get b=H.get b
 |[],out,H,rest,H',ft,_,_,h=>by
  unfold writeAll at h;obtain⟨rfl,rfl⟩:=Ag h;exact⟨Nat.zero_le _,rfl,rfl,rfl,λi b hb=>by simp at hb,λ_ _=>rfl⟩
 |c::r,[],H,rest,H',ft,_,_,h=>by unfold writeAll at h;exact(Af h).elim
 |c::r,o::out,H,rest,H',ft,hnd,hl,h=>by
  unfold writeAll at h;obtain⟨_,H1,f1,f2,h1,h2⟩:=bind_some h;rw[List.nodup_cons]at hnd;have step:H1.next=H.next/\H1.top=H.top/\H1.get c=Hx H σ (Δ o) c/\∀ b,b≠c->H1.get b=H.get b:=by
   cases o with
   |keep=>
    obtain⟨_,rfl⟩:=Ag h1;exact⟨rfl,rfl,rfl,λ_ _=>rfl⟩
   |del=>
    have:=OL h1;rw[this];exact⟨rfl,rfl,by rw[AH.get_del,if_pos rfl];rfl,λb hb=>by rw[AH.get_del,if_neg hb]⟩
   |set k=>
    have:=FL h1;rw[this];exact⟨rfl,rfl,by rw[AH.get_put,if_pos rfl];rfl,λb hb=>by rw[AH.get_put,if_neg hb]⟩
  obtain⟨s1,s2,s3,s4⟩:=step;obtain⟨i1,i2,i3,i4,i5,i6⟩:=LV r out hnd.2 (λb hb=>by
   rw[s4 b (λe=>hnd.1 (e▸hb))];exact hl b (by simp[hb])) h2
  refine⟨by simp;omega,by simpa using i2,i3.trans s1,i4.trans s2,λi b hb=>?_,λb hb=>?_⟩
  .cases i with
   |zero=>
    simp at hb;subst hb;rw[i6 _ hnd.1,s3];rfl
   |succ i=>
    have hb':r[i]? = Δ b:=by simpa using hb
    have hbc:b≠c:=λe=>hnd.1 (e▸AqB hb')
    rw[i5 i b hb'];simp only[AqA]
    cases out[i]? with
    |none=>rfl
    |some o=>cases o<;>simp only[Hx,s4 b hbc]
  .rw[ι,not_or]at hb
   rw[i6 b hb.2,s4 b hb.1]
theorem Pd{σ:Nat->Nat}:∀(out:List BO) {H:AH} {u:Unit} {H':AH} {ft:Foot},newAll σ out H=Δ (u,H',ft)->
  H'.next=H.next+out.length/\H'.top=H.top/\(∀ b,H.next<=b->b<H.next+out.length->H.below b)/\∀ b,H'.get b=if H.next<=b/\b<H.next+out.length then Hx H σ out[b-H.next]? b else H.get b
 |[],H,u,H',ft,h=>by
  unfold newAll at h;obtain⟨_,rfl⟩:=Ag h;exact⟨rfl,rfl,λb h1 h2=>by simp at h2;omega,λb=>by rw[if_neg (by simp)]⟩
 |.keep::r,H,u,H',ft,h=>by unfold newAll at h;exact(Af h).elim
 |.del::r,H,u,H',ft,h=>by unfold newAll at h;exact(Af h).elim
 |.set k::r,H,u,H',ft,h=>by
  unfold newAll at h;obtain⟨n,H1,f1,f2,h1,h2⟩:=bind_some h;obtain⟨b1,b2⟩:=D2 h1;simp only[Prod.mk.injEq]at b2;obtain⟨_,b2,_⟩:=b2;have hg:∀ b,H1.get b=if b=H.next then Δ (k.ren σ) else H.get b:=λb=>by rw[b2,Dv]
  have hn:H1.next=H.next+1:=by rw[b2]
  have ht:H1.top=H.top:=by rw[b2]
  obtain⟨i1,i2,i3,i4⟩:=Pd r h2;refine⟨by rw[i1,hn];simp;omega,i2.trans ht,λb h3 h4=>?_,λb=>?_⟩
  .simp only[ε]at h4
   rcases AqJ b (H.next+1) with h5|h5
   .have:b=H.next:=by omega
    subst this;exact b1
   .have:=i3 b (by omega) (by omega)
    unfold AH.below at this ⊢
    rwa [ht]at this
  .rw[i4,hn]
   simp only[ε]
   by_cases h3:H.next+1<=b/\b<H.next+1+r.length
   .rw[if_pos h3,if_pos (by omega)]
    rw[show b-H.next=(b-(H.next+1))+1 by omega];simp only[AqA]
    cases r[b-(H.next+1)]? with
    |none=>rfl
    |some o=>cases o<;>simp only[Hx,hg,if_neg (show ¬ b=H.next by omega)]
   .rw[if_neg h3,hg]
    by_cases h4:b=H.next
    .subst h4
     rw[if_pos rfl,if_pos (by omega)];simp[Hx]
    .rw[if_neg h4,if_neg (by omega)]
theorem VF:∀(l:List Nat) (n:Nat),W7 l n=l[n]?
 |[],_=>by simp[W7]
 |x::r,0=>by simp[W7]
 |x::r,n+1=>by simp[W7,VF r n]
theorem PS{n:Nat}:∀{l:List Nat},MD n l=U->∀ c∈l,c<n
 |[],_,c,hc=>by cases hc
 |d::r,h,c,hc=>by
  unfold MD at h
  cases e:Arx d n with
  |false=>rw[e]at h;cases h
  |true=>
   rw[e]at h;rcases ι.1 hc with rfl|hc
   .simpa[Wf]using e
   .exact PS h c hc
theorem PU{n:Nat}:∀{l:List BO},PT n l=U->∀ o∈l,∀ c∈o.ids,c<n
 |[],_,o,ho=>by cases ho
 |d::r,h,o,ho=>by
  unfold PT at h
  cases e:MD n d.ids with
  |false=>rw[e]at h;cases h
  |true=>
   rw[e]at h;rcases ι.1 ho with rfl|ho
   .exact PS e
   .exact PU h o ho
theorem Loc.trav:∀(n:Nat) (todo acc:List Nat),Loc (trav n todo acc)
 |n,[],acc=>by cases n<;>(unfold Go.Proofs.YtpncilciembjdaaGreatDoor.trav;exact Loc.ret _)
 |0,_::_,_=>by unfold Go.Proofs.YtpncilciembjdaaGreatDoor.trav;exact Loc.fail
 |n+1,b::r,acc=>by
  unfold Go.Proofs.YtpncilciembjdaaGreatDoor.trav;split
  .exact Loc.trav n _ _
  .exact Loc.bind (Loc.getB _) λk=>Loc.trav n _ _
theorem Loc.readAll:∀(L:List Nat),Loc (readAll L)
 |[]=>Loc.ret _
 |b::r=>Loc.bind (Loc.getB _) λ_=>Loc.bind (Loc.readAll r) λ_=>Loc.ret _
theorem Loc.nextB:Loc nextB:=λH a H' ft hw h=>by
 unfold Go.Proofs.YtpncilciembjdaaGreatDoor.nextB at h;simp only[Ψ,Prod.mk.injEq]at h;obtain⟨rfl,rfl,rfl⟩:=h;exact⟨ω _,rfl,λb h1 h2=>by omega,hw,λb h1 h2=>by omega,λb hb=>by simp at hb,λ_ _=>rfl,λK hn _ _=>⟨K,by unfold Go.Proofs.YtpncilciembjdaaGreatDoor.nextB;rw[hn],hn,rfl,λb=>by simp⟩⟩
theorem Loc.writeAll(σ:Nat->Nat):∀(L:List Nat) (out:List BO),Loc (writeAll σ L out)
 |[],out=>by unfold Go.Proofs.YtpncilciembjdaaGreatDoor.writeAll;exact Loc.ret _
 |_::_,[]=>by unfold Go.Proofs.YtpncilciembjdaaGreatDoor.writeAll;exact Loc.fail
 |b::r,o::out=>by
  unfold Go.Proofs.YtpncilciembjdaaGreatDoor.writeAll;refine Loc.bind ?_ λ_=>Loc.writeAll σ r out
  cases o with
  |keep=>exact Loc.ret _
  |del=>exact Loc.delB _
  |set k=>exact Loc.setB _ _
theorem Loc.newAll(σ:Nat->Nat):∀(out:List BO),Loc (newAll σ out)
 |[]=>Loc.ret _
 |.set k::r=>Loc.bind (Loc.newB _) λ_=>Loc.newAll σ r
 |.keep::r=>Loc.fail
 |.del::r=>Loc.fail
theorem Loc.callD(D:DF)(args:List AV):Loc (callD D args):=by
 unfold Go.Proofs.YtpncilciembjdaaGreatDoor.callD;refine Loc.bind (Loc.trav _ _ _) λL=>Loc.bind (Loc.readAll L) λbs=>Loc.bind (Loc.opt _) λr=>?_
 split
 .exact Loc.bind Loc.nextB λn=>Loc.bind (Loc.writeAll _ _ _) λout=>Loc.bind (Loc.newAll _ _) λ_=>Loc.ret _
 .exact Loc.fail
def LY(L:List Nat)(t:Nat)(τ:Nat->Nat):List (Nat × ABlk)->List (Nat × ABlk)
 |[]=>[]
 |(b,k)::r=>if b∈L then LY L t τ r else(t+b,k.ren τ)::LY L t τ r
theorem JD{L:List Nat}{t:Nat}{τ:Nat->Nat}{b:Nat}(hb:b∉L):∀ l,look (t+b) (LY L t τ l)=(look b l).map (ABlk.ren τ)
 |[]=>rfl
 | (c,k)::r=>by
  unfold LY
  by_cases hc:c∈L
  .rw[if_pos hc,JD hb r]
   simp only[look];rw[if_neg (show ¬ c=b from λe=>hb (e▸hc))]
  .rw[if_neg hc]
   simp only[look]
   by_cases e:c=b
   .subst e
    simp
   .rw[if_neg (by omega),if_neg e,JD hb r]
theorem EU{L:List Nat}{t:Nat}{τ:Nat->Nat}{b:Nat}(hb:b∈L):∀ l,look (t+b) (LY L t τ l)=Θ
 |[]=>rfl
 |(c,k)::r=>by
  unfold LY
  by_cases hc:c∈L
  .rw[if_pos hc,EU hb r]
  .rw[if_neg hc]
   simp only[look];rw[if_neg (λe=>hc (by rw[show c=b by omega];exact hb)),EU hb r]
theorem TW{L:List Nat}{t:Nat}{τ:Nat->Nat}:∀ l,∀ p∈LY L t τ l,t<=p.1
 |[],p,hp=>by cases hp
 |(c,k)::r,p,hp=>by
  unfold LY at hp
  by_cases hc:c∈L
  .rw[if_pos hc]at hp;exact TW r p hp
  .rw[if_neg hc]at hp
   rcases ι.1 hp with rfl|hp
   .exact Asj _ _
   .exact TW r p hp
theorem Lj{S:J7}(hm:Ov S){D:DF}(hD:AN S D):PO S (callD D):=by
 intro args μ F w H us hr hH hw hfr r' H' ft h;unfold callD at h;obtain⟨L,H1,f1,f2,h1,h⟩:=bind_some h;obtain⟨e1,hT⟩:=Mq _ _ _ _ h1;rw[e1]at h;obtain⟨bs,H2,f3,f4,h2,h⟩:=bind_some h;obtain⟨e2,hbl,hbs⟩:=I6 _ h2;rw[e2]at h;obtain⟨⟨r,out⟩,H3,f5,f6,h3,h⟩:=bind_some h;obtain⟨hd,e3⟩:=C6 h3;rw[e3]at h;simp only at h
 cases c1:MD out.length r.ids with
 |false=>rw[c1]at h;exact(Af h).elim
 |true=>
 cases c2:PT out.length out with
 |false=>rw[c1,c2]at h;exact(Af h).elim
 |true=>
 rw[c1,c2]at h;obtain⟨n,H4,f7,f8,h4,h⟩:=bind_some h;have h4':n=H.next/\H4=H:=by
  unfold nextB at h4;simp only[Ψ,Prod.mk.injEq]at h4;exact⟨h4.1.symm,h4.2.1.symm⟩
 obtain⟨rfl,e4⟩:=h4';rw[e4]at h;obtain⟨rest,H5,f9,f10,h5,h⟩:=bind_some h;obtain⟨_,H6,f11,f12,h6,h⟩:=bind_some h;obtain⟨rfl,rfl⟩:=Ag h;clear h h1 h2 h3 h4 e1 e2 e3 e4;have hnd:L.Nodup:=hT.nodup (by simp);have hL:∀ b∈L,∃ k,H.get b=Δ k/\∀ c∈k.ids,c∈L:=λb hb=>by
  rcases hT.new b hb with h|h
  .cases h
  .exact h
 obtain⟨w1,w2,w3,w4,w5,w6⟩:=LV L out hnd (λb hb=>(hL b hb).imp λ_ h=>h.1) h5;obtain⟨n1,n2,n3,n4⟩:=Pd rest h6;rw[w3]at n1 n3 n4;have hrl:rest.length=out.length-L.length:=by rw[w2];simp
 have hfree:∀ b,H.next<=b->b<H.next+rest.length->H.get b=Θ/\μ b=Θ:=λb g1 g2=>by
  have hb:H.below b:=by
   have:=n3 b g1 g2;unfold AH.below at this ⊢
   rwa [w4]at this
  exact⟨hw b g1 hb,hfr b g1 hb⟩
 have hLfree:∀ b∈L,¬ (H.next<=b/\b<H.next+rest.length):=λb hb hx=>by
  obtain⟨k,hk,_⟩:=hL b hb;rw[(hfree b hx.1 hx.2).1]at hk
  cases hk
 obtain⟨hle,t0,ht0,hD⟩:=hD _ _ _ _ hd;rw[Aqy,hbl]at hle
 let t:=t0
 let τ:Nat->Nat:=λc=>if c∈L then idx c L else t+c
 let μK:Mu:=λc=>if c<L.length then(L[c]?).bind μ else if c<t then Θ else μ (c-t)
 have hLt:L.length<=t:=AqS w1 ht0;have hτ:∀ c,μK (τ c)=μ c:=λc=>by
  show μK (if c∈L then idx c L else t+c)=_
  by_cases hc:c∈L
  .rw[if_pos hc]
   show (if idx c L<L.length then _ else _)=_
   rw[if_pos (KA hc),Dx hc];rfl
  .rw[if_neg hc]
   show (if t+c<L.length then _ else if t+c<t then _ else _)=_
   rw[if_neg (by omega),if_neg (by omega),show t+c-t=c by omega]
 have hτL:∀ c∈L,τ c=idx c L:=λc hc=>if_pos hc
 have hτidx:∀ c∈L,μK (idx c L)=μ c:=λc hc=>by rw[←hτL c hc];exact hτ c
 have hbs':∀ i b,L[i]? = Δ b->∃ k,H.get b=Δ k/\(bs.map (ABlk.ren λb=>idx b L))[i]? = Δ (k.ren λb=>idx b L)/\∀ c∈k.ids,c∈L:=λi b hb=>by
  obtain⟨k,q1,q2⟩:=hbs i b hb;obtain⟨k',q3,q4⟩:=hL b (AqB hb);rw[q2]at q3
  cases q3
  exact⟨k,q2,by rw[AqD,q1];rfl,q4⟩
 have hargs:RepList μK F w (GF (λb=>idx b L) args) us:=(BN args us λc hc=>hτidx c (hT.todo c hc)).2 hr
 have hHK:HRep μK F w (λb=>if b<t then(bs.map (ABlk.ren λb=>idx b L))[b]? else look b (LY L t τ H.bs)):=by
  refine Jy (λc=>if c<L.length then(L[c]?).getD 0 else c-t) hH ?_ ?_
  .intro b b' k k' hk hk' he
   have cls:∀ b k,(if b<t then(bs.map (ABlk.ren λb=>idx b L))[b]? else look b (LY L t τ H.bs))=Δ k->(∃ c,L[b]? = Δ c/\(if b<L.length then(L[b]?).getD 0 else b-t)=c)\/(t<=b/\b-t∉L/\(if b<L.length then(L[b]?).getD 0 else b-t)=b-t):=λb k hk=>by
    by_cases hbt:b<t
    .rw[if_pos hbt,AqD]at hk
     cases e:bs[b]? with
     |none=>rw[e]at hk;cases hk
     |some k0=>
      have hbL:b<L.length:=by rw[←hbl];exact(Aqo.1 e).1
      exact .inl ⟨L[b],θ hbL,by rw[if_pos hbL,θ hbL];rfl⟩
    .rw[if_neg hbt]at hk
     refine .inr ⟨by omega,λhc=>?_,by rw[if_neg (by omega)]⟩;have:=EU (t:=t) (τ:=τ) hc H.bs;rw[show t+(b-t)=b by omega]at this;rw[this]at hk;cases hk
   rcases cls b k hk with⟨c,a1,a2⟩|⟨a1,a2,a3⟩<;>rcases cls b' k' hk' with⟨c',d1,d2⟩|⟨d1,d2,d3⟩
   .rw[a2,d2]at he
    subst he;exact(AsI (Aqo.1 a1).1 hnd).1 (a1.trans d1.symm)
   .rw[a2,d3]at he
    exact absurd (he▸AqB a1) d2
   .rw[a3,d2]at he
    exact absurd (he▸AqB d1) a2
   .rw[a3,d3]at he
    omega
  .intro b k₂ hk₂
   by_cases hbt:b<t
   .rw[if_pos hbt,AqD]at hk₂
    cases e:bs[b]? with
    |none=>rw[e]at hk₂;cases hk₂
    |some k0=>
     have hbL:b<L.length:=by rw[←hbl];exact(Aqo.1 e).1
     have hLb:L[b]? = Δ L[b]:=θ hbL;obtain⟨k,q1,q2,q3⟩:=hbs' b _ hLb;rw[AqD,e]at q2;rw[e]at hk₂;simp only[AqQ,Ψ]at q2 hk₂;rw[q2]at hk₂;subst hk₂;refine⟨k,by rw[if_pos hbL,hLb];exact q1,?_,B4 _ _,λp hB=>(CN λc hc=>hτidx c (q3 c hc)).2 hB⟩
     show (if b<L.length then(L[b]?).bind μ else _)=_
     rw[if_pos hbL,if_pos hbL,hLb];rfl
   .rw[if_neg hbt]at hk₂
    have hbn:b-t∉L:=λhc=>by
     have:=EU (t:=t) (τ:=τ) hc H.bs;rw[show t+(b-t)=b by omega]at this;rw[this]at hk₂;cases hk₂
    have:=JD (t:=t) (τ:=τ) hbn H.bs;rw[show t+(b-t)=b by omega,hk₂]at this
    cases e:look (b-t) H.bs with
    |none=>rw[e]at this;cases this
    |some k=>
     rw[e]at this;simp only[AqQ,Ψ]at this;subst this;refine⟨k,by rw[if_neg (by omega)];exact e,?_,B4 _ _,λp hB=>(CN λc _=>hτ c).2 hB⟩
     show (if b<L.length then _ else if b<t then _ else _)=_
     rw[if_neg (by omega),if_neg hbt,if_neg (by omega)]
 have hμK:∀ b,(bs.map (ABlk.ren λb=>idx b L)).length<=b->b<t->μK b=Θ:=λb g1 g2=>by
  rw[Aqy,hbl]at g1
  show (if b<L.length then _ else if b<t then _ else _)=_
  rw[if_neg (by omega),if_pos g2]
 refine hm _ _ _ _ (hD t (ω _) μK F w (LY L t τ H.bs) us (TW _) hargs hHK hμK) ?_;rintro u w' ⟨μ',F',g1,g2,g3,g4,g5⟩;rw[Aqy,hbl]at g5
 let μf:Mu:=λb=>if H.next<=b/\b<H.next+rest.length then μ' (L.length+(b-H.next)) else μ b
 have hμold:∀ c,¬ (H.next<=c/\c<H.next+rest.length)->μf c=μ c:=λc hc=>if_neg hc
 have hμL:∀ c∈L,μf c=μ' (idx c L):=λc hc=>by
  rw[hμold c (hLfree c hc),g5 _ (.inl (KA hc)),hτidx c hc]
 have hσ:∀ c,c<out.length->μf (Gt L H.next c)=μ' c:=λc hc=>by
  unfold Gt;rw[VF]
  cases e:L[c]? with
  |some b=>
   have hb:=AqB e;simp only;rw[hμL b hb];have:=(AsI (KA hb) hnd).1 ((Dx hb).trans e.symm);rw[this]
  |none=>
   have hcl:L.length<=c:=List.getElem?_eq_none_iff.1 e;simp only
   show (if H.next<=H.next+(c-L.length)/\H.next+(c-L.length)<H.next+rest.length then _ else _)=_
   rw[if_pos (by omega),show L.length+(H.next+(c-L.length)-H.next)=c by omega]
 have hfar:∀ c p,μ c=Δ p->μf c=μ' (τ c):=λc p hp=>by
  have hc:¬ (H.next<=c/\c<H.next+rest.length):=λhx=>by rw[(hfree c hx.1 hx.2).2]at hp;cases hp
  rw[hμold c hc];have h1:μK (τ c)=Δ p:=(hτ c).trans hp;rw[hp,g3.mu _ _ h1]
 have hget:∀ b,H'.get b=if H.next<=b/\b<H.next+rest.length then Hx H5 (Gt L H.next) rest[b-H.next]? b else H5.get b:=n4
 refine⟨μf,F',(If r u λc hc=>hσ c (PS c1 c hc)).2 g1,?_,⟨λb p hp=>?_,g3.prot⟩,g4,λb hb=>?_⟩
 .-- the heap
  let f:Nat->Nat:=λb=>if b∈L then idx b L else if H.next<=b/\b<H.next+rest.length then L.length+(b-H.next) else t+b
  have f1:∀ b,b∈L->f b=idx b L:=λb hb=>if_pos hb
  have f2:∀ b,H.next<=b->b<H.next+rest.length->f b=L.length+(b-H.next):=λb h1 h2=>by
   show (if b∈L then _ else if _ then _ else _)=_
   rw[if_neg (λhc=>hLfree b hc ⟨h1,h2⟩),if_pos ⟨h1,h2⟩]
  have f3:∀ b,b∉L->¬ (H.next<=b/\b<H.next+rest.length)->f b=t+b:=λb h1 h2=>by
   show (if b∈L then _ else if _ then _ else _)=_
   rw[if_neg h1,if_neg h2]
  refine Jy f g2 ?_ ?_
  .intro b b' k k' _ _ he
   have cls:∀ b,(b∈L/\f b=idx b L/\f b<L.length)\/((H.next<=b/\b<H.next+rest.length)/\f b=L.length+(b-H.next))\/f b=t+b:=λb=>by
    by_cases h1:b∈L
    .exact .inl ⟨h1,f1 b h1,by rw[f1 b h1];exact KA h1⟩
    .by_cases h2:H.next<=b/\b<H.next+rest.length
     .exact .inr (.inl ⟨h2,f2 b h2.1 h2.2⟩)
     .exact .inr (.inr (f3 b h1 h2))
   rcases cls b with⟨a1,a2,a3⟩|⟨a1,a2⟩|a1<;>rcases cls b' with⟨d1,d2,d3⟩|⟨d1,d2⟩|d1<;>try omega
   have:=Dx a1;rw[←a2,he,d2,Dx d1]at this;exact(Option.some.inj this).symm
  .intro b k₂ hk₂
   rw[hget]at hk₂
   by_cases hbL:b∈L
   .rw[if_neg (hLfree b hbL),w5 _ b (Dx hbL)]at hk₂
    have hlt:idx b L<t:=Nat.lt_of_lt_of_le (KA hbL) hLt;obtain⟨k,q1,q2,q3⟩:=hbs' _ b (Dx hbL);rw[f1 b hbL]
    cases e:out[idx b L]? with
    |none=>rw[e]at hk₂;cases hk₂
    |some o=>
     rw[e]at hk₂
     cases o with
     |del=>cases hk₂
     |keep=>
      simp only[Hx]at hk₂;rw[q1]at hk₂;have hkk:=Option.some.inj hk₂;rw[←hkk];exact⟨k.ren λb=>idx b L,by rw[if_pos hlt];unfold CM;rw[e];exact q2,hμL b hbL,(B4 _ _).symm,λp hB=>(CN λc hc=>(hμL c (q3 c hc)).symm).1 hB⟩
     |set k0=>
      simp only[Hx,Ψ]at hk₂;subst hk₂;exact⟨k0,by rw[if_pos hlt];unfold CM;rw[e],hμL b hbL,B4 _ _,λp hB=>(CN λc hc=>hσ c (PU c2 _ (AqB e) c hc)).2 hB⟩
   .by_cases hx:H.next<=b/\b<H.next+rest.length
    .rw[if_pos hx]at hk₂
     rw[f2 b hx.1 hx.2];have hlt:L.length+(b-H.next)<t:=by omega
     have hor:rest[b-H.next]? = out[L.length+(b-H.next)]?:=by rw[w2,List.getElem?_drop]
     rw[hor]at hk₂;have hμb:μf b=μ' (L.length+(b-H.next)):=if_pos hx
     cases e:out[L.length+(b-H.next)]? with
     |none=>rw[e]at hk₂;cases hk₂
     |some o=>
      rw[e]at hk₂
      cases o with
      |del=>cases hk₂
      |keep=>
       simp only[Hx]at hk₂;rw[w6 b hbL,(hfree b hx.1 hx.2).1]at hk₂
       cases hk₂
      |set k0=>
       simp only[Hx,Ψ]at hk₂;subst hk₂;exact⟨k0,by rw[if_pos hlt];unfold CM;rw[e],hμb,B4 _ _,λp hB=>(CN λc hc=>hσ c (PU c2 _ (AqB e) c hc)).2 hB⟩
    .rw[if_neg hx,w6 b hbL]at hk₂
     rw[f3 b hbL hx];have hk0:look (t+b) (LY L t τ H.bs)=Δ (k₂.ren τ):=by
      rw[JD hbL]
      show (H.get b).map _=_
      rw[hk₂];rfl
     obtain⟨p0,hp0,hB0⟩:=hH.blk b k₂ hk₂;refine⟨k₂.ren τ,by rw[if_neg (by omega)];exact hk0,?_,(B4 _ _).symm,λp hB=>(CN λc hc=>?_).1 hB⟩
     .rw[hfar b p0 hp0]
      show μ' (if b∈L then _ else _)=_
      rw[if_neg hbL]
     .obtain⟨q,hq⟩:=ME hB0 c hc
      exact(hfar c q hq).symm
 .have hb:¬ (H.next<=b/\b<H.next+rest.length):=λhx=>by rw[(hfree b hx.1 hx.2).2]at hp;cases hp
  rw[hμold b hb];exact hp
 .exact hμold b (by omega)
theorem Loc.frzA(own:List (Nat × Nat))(f:Nat):∀(i:Nat) (l:List AV),Loc (frzA own f i l)
 |_,[]=>Loc.ret _
 |i,x::r=>by
  unfold Go.Proofs.YtpncilciembjdaaGreatDoor.frzA;split
  .exact Loc.bind (Loc.frzA own f _ r) λ_=>Loc.ret _
  .exact Loc.bind (Loc.frz _ _) λ_=>Loc.bind (Loc.frzA own f _ r) λ_=>Loc.ret _
theorem IV(own:List (Nat × Nat))(f:Nat):∀(i:Nat) (l:List AV) {μ:Mu} {F:Az} {w:World} {H:AH} {us:List Value} {y:List AV} {H':AH} {ft:Foot},RepList μ F w l us->HRep μ F w H.get->H.wf->frzA own f i l H=Δ (y,H',ft)->Gh μ F w H H' λμ' F'=>RepList μ' F' w y us
 |i,[],μ,F,w,H,us,y,H',ft,hx,hH,hw,h=>by
  unfold frzA at h;obtain⟨rfl,rfl⟩:=Ag h;exact Gh.same hH hx
 |i,x::r,μ,F,w,H,us,y,H',ft,hx,hH,hw,h=>by
  unfold frzA at h;simp only[RepList]at hx;obtain⟨u,t,rfl,hu,ht⟩:=hx
  cases e:Aah own f i with
  |true=>
   rw[e]at h;obtain⟨r',H2,f3,f4,h3,h4⟩:=bind_some h;obtain⟨rfl,rfl⟩:=Ag h4;refine(IV own f (i+1) r ht hH hw h3).mono λμ2 F2 l2 hr2=>?_
   simp only[RepList];exact⟨u,t,rfl,hu.later l2,hr2⟩
  |false=>
   rw[e]at h;obtain⟨x',H1,f1,f2,h1,h2⟩:=bind_some h;obtain⟨r',H2,f3,f4,h3,h4⟩:=bind_some h2;obtain⟨rfl,rfl⟩:=Ag h4;obtain⟨n1,w1⟩:=RM 1000 x hw h1;have n2:=(Loc.frzA own f (i+1) r _ _ _ _ w1 h3).next;refine Gh.trans n1 n2 (HL 1000 x hu hH hw h1) λμ1 F1 l1 hH1 _ hx1=>?_
   refine(IV own f (i+1) r (ht.later' l1) hH1 w1 h3).mono λμ2 F2 l2 hr2=>?_
   simp only[RepList];exact⟨u,t,rfl,hx1.later l2,hr2⟩
def AT(P:Program)(f:FuncId):J7:=λus w Q=>Calls P f us.toArray w λe w'=>∃ u,e=.returned u/\Q u w'
theorem B8(P:Program)(f:FuncId):Ov (AT P f):=λ_ _ _ _ h k=>Calls.mono h λ_ w' ⟨u,h1,h2⟩=>⟨u,h1,k u w' h2⟩
theorem Post.ghost{μ μ1:Mu}{F F1:Az}{w w':World}{H H1 H':AH}{r:AV}{u:Value}(hn:H.next<=H1.next)(hn':H1.next<=H'.next)(h1:Later μ μ1 F F1 w w)(h2:∀ b,(b<H.next\/H1.next<=b)->μ1 b=μ b)(h:Post μ1 F1 w H1 r H' u w'):Post μ F w H r H' u w':=by
 obtain⟨μ2,F2,k1,k2,k3,k4,k5⟩:=h;exact⟨μ2,F2,k1,k2,h1.trans k3,k4.less λg o hg=>(h1.prot g o hg).1,λb hb=>by rw[k5 b (by omega),h2 b (by omega)]⟩
theorem P1{P:Program}{D:Orc}(own:List (Nat × Nat))(hD:∀ f,AN (AT P f) (D.ask (.fn f))):FT P (callsM D own):=by
 intro f args μ F w H us hv hH hw hf r H' ft h;unfold callsM at h;obtain⟨l,H1,f1,f2,h1,h2⟩:=bind_some h;have L1:=Loc.frzA own f 0 args _ _ _ _ hw h1;obtain⟨μ1,F1,g1,g2,g3,g4⟩:=IV own f 0 args hv hH hw h1;have L2:=Loc.callD (D.ask (.fn f)) l _ _ _ _ L1.wf h2;have:=Lj (B8 P f) (hD f) l μ1 F1 w H1 us.toList g4 g2 L1.wf (Bv hf L1.next L1.top g3) r H' f2 h2;have:=B8 P f _ _ _ _ this λu w' hp=>Post.ghost L1.next L2.next g1 g3 hp
 exact this
theorem Loc.callsM(D:Orc)(own:List (Nat × Nat))(f:FuncId)(args:List AV):Loc (callsM D own f args):=Loc.bind (Loc.frzA _ _ _ _) λ_=>Loc.callD _ _
theorem He{μ:Mu}{F:Az}{w:World}:∀{m:List Bool} {T:List AV} {us:List Value},RepList μ F w T us->RepList μ F w (B7 m T) (B7 m us)
 |true::l,x::r,us,h=>by
  simp only[RepList]at h;obtain⟨u,t,rfl,h2,h3⟩:=h;simp only[B7,RepList];exact⟨u,_,rfl,h2,He h3⟩
 |false::l,x::r,us,h=>by
  simp only[RepList]at h;obtain⟨u,t,rfl,h2,h3⟩:=h;simp only[B7];exact He h3
 |[],x::r,us,h=>by simp only[B7,RepList]
 |[],[],us,h=>by simp only[B7,RepList]
 |_::_,[],us,h=>by
  simp only[RepList]at h;subst h;simp only[B7,RepList]
theorem EF{μ:Mu}{F:Az}{w:World}:∀(m:List Bool) (us:List Value) {xs:List AV},RepList μ F w xs (B7 m us)->RepList μ F w (BG m us.length xs) us
 |_,[],xs,_=>by
  cases xs<;>simp only[Aq8,BG,RepList]
 |true::l,u::us,xs,h=>by
  simp only[B7]at h
  cases xs with
  |nil=>simp only[RepList]at h;cases h
  |cons x xs=>
   simp only[RepList]at h;obtain⟨u',t,e,h2,h3⟩:=h;simp only[List.cons.injEq]at e;obtain⟨rfl,rfl⟩:=e;simp only[ε,BG,RepList];exact⟨u,us,rfl,h2,EF l us h3⟩
 |false::l,u::us,xs,h=>by
  simp only[B7]at h;simp only[ε,BG,RepList];exact⟨u,us,rfl,trivial,EF l us h⟩
 |[],u::us,xs,h=>by
  simp only[ε,BG,RepList];refine⟨u,us,rfl,trivial,EF [] us (xs:=[]) ?_⟩
  cases us<;>simp only[B7,RepList]
theorem CE:∀(m:List Bool) (n:Nat) (xs:List AV),(BG m n xs).length=n
 |_,0,_=>by cases ‹List Bool›<;>simp[BG]
 |true::l,n+1,x::xs=>by simp[BG,CE l n xs]
 |true::l,n+1,[]=>by simp[BG,CE l n []]
 |false::l,n+1,xs=>by simp[BG,CE l n xs]
 |[],n+1,xs=>by simp[BG,CE [] n []]
theorem Oy{μ:Mu}{F:Az}{w:World}{H:AH}(hH:HRep μ F w H.get)(hb:H.below H.next)(hf:BD μ H) :
  HRep (μ.set H.next ⟨0,0,0⟩) F w (AH.get ⟨(H.next,⟨[],U,U⟩)::H.bs,H.next+1,H.top⟩)/\Later μ (μ.set H.next ⟨0,0,0⟩) F F w w:=by
 have hμ:μ H.next=Θ:=hf H.next (ω _) hb;have hl:Later μ (μ.set H.next ⟨0,0,0⟩) F F w w:=⟨λb p hp=>by
  unfold Mu.set;rw[if_neg (λe=>by rw[e,hμ]at hp;cases hp)];exact hp,λg o hg=>⟨hg,rfl⟩⟩
 refine⟨?_,hl⟩;have get:∀ b,AH.get ⟨(H.next,⟨[],U,U⟩)::H.bs,H.next+1,H.top⟩ b=if b=H.next then Δ ⟨[],U,U⟩ else H.get b:=λb=>Dv _ _ _ _ _ _
 have emp:∀ i,¬ (⟨[],U,U⟩:ABlk).owns 0 i:=λi h=>by
  unfold ABlk.owns at h;simp at h
 have old:∀{b:Nat} {p:Pl},b≠H.next->(μ.set H.next ⟨0,0,0⟩) b=Δ p->μ b=Δ p:=λ{b p} hb h=>by
  unfold Mu.set at h
  rwa [if_neg hb]at h
 have new:∀{p:Pl},(μ.set H.next ⟨0,0,0⟩) H.next=Δ p->p=⟨0,0,0⟩:=λ{p} h=>by
  unfold Mu.set at h;rw[if_pos rfl]at h;exact(Option.some.inj h).symm
 refine⟨λb k hk=>?_,λb b' k k' p p' hne hk hk' hp hp' i i' ho ho'=>?_,hH.prot⟩
 .rw[get]at hk
  by_cases e:b=H.next
  .rw[if_pos e]at hk
   cases hk
   refine⟨⟨0,0,0⟩,by unfold Mu.set;rw[if_pos e],⟨λi x hx=>(by simp at hx),ω _,λi hi=>absurd hi (Nat.not_lt_zero _),λh=>(by cases h),λi hi=>absurd hi (emp i),λ_=>rfl⟩⟩
  .rw[if_neg e]at hk
   obtain⟨p,hp,hB⟩:=hH.blk b k hk;exact⟨p,hl.mu b p hp,hB.step hl (WStep.refl _ _) (λ_ _ _=>rfl) hB.free⟩
 .rw[get]at hk hk'
  by_cases e:b=H.next
  .rw[if_pos e]at hk
   cases hk
   rw[e]at hp;rw[new hp]at ho;exact absurd ho (emp i)
  .by_cases e':b'=H.next
   .rw[if_pos e']at hk'
    cases hk'
    rw[e']at hp';rw[new hp']at ho';exact absurd ho' (emp i')
   .rw[if_neg e]at hk
    rw[if_neg e']at hk';exact hH.apart b b' k k' p p' hne hk hk' (old e hp) (old e' hp') i i' ho ho'
theorem XM{μ:Mu}{F:Az}{w:World}{H:AH}{b:Nat}{k:ABlk}{p:Pl}(hH:HRep μ F w H.get)(hk:H.get b=Δ k)(hp:μ b=Δ p)(hb:(H.del b).below H.next)(hf:BD μ H) :
  HRep (μ.set H.next p) F w (AH.get ⟨(H.next,k)::(H.del b).bs,H.next+1,H.top⟩)/\Later μ (μ.set H.next p) F F w w:=by
 have hμ:μ H.next=Θ:=hf H.next (ω _) hb;have hl:Later μ (μ.set H.next p) F F w w:=⟨λc q hq=>by
  unfold Mu.set;rw[if_neg (λe=>by rw[e,hμ]at hq;cases hq)];exact hq,λg o hg=>⟨hg,rfl⟩⟩
 refine⟨?_,hl⟩;have get:∀ c,AH.get ⟨(H.next,k)::(H.del b).bs,H.next+1,H.top⟩ c=if c=H.next then Δ k else if c=b then Θ else H.get c:=λc=>by
  rw[Dv,AH.get_del]
 have old:∀{c:Nat} {q:Pl},c≠H.next->(μ.set H.next p) c=Δ q->μ c=Δ q:=λ{c q} hc h=>by
  unfold Mu.set at h
  rwa [if_neg hc]at h
 have new:∀{q:Pl},(μ.set H.next p) H.next=Δ q->q=p:=λ{q} h=>by
  unfold Mu.set at h;rw[if_pos rfl]at h;exact(Option.some.inj h).symm
 have src:∀ c kc,AH.get ⟨(H.next,k)::(H.del b).bs,H.next+1,H.top⟩ c=Δ kc->∃ c0,H.get c0=Δ kc/\(∀ q,(μ.set H.next p) c=Δ q->μ c0=Δ q)/\(μ.set H.next p) c=μ c0/\(c=H.next/\c0=b\/c≠H.next/\c≠b/\c0=c):=λc kc h=>by
  rw[get]at h
  by_cases e:c=H.next
  .rw[if_pos e]at h
   cases h
   refine⟨b,hk,λq hq=>?_,?_,.inl ⟨e,rfl⟩⟩
   .rw[e]at hq;rw[new hq];exact hp
   .unfold Mu.set;rw[if_pos e,hp]
  .rw[if_neg e]at h
   by_cases e2:c=b
   .rw[if_pos e2]at h;cases h
   .rw[if_neg e2]at h
    refine⟨c,h,λq hq=>old e hq,?_,.inr ⟨e,e2,rfl⟩⟩;unfold Mu.set;rw[if_neg e]
 refine⟨λc kc hc=>?_,λc c' kc kc' q q' hne hc hc' hq hq' i i' ho ho'=>?_,hH.prot⟩
 .obtain⟨c0,h0,h1,h2,_⟩:=src c kc hc
  obtain⟨q,hq,hB⟩:=hH.blk c0 kc h0;exact⟨q,by rw[h2];exact hq,hB.step hl (WStep.refl _ _) (λ_ _ _=>rfl) hB.free⟩
 .obtain⟨c0,h0,h1,_,h3⟩:=src c kc hc
  obtain⟨c0',h0',h1',_,h3'⟩:=src c' kc' hc';refine hH.apart c0 c0' kc kc' q q' ?_ h0 h0' (h1 q hq) (h1' q' hq') i i' ho ho';intro e;rcases h3 with⟨e1,e2⟩|⟨e1,e2,e3⟩<;>rcases h3' with⟨e1',e2'⟩|⟨e1',e2',e3'⟩
  .exact hne (e1.trans e1'.symm)
  .exact e2' (by rw[←e3',←e,e2])
  .exact e2 (by rw[←e3,e,e2'])
  .exact hne (by rw[←e3,←e3',e])
theorem J3(x:AV){μ:Mu}{F:Az}{w:World}{H:AH}{u:Value}{y:AV}{H1:AH}{ft:Foot}(hx:Rep μ F w x u)(hH:HRep μ F w H.get)(hw:H.wf)(hf:BD μ H)(h:touchS x H=Δ (y,H1,ft)):Gh μ F w H H1 λμ' F'=>Rep μ' F' w y u:=by
 unfold touchS at h;split at h
 .rename_i b o n e
  obtain⟨k,H2,f1,f2,h1,h2⟩:=bind_some h;obtain⟨hk,e1⟩:=By h1;rw[e1]at h2
  cases ex:k.ex with
  |false=>
   rw[ex]at h2;obtain⟨rfl,rfl⟩:=Ag h2;exact Gh.same hH hx
  |true=>
   rw[ex]at h2;obtain⟨_,H3,f3,f4,h3,h4⟩:=bind_some h2;obtain⟨c,H4,f5,f6,h5,h6⟩:=bind_some h4;obtain⟨rfl,rfl⟩:=Ag h6;have e3:H3=H.del b:=by
    unfold AM.delB at h3;rw[hk]at h3;simp only[Ψ,Prod.mk.injEq]at h3;exact h3.2.1.symm
   subst e3;obtain⟨b1,b2⟩:=D2 h5;simp only[Prod.mk.injEq]at b2;obtain⟨rfl,rfl,_⟩:=b2;simp only[Rep]at hx;obtain⟨p,hp,hu⟩:=hx;obtain⟨g1,g2⟩:=XM hH hk hp b1 hf;refine⟨μ.set H.next p,F,g2,g1,λc hc=>?_,?_⟩
   .unfold Mu.set
    have hc:c<H.next\/H.next+1<=c:=hc;rw[if_neg (by omega)]
   .simp only[Rep]
    refine⟨p,?_,hu⟩
    show (μ.set H.next p) H.next=Δ p
    unfold Mu.set;rw[if_pos rfl]
 .obtain⟨rfl,rfl⟩:=Ag h
  exact Gh.same hH hx
theorem Gh.fresh{μ:Mu}{F:Az}{w:World}{H H1:AH}{Q:Mu->Az->Prop}(hf:BD μ H)(hn:H.next<=H1.next)(ht:H1.top=H.top)(h:Gh μ F w H H1 Q):Gh μ F w H H1 λμ' F'=>Q μ' F'/\BD μ' H1:=by
 obtain⟨μ',F',h1,h2,h3,h4⟩:=h;exact⟨μ',F',h1,h2,h3,h4,Bv hf hn ht h3⟩
theorem Gq:∀(l:List AV) {μ:Mu} {F:Az} {w:World} {H:AH} {us:List Value} {y:List AV} {H1:AH} {ft:Foot},RepList μ F w l us->HRep μ F w H.get->H.wf->BD μ H->touchL l H=Δ (y,H1,ft)->Gh μ F w H H1 λμ' F'=>RepList μ' F' w y us
 |[],μ,F,w,H,us,y,H1,ft,hx,hH,hw,hf,h=>by
  obtain⟨rfl,rfl⟩:=Ag h;exact Gh.same hH hx
 |x::r,μ,F,w,H,us,y,H1,ft,hx,hH,hw,hf,h=>by
  unfold touchL at h;obtain⟨x',H2,f1,f2,h1,h2⟩:=bind_some h;obtain⟨r',H3,f3,f4,h3,h4⟩:=bind_some h2;obtain⟨rfl,rfl⟩:=Ag h4;simp only[RepList]at hx;obtain⟨u,t,rfl,hu,ht⟩:=hx;have L1:=Loc.touchS x _ _ _ _ hw h1;have L2:=Loc.touchL r _ _ _ _ L1.wf h3;refine Gh.trans L1.next L2.next (Gh.fresh hf L1.next L1.top (J3 x hu hH hw hf h1)) λμ1 F1 l1 hH1 _ hx1=>?_
  refine(Gq r (ht.later' l1) hH1 L1.wf hx1.2 h3).mono λμ2 F2 l2 hr2=>?_
  simp only[RepList];exact⟨u,t,rfl,hx1.1.later l2,hr2⟩
theorem Ft{μ:Mu}{F:Az}{w:World}{H:Nat->Option ABlk}{b:Nat}{k k':ABlk}{p:Pl}(hH:HRep μ F w H)(hk:H b=Δ k)(hp:μ b=Δ p)(hs:Shape k k')(hB:BRep μ F w p k'):HRep μ F w λc=>if c=b then Δ k' else H c:=by
 have src:∀{c:Nat} {kc:ABlk},(if c=b then Δ k' else H c)=Δ kc->∃ k0,H c=Δ k0/\∀ room i,kc.owns room i->k0.owns room i:=λ{c kc} h=>by
  by_cases e:c=b
  .rw[if_pos e]at h
   cases h
   exact⟨k,by rw[e];exact hk,λroom i=>(hs.owns room i).1⟩
  .rw[if_neg e]at h
   exact⟨kc,h,λ_ _ h=>h⟩
 refine⟨λc kc hc=>?_,λc c' kc kc' q q' hne hc hc' hq hq' i i' ho ho'=>?_,hH.prot⟩
 .have hc:(if c=b then Δ k' else H c)=Δ kc:=hc
  by_cases e:c=b
  .rw[if_pos e]at hc
   cases hc
   exact⟨p,by rw[e];exact hp,hB⟩
  .rw[if_neg e]at hc
   exact hH.blk c kc hc
 .obtain⟨k0,h0,h1⟩:=src hc
  obtain⟨k0',h0',h1'⟩:=src hc';exact hH.apart c c' k0 k0' q q' hne h0 h0' hq hq' i i' (h1 _ _ ho) (h1' _ _ ho')
theorem Q6(b:Nat){μ:Mu}{F:Az}{w:World}{H:AH}{y:Unit}{H1:AH}{ft:Foot}(hH:HRep μ F w H.get)(hw:H.wf)(hf:BD μ H)(h:touchB b H=Δ (y,H1,ft)):Gh μ F w H H1 λ_ _=>True:=by
 unfold touchB at h;obtain⟨k,H2,f1,f2,h1,h2⟩:=bind_some h;obtain⟨hk,e1⟩:=By h1;rw[e1]at h2
 cases kex:k.ex<;>cases kst:k.st<;>rw[kex,kst]at h2<;>try (obtain⟨_,rfl⟩:=Ag h2;exact Gh.same hH trivial)
 rotate_left
 .obtain⟨e5,_⟩:=FK h2
  obtain⟨p,hp,hB⟩:=hH.blk b k hk;refine⟨μ,F,Later.refl _ _ _,?_,λ_ _=>rfl,trivial⟩;have:H1.get=λc=>if c=b then Δ k else H.get c:=by
   funext c
   rw[e5,AH.get_put]
  rw[this];exact Ft hH hk hp ⟨rfl,rfl,rfl⟩ hB
 obtain⟨cs,H3,f3,f4,h3,h4⟩:=bind_some h2;obtain⟨k2,H4,f5,f6,h5,h6⟩:=bind_some h4;obtain⟨hk2,e4⟩:=By h5;rw[e4]at h6
 cases hex:k2.ex<;>cases hlen:AqO cs.length k2.cells.length<;>rw[hex,hlen]at h6<;>try exact(Af h6).elim
 obtain⟨e5,_⟩:=FK h6;have hlen':cs.length=k2.cells.length:=AqG hlen;obtain⟨p,hp,hB⟩:=hH.blk b k hk;obtain⟨us,r1,r2⟩:=CW (g:=p.g) (cs:=k.cells) (o:=p.o) (μ:=μ) (F:=F) (w:=w) hB.cell;have L1:=Loc.touchL k.cells _ _ _ _ hw h3;have hG:=Gq k.cells r1 hH hw hf h3;have hn3:H3.next<=H1.next:=by rw[e5];exact ω _
 refine Gh.trans L1.next hn3 hG λμ1 F1 l1 hH1 _ hr1=>?_
 have hp1:=l1.mu _ _ hp;obtain⟨p2,hp2,hB2⟩:=hH1.blk b k2 hk2;rw[hp1]at hp2
 cases hp2
 have hs:Shape k2 { k2 with cells:=cs }:=⟨hlen',rfl,rfl⟩;have hBn:BRep μ1 F1 w p { k2 with cells:=cs }:=FV hs hB2 (λi x hi=>by
  obtain⟨v,v1,v2⟩:=hr1.get hi;exact⟨v,r2 i v v1,v2⟩) λhe=>absurd (hex.symm.trans he) (by simp)
 refine⟨μ1,F1,Later.refl _ _ _,?_,λ_ _=>rfl,trivial⟩;have:H1.get=λc=>if c=b then Δ { k2 with cells:=cs } else H3.get c:=by
  funext c
  rw[e5,AH.get_put,hex]
 rw[this];exact Ft hH1 hk2 hp1 hs hBn
theorem DI:∀(l:List Nat) {μ:Mu} {F:Az} {w:World} {H:AH} {y:Unit} {H1:AH} {ft:Foot},HRep μ F w H.get->H.wf->BD μ H->touchI l H=Δ (y,H1,ft)->Gh μ F w H H1 λ_ _=>True
 |[],μ,F,w,H,y,H1,ft,hH,hw,hf,h=>by
  obtain⟨_,rfl⟩:=Ag h;exact Gh.same hH trivial
 |b::r,μ,F,w,H,y,H1,ft,hH,hw,hf,h=>by
  unfold touchI at h;obtain⟨_,H2,f1,f2,h1,h2⟩:=bind_some h;have L1:=Loc.touchB b _ _ _ _ hw h1;have L2:=Loc.touchI r _ _ _ _ L1.wf h2;exact Gh.trans L1.next L2.next (Gh.fresh hf L1.next L1.top (Q6 b hH hw hf h1)) λμ1 F1 l1 hH1 _ hx1=>DI r hH1 L1.wf hx1.2 h2
theorem Q7(x:AV){μ:Mu}{F:Az}{w:World}{H:AH}{u:Value}{y:AV}{H1:AH}{ft:Foot}(hx:Rep μ F w x u)(hH:HRep μ F w H.get)(hw:H.wf)(hf:BD μ H)(h:touchV x H=Δ (y,H1,ft)):Gh μ F w H H1 λμ' F'=>Rep μ' F' w y u:=by
 unfold touchV at h;split at h
 .exact J3 _ hx hH hw hf h
 .obtain⟨cs',H2,f1,f2,h1,h2⟩:=bind_some h
  obtain⟨_,H3,f3,f4,h3,h4⟩:=bind_some h2;obtain⟨rfl,rfl⟩:=Ag h4;simp only[Rep]at hx;obtain⟨us,rfl,hr⟩:=hx;have L1:=Loc.touchL _ _ _ _ _ hw h1;have L2:=Loc.touchI _ _ _ _ _ L1.wf h3;refine Gh.trans L1.next L2.next (Gh.fresh hf L1.next L1.top (Gq _ hr hH hw hf h1)) λμ1 F1 l1 hH1 _ hx1=>?_
  refine(DI _ hH1 L1.wf hx1.2 h3).mono λμ2 F2 l2 _=>?_
  simp only[Rep];exact⟨us,rfl,hx1.1.later' l2⟩
 .obtain⟨_,H3,f3,f4,h3,h4⟩:=bind_some h
  obtain⟨rfl,rfl⟩:=Ag h4;exact(DI _ hH hw hf h3).mono λμ2 F2 l2 _=>hx.later l2
theorem LP{x:AV}{r:List AV}{m:List Bool}(hs:∀{μ:Mu} {F:Az} {w:World} {H:AH} {us:List Value} {y:List AV} {H1:AH} {ft:Foot},RepList μ F w r us->HRep μ F w H.get->H.wf->BD μ H->touchA m r H=Δ (y,H1,ft)->Gh μ F w H H1 λμ' F'=>RepList μ' F' w y us)
  {μ:Mu} {F:Az} {w:World} {H:AH} {us:List Value} {y:List AV} {H1:AH} {ft:Foot} (hx:RepList μ F w (x::r) us) (hH:HRep μ F w H.get) (hw:H.wf) (hf:BD μ H)
  (h:((touchV x).bind λx=>(touchA m r).bind λr=>AM.ret (x::r)) H=Δ (y,H1,ft)):Gh μ F w H H1 λμ' F'=>RepList μ' F' w y us:=by
 obtain⟨x',H2,f1,f2,h1,h2⟩:=bind_some h;obtain⟨r',H3,f3,f4,h3,h4⟩:=bind_some h2;obtain⟨rfl,rfl⟩:=Ag h4;simp only[RepList]at hx;obtain⟨u,t,rfl,hu,ht⟩:=hx;have L1:=Loc.touchV x _ _ _ _ hw h1;have L2:=Loc.touchA m r _ _ _ _ L1.wf h3;refine Gh.trans L1.next L2.next (Gh.fresh hf L1.next L1.top (Q7 x hu hH hw hf h1)) λμ1 F1 l1 hH1 _ hx1=>?_
 refine(hs (ht.later' l1) hH1 L1.wf hx1.2 h3).mono λμ2 F2 l2 hr2=>?_
 simp only[RepList];exact⟨u,t,rfl,hx1.1.later l2,hr2⟩
theorem Eg:∀(m:List Bool) (l:List AV) {μ:Mu} {F:Az} {w:World} {H:AH} {us:List Value} {y:List AV} {H1:AH} {ft:Foot},RepList μ F w l us->HRep μ F w H.get->H.wf->BD μ H->touchA m l H=Δ (y,H1,ft)->Gh μ F w H H1 λμ' F'=>RepList μ' F' w y us
 |m,[],μ,F,w,H,us,y,H1,ft,hx,hH,hw,hf,h=>by
  have h:AM.ret [] H=Δ (y,H1,ft):=by
   cases m with
   |nil=>exact h
   |cons b m=>cases b<;>exact h
  obtain⟨rfl,rfl⟩:=Ag h;exact Gh.same hH hx
 |true::m,x::r,μ,F,w,H,us,y,H1,ft,hx,hH,hw,hf,h=>by
  unfold touchA at h;obtain⟨_,H2,f1,f2,h1,h2⟩:=bind_some h;obtain⟨r',H3,f3,f4,h3,h4⟩:=bind_some h2;obtain⟨rfl,rfl⟩:=Ag h4;simp only[RepList]at hx;obtain⟨u,t,rfl,hu,ht⟩:=hx;have L1:=Loc.touchI _ _ _ _ _ hw h1;have L2:=Loc.touchA m r _ _ _ _ L1.wf h3;refine Gh.trans L1.next L2.next (Gh.fresh hf L1.next L1.top (DI _ hH hw hf h1)) λμ1 F1 l1 hH1 _ hx1=>?_
  refine(Eg m r (ht.later' l1) hH1 L1.wf hx1.2 h3).mono λμ2 F2 l2 hr2=>?_
  simp only[RepList];exact⟨u,t,rfl,(hu.later l1).later l2,hr2⟩
 |false::m,x::r,μ,F,w,H,us,y,H1,ft,hx,hH,hw,hf,h=>by
  unfold touchA at h;exact LP (λa b c d e=>Eg m r a b c d e) hx hH hw hf h
 |[],x::r,μ,F,w,H,us,y,H1,ft,hx,hH,hw,hf,h=>by
  unfold touchA at h;exact LP (λa b c d e=>Eg [] r a b c d e) hx hH hw hf h
theorem T5(b:Nat){μ:Mu}{F:Az}{w:World}{H:AH}{y:Unit}{H1:AH}{ft:Foot}(hH:HRep μ F w H.get)(hw:H.wf)(h:frzB b H=Δ (y,H1,ft)):Gh μ F w H H1 λ_ _=>True:=by
 unfold frzB at h;obtain⟨k,H2,f1,f2,h1,h2⟩:=bind_some h;obtain⟨hk,e1⟩:=By h1;rw[e1]at h2
 cases kex:k.ex<;>cases kst:k.st<;>rw[kex,kst]at h2<;>try (obtain⟨_,rfl⟩:=Ag h2;exact Gh.same hH trivial)
 obtain⟨cs,H3,f3,f4,h3,h4⟩:=bind_some h2;obtain⟨k2,H4,f5,f6,h5,h6⟩:=bind_some h4;obtain⟨hk2,e4⟩:=By h5;rw[e4]at h6
 cases hex:k2.ex<;>cases hlen:AqO cs.length k2.cells.length<;>rw[hex,hlen]at h6<;>try exact(Af h6).elim
 obtain⟨e5,_⟩:=FK h6;have hlen':cs.length=k2.cells.length:=AqG hlen;obtain⟨p,hp,hB⟩:=hH.blk b k hk;obtain⟨us,r1,r2⟩:=CW (g:=p.g) (cs:=k.cells) (o:=p.o) (μ:=μ) (F:=F) (w:=w) hB.cell;have L1:=Loc.frzL 1000 k.cells _ _ _ _ hw h3;have hG:=Ey 1000 k.cells r1 hH hw h3;have hn3:H3.next<=H1.next:=by rw[e5];exact ω _
 refine Gh.trans L1.next hn3 hG λμ1 F1 l1 hH1 _ hr1=>?_
 have hp1:=l1.mu _ _ hp;obtain⟨p2,hp2,hB2⟩:=hH1.blk b k2 hk2;rw[hp1]at hp2
 cases hp2
 have hs:Shape k2 { k2 with cells:=cs }:=⟨hlen',rfl,rfl⟩;have hBn:BRep μ1 F1 w p { k2 with cells:=cs }:=FV hs hB2 (λi x hi=>by
  obtain⟨v,v1,v2⟩:=hr1.get hi;exact⟨v,r2 i v v1,v2⟩) λhe=>absurd (hex.symm.trans he) (by simp)
 refine⟨μ1,F1,Later.refl _ _ _,?_,λ_ _=>rfl,trivial⟩;have:H1.get=λc=>if c=b then Δ { k2 with cells:=cs } else H3.get c:=by
  funext c
  rw[e5,AH.get_put,hex]
 rw[this];exact Ft hH1 hk2 hp1 hs hBn
theorem DP:∀(l:List Nat) (T:List AV) {μ:Mu} {F:Az} {w:World} {H:AH} {us:List Value} {T1:List AV} {H1:AH} {ft:Foot},RepList μ F w T us->HRep μ F w H.get->H.wf->frzT l T H=Δ (T1,H1,ft)->Gh μ F w H H1 λμ' F'=>RepList μ' F' w T1 us
 |[],T,μ,F,w,H,us,T1,H1,ft,hT,hH,hw,h=>by
  obtain⟨rfl,rfl⟩:=Ag h;exact Gh.same hH hT
 |t::r,T,μ,F,w,H,us,T1,H1,ft,hT,hH,hw,h=>by
  unfold frzT at h
  cases et:T[t]? with
  |none=>
   rw[et]at h;exact DP r T hT hH hw h
  |some x=>
   rw[et]at h;have gen:((frz 1000 x).bind λy=>frzT r (T.set t y)) H=Δ (T1,H1,ft)->Gh μ F w H H1 λμ' F'=>RepList μ' F' w T1 us:=λh=>by
    obtain⟨y,H2,f1,f2,h1,h2⟩:=bind_some h;have L1:=Loc.frz 1000 x _ _ _ _ hw h1;have L2:=Loc.frzT r _ _ _ _ _ L1.wf h2;obtain⟨u,hu,hx⟩:=hT.get et;refine Gh.trans L1.next L2.next (HL 1000 x hx hH hw h1) λμ1 F1 l1 hH1 _ hy=>?_
    refine DP r _ (RepList.mk (by simp[hT.length]) λi z hz=>?_) hH1 L1.wf h2;rw[Asn]at hz;split at hz
    .rename_i e
     subst e;split at hz
     .simp only[Ψ]at hz
      subst hz;exact⟨u,hu,hy⟩
     .cases hz
    .obtain⟨v,v1,v2⟩:=hT.get hz
     exact⟨v,v1,v2.later l1⟩
   cases x with
   |ptr b o=>
    obtain⟨_,H2,f1,f2,h1,h2⟩:=bind_some h;have L1:=Loc.frzB b _ _ _ _ hw h1;have L2:=Loc.frzT r _ _ _ _ _ L1.wf h2;exact Gh.trans L1.next L2.next (T5 b hH hw h1) λμ1 F1 l1 hH1 _ _=>DP r T (hT.later' l1) hH1 L1.wf h2
   |_=>exact gen h
theorem EQ:∀(l:List Nat) (T:List AV) {H:AH} {T1:List AV} {H1:AH} {ft:Foot},frzT l T H=Δ (T1,H1,ft)->T1.length=T.length
 |[],T,H,T1,H1,ft,h=>by
  obtain⟨rfl,rfl⟩:=Ag h;rfl
 |t::r,T,H,T1,H1,ft,h=>by
  unfold frzT at h
  cases et:T[t]? with
  |none=>
   rw[et]at h;exact EQ r T h
  |some x=>
   rw[et]at h;have gen:((frz 1000 x).bind λy=>frzT r (T.set t y)) H=Δ (T1,H1,ft)->T1.length=T.length:=λh=>by
    obtain⟨y,H2,f1,f2,h1,h2⟩:=bind_some h;rw[EQ r _ h2,AqW]
   cases x with
   |ptr b o=>
    obtain⟨_,H2,f1,f2,h1,h2⟩:=bind_some h;exact EQ r T h2
   |_=>exact gen h
theorem MR(b:Nat){μ:Mu}{F:Az}{w:World}{H:AH}{y:Unit}{H1:AH}{ft:Foot}(hH:HRep μ F w H.get)(h:AM.delB b H=Δ (y,H1,ft)):Gh μ F w H H1 λ_ _=>True:=by
 have e:H1=H.del b:=by
  unfold AM.delB at h;split at h
  .simp only[Ψ,Prod.mk.injEq]at h
   exact h.2.1.symm
  .cases h
 subst e;refine⟨μ,F,Later.refl _ _ _,⟨λc k hc=>?_,λc c' k k' p p' hne hc hc'=>?_,hH.prot⟩,λ_ _=>rfl,trivial⟩
 .rw[AH.get_del]at hc
  split at hc
  .cases hc
  .exact hH.blk c k hc
 .rw[AH.get_del]at hc hc'
  split at hc
  .cases hc
  .split at hc'
   .cases hc'
   .exact hH.apart c c' k k' p p' hne hc hc'
theorem TF(b i:Nat){μ:Mu}{F:Az}{w:World}{H:AH}{y:Unit}{H1:AH}{ft:Foot}(hH:HRep μ F w H.get)(h:delC b i H=Δ (y,H1,ft)):Gh μ F w H H1 λ_ _=>True:=by
 unfold delC at h;obtain⟨k,H2,f1,f2,h1,h2⟩:=bind_some h;obtain⟨_,e1⟩:=By h1;rw[e1]at h2;have nop:AM.ret () H=Δ (y,H1,f2)->Gh μ F w H H1 λ_ _=>True:=λh=>by
  obtain⟨_,rfl⟩:=Ag h;exact Gh.same hH trivial
 cases ek:k.cells[i]? with
 |none=>rw[ek]at h2;exact nop h2
 |some x=>
  rw[ek]at h2
  cases x with
  |sl c o n e=>exact MR _ hH h2
  |_=>exact nop h2
theorem FY:∀(l:List Nat) (T:List AV) {μ:Mu} {F:Az} {w:World} {H:AH} {y:Unit} {H1:AH} {ft:Foot},HRep μ F w H.get->H.wf->delT l T H=Δ (y,H1,ft)->Gh μ F w H H1 λ_ _=>True
 |[],T,μ,F,w,H,y,H1,ft,hH,hw,h=>by
  obtain⟨_,rfl⟩:=Ag h;exact Gh.same hH trivial
 |t::r,T,μ,F,w,H,y,H1,ft,hH,hw,h=>by
  have gen:∀ b,((AM.delB b).bind λ_=>delT r T) H=Δ (y,H1,ft)->Gh μ F w H H1 λ_ _=>True:=λb h=>by
   obtain⟨_,H2,f1,f2,h1,h2⟩:=bind_some h;have L1:=Loc.delB b _ _ _ _ hw h1;have L2:=Loc.delT r T _ _ _ _ L1.wf h2;exact Gh.trans L1.next L2.next (MR b hH h1) λμ1 F1 l1 hH1 _ _=>FY r T hH1 L1.wf h2
  have gen2:(match OF T t with
   |some q=>(delC q.1 q.2).bind λ_=>delT r T
   |none=>delT r T) H=Δ (y,H1,ft)->Gh μ F w H H1 λ_ _=>True:=λh=>by
   cases eq:OF T t with
   |none=>rw[eq]at h;exact FY r T hH hw h
   |some q=>
    rw[eq]at h;obtain⟨_,H2,f1,f2,h1,h2⟩:=bind_some h;have L1:=Loc.delC q.1 q.2 _ _ _ _ hw h1;have L2:=Loc.delT r T _ _ _ _ L1.wf h2;exact Gh.trans L1.next L2.next (TF q.1 q.2 hH h1) λμ1 F1 l1 hH1 _ _=>FY r T hH1 L1.wf h2
  unfold delT at h
  cases et:T[t]? with
  |none=>rw[et]at h;exact gen2 h
  |some x=>
   rw[et]at h
   cases x with
   |sl b o n e=>exact gen b h
   |ptr b o=>exact gen b h
   |_=>exact gen2 h
theorem Nx{cs:List AV}{i:Nat}(h:EV cs i=U):cs[i]? = Δ (.v (.slice Θ 0 0)):=by
 unfold EV at h;split at h
 .rename_i z e
  rw[e,Fv h]
 .cases h
theorem Oe(b i e:Nat){μ:Mu}{F:Az}{w:World}{H:AH}{y:Unit}{H1:AH}{ft:Foot}(hH:HRep μ F w H.get)(hw:H.wf)(hf:BD μ H)(h:adoptB1 b i e H=Δ (y,H1,ft)):Gh μ F w H H1 λ_ _=>True:=by
 unfold adoptB1 at h;obtain⟨k,H2,f1,f2,h1,h2⟩:=bind_some h;obtain⟨hk,e1⟩:=By h1;rw[e1]at h2
 cases kex:k.ex<;>cases knil:EV k.cells i<;>rw[kex,knil]at h2<;>try (obtain⟨_,rfl⟩:=Ag h2;exact Gh.same hH trivial)
 .obtain⟨c,H3,f3,f4,h3,h4⟩:=bind_some h2
  obtain⟨b1,b2⟩:=D2 h3;simp only[Prod.mk.injEq]at b2;obtain⟨rfl,rfl,_⟩:=b2;obtain⟨g1,g2⟩:=Oy hH b1 hf;have g3:∀ b,(b<H.next\/H.next+1<=b)->(μ.set H.next ⟨0,0,0⟩) b=μ b:=λb hb=>by
   unfold Mu.set;rw[if_neg (by omega)]
  obtain⟨k2,H4,f5,f6,h5,h6⟩:=bind_some h4;obtain⟨hk2,e4⟩:=By h5;rw[e4]at h6
  cases hex:k2.ex<;>cases hnil:EV k2.cells i<;>rw[hex,hnil]at h6<;>try exact(Af h6).elim
  .obtain⟨e5,_⟩:=FK h6
   have ht:=Nx hnil;obtain⟨p2,hp2,hB2⟩:=g1.blk b k2 hk2;have hs:Shape k2 { k2 with cells:=k2.cells.set i (.sl H.next 0 0 e) }:=⟨by simp,rfl,rfl⟩;have hBn:BRep (μ.set H.next ⟨0,0,0⟩) F w p2 { k2 with cells:=k2.cells.set i (.sl H.next 0 0 e) }:=FV hs hB2 (λj x hx=>by
    simp only at hx;rw[Asn]at hx;split at hx
    .rename_i e6
     subst e6;split at hx
     .simp only[Ψ]at hx
      subst hx;obtain⟨u,hu,hr⟩:=hB2.cell _ _ ht;simp only[Rep]at hr;refine⟨u,hu,?_⟩;simp only[Rep];exact⟨⟨0,0,0⟩,by unfold Mu.set;rw[if_pos rfl],.inl ⟨trivial,hr.1⟩⟩
     .cases hx
    .exact hB2.cell _ _ hx) λhe=>absurd (hex.symm.trans he) (by simp)
   refine⟨_,F,g2,?_,λc hc=>g3 c (by rw[e5]at hc;exact hc),trivial⟩;have:H1.get=λc=>if c=b then Δ { k2 with cells:=k2.cells.set i (.sl H.next 0 0 e) } else AH.get ⟨(H.next,⟨[],U,U⟩)::H.bs,H.next+1,H.top⟩ c:=by
    funext c
    rw[e5,AH.get_put,hex]
   rw[this];exact Ft g1 hk2 hp2 hs hBn
theorem Up(b i:Nat){μ:Mu}{F:Az}{w:World}{H:AH}{y:Unit}{H1:AH}{ft:Foot}(hH:HRep μ F w H.get)(h:nilB b i H=Δ (y,H1,ft)):Gh μ F w H H1 λ_ _=>True:=by
 unfold nilB at h;obtain⟨k,H2,f1,f2,h1,h2⟩:=bind_some h;obtain⟨hk,e1⟩:=By h1;rw[e1]at h2
 cases kex:k.ex<;>cases knil:EV k.cells i<;>rw[kex,knil]at h2<;>try (obtain⟨_,rfl⟩:=Ag h2;exact Gh.same hH trivial)
 obtain⟨e5,_⟩:=FK h2;have ht:=Nx knil;obtain⟨p2,hp2,hB2⟩:=hH.blk b k hk;have hs:Shape k { k with cells:=k.cells.set i (.ls []) }:=⟨by simp,rfl,rfl⟩;have hBn:BRep μ F w p2 { k with cells:=k.cells.set i (.ls []) }:=FV hs hB2 (λj x hx=>by
  simp only at hx;rw[Asn]at hx;split at hx
  .rename_i e6
   subst e6;split at hx
   .simp only[Ψ]at hx
    subst hx;obtain⟨u,hu,hr⟩:=hB2.cell _ _ ht;exact⟨u,hu,NI (z:=.slice Θ 0 0) hr⟩
   .cases hx
  .exact hB2.cell _ _ hx) λhe=>absurd (kex.symm.trans he) (by simp)
 refine⟨μ,F,Later.refl _ _ _,?_,λ_ _=>rfl,trivial⟩;have:H1.get=λc=>if c=b then Δ { k with cells:=k.cells.set i (.ls []) } else H.get c:=by
  funext c
  rw[e5,AH.get_put,kex]
 rw[this];exact Ft hH hk hp2 hs hBn
theorem PQ(b i e:Nat){μ:Mu}{F:Az}{w:World}{H:AH}{y:Unit}{H1:AH}{ft:Foot}(hH:HRep μ F w H.get)(hw:H.wf)(hf:BD μ H)(h:adoptB b i e H=Δ (y,H1,ft)):Gh μ F w H H1 λ_ _=>True:=by
 unfold adoptB at h
 cases he:AqO e 0 with
 |true=>rw[he]at h;exact Up b i hH h
 |false=>rw[he]at h;exact Oe b i e hH hw hf h
theorem Ec:∀(l:List (Nat × Nat)) (T:List AV) {μ:Mu} {F:Az} {w:World} {H:AH} {us:List Value} {T1:List AV} {H1:AH} {ft:Foot},RepList μ F w T us->HRep μ F w H.get->H.wf->BD μ H->adoptM l T H=Δ (T1,H1,ft)->Gh μ F w H H1 λμ' F'=>RepList μ' F' w T1 us
 |[],T,μ,F,w,H,us,T1,H1,ft,hT,hH,hw,hf,h=>by
  obtain⟨rfl,rfl⟩:=Ag h;exact Gh.same hH hT
 | (t,e)::r,T,μ,F,w,H,us,T1,H1,ft,hT,hH,hw,hf,h=>by
  unfold adoptM at h
  cases en:Sy T t with
  |true=>
   rw[en]at h;have ht:=Z8 en;obtain⟨b,H2,f1,f2,h1,h2⟩:=bind_some h;have L1:=Loc.newB _ _ _ _ _ hw h1;obtain⟨b1,b2⟩:=D2 h1;simp only[Prod.mk.injEq]at b2;obtain⟨rfl,rfl,_⟩:=b2;obtain⟨g1,g2⟩:=Oy hH b1 hf;have g3:∀ b,(b<H.next\/H.next+1<=b)->(μ.set H.next ⟨0,0,0⟩) b=μ b:=λb hb=>by
    unfold Mu.set;rw[if_neg (by omega)]
   have hT2:RepList (μ.set H.next ⟨0,0,0⟩) F w (T.set t (.sl H.next 0 0 e)) us:=by
    obtain⟨u,hu,hr⟩:=hT.get ht;simp only[Rep]at hr;have hnew:Rep (μ.set H.next ⟨0,0,0⟩) F w (.sl H.next 0 0 e) u:=by
     simp only[Rep];exact⟨⟨0,0,0⟩,by unfold Mu.set;rw[if_pos rfl],.inl ⟨trivial,hr.1⟩⟩
    have hl:=hT.length;refine RepList.mk (by simp[hl]) λi x hx=>?_
    rw[Asn]at hx;split at hx
    .rename_i e1
     subst e1;split at hx
     .simp only[Ψ]at hx
      subst hx;exact⟨u,hu,hnew⟩
     .cases hx
    .obtain⟨v,v1,v2⟩:=hT.get hx
     exact⟨v,v1,v2.later g2⟩
   have L2:=Loc.adoptM r _ _ _ _ _ L1.wf h2;refine Gh.trans L1.next L2.next (Q1:=λμ' F'=>μ'=μ.set H.next ⟨0,0,0⟩/\F'=F) ⟨_,F,g2,g1,g3,rfl,rfl⟩ ?_;rintro μ' F' _ _ _ ⟨rfl,rfl⟩;exact Ec r _ hT2 g1 L1.wf (Bv hf L1.next L1.top g3) h2
  |false=>
   rw[en]at h
   cases eq:OF T t with
   |some q=>
    rw[eq]at h;obtain⟨_,H2,f1,f2,h1,h2⟩:=bind_some h;have L1:=Loc.adoptB _ _ _ _ _ _ _ hw h1;have L2:=Loc.adoptM r T _ _ _ _ L1.wf h2;exact Gh.trans L1.next L2.next (PQ q.1 q.2 e hH hw hf h1) λμ1 F1 l1 hH1 ag _=>Ec r T (hT.later' l1) hH1 L1.wf (Bv hf L1.next L1.top ag) h2
   |none=>
    rw[eq]at h;exact Ec r T hT hH hw hf h
def Br:Code->List Code
 |.seq a b=>Br a++Br b
 |.cond _ a b=>Br a++Br b
 |.block _ c=>Br c
 |.loop c=>c::Br c
 |_=>[]
theorem BV(P:Program)(ents:Nat)(hs:Jf):∀(c:Code) (n:Nat),(Bi P ents hs c n).2.length=(Br c).length
 |.skip,n=>rfl
 |.region ..,n=>rfl
 |.seq a b,n=>by
  have h1:=BV P ents hs a n;have h2:=BV P ents hs b (n+(Bi P ents hs a n).2.length);simp only[Bi,Br,χ,h1]at h2 ⊢;rw[h2]
 |.cond c a b,n=>by
  have h1:=BV P ents hs a n;have h2:=BV P ents hs b (n+(Bi P ents hs a n).2.length);simp only[Bi,Br,χ,h1]at h2 ⊢;rw[h2]
 |.block id c,n=>by
  have h1:=BV P ents hs c n;simp only[Bi,Br,h1]
 |.loop c,n=>by
  have h1:=BV P ents hs c (n+1);unfold Bi Br;simp only[ε]
  cases hs[n]?<;>simp[h1]
 |.exit _,n=>rfl
 |.ret,n=>rfl
 |.rangeFunc ..,n=>rfl
 |.scope _,n=>rfl
 |.label _,n=>rfl
 |.goto _,n=>rfl
 |.refuse _,n=>rfl
def GI(P:Program)(h:LpH)(Λ:List AV->AM (AX × List AV))(c:Code):Prop:=∀(xs:List AV) (H:AH) (x:AX) (ys:List AV) (H':AH) (ft:Foot),Λ xs H=Δ ((x,ys),H',ft)->
 ∀(μ:Mu) (F:Az) (w:World) (a:Act),a.tmps.toList.length=h.n->RepList μ F w xs (B7 h.live a.tmps.toList)->a.defers=[]->HRep μ F w H.get->H.wf->BD μ H->(Code.loop c).wp P (EndsA μ F w H λx1 T1 H1=>x1=x/\T1=BG (h.out x) h.n ys/\H1=H') a w
section
variable {P:Program} {Γ:FuncId->List AV->AM AV} {ents:Nat}
theorem Ab9(hE:Iq P ents)(ops:Array Oper)(o:Oper)(T:List AV):Le (coreM Ah Γ (Iw P ents ops o) T) (coreA P Γ ops o T):=by
 unfold Iw
 cases e:YC ops o.guard with
 |none=>
  simp only;intro H r h;unfold coreM Te at h;simp only at h
  cases h
 |some g=>
  simp only;intro H r h;unfold coreM at h
  cases e2:Te Ah T g with
  |none=>simp only[e2]at h;cases h
  |some t=>
   simp only[e2]at h
   have hw:Ei ops o T=Δ t:=by
    unfold YC at e;unfold Ei;unfold Te at e2
    cases eg:o.guard with
    |none=>
     rw[eg]at e;simp only[Ψ]at e;rw[←e]at e2;exact e2
    |some jw=>
     obtain⟨j,want⟩:=jw;rw[eg]at e;simp only at e ⊢;unfold E5
     cases ed:(ops[j]?).bind (·.dst) with
     |none=>rw[ed]at e;cases e
     |some d=>
      rw[ed]at e;simp only[Ψ]at e;rw[←e]at e2;simp only[Option.bind_some]at e2 ⊢
      cases et:T[d]? with
      |none=>rw[et]at e2;cases e2
      |some v=>
       rw[et]at e2
       cases v with
       |v z=>
        cases z with
        |bool b=>cases want<;>(simp only[Ψ]at e2;subst e2;simp[Ah,Gi,Ar.not])
        |tuple vs=>simp only[Ψ]at e2;subst e2;cases want<;>rfl
        |_=>cases e2
       |_=>cases e2
   unfold coreA;rw[hw]
   cases t with
   |true=>exact Af5 hE o T H r h
   |false=>exact h
theorem AaM(hE:Iq P ents)(ops:Array Oper):∀(l:List Oper) {T:List AV} {H:AH} {r:List AV × AH × List Foot},runM Ah Γ (l.map (Iw P ents ops)) T H=Δ r->EJ P Γ ops l T H=Δ r
 |[],T,H,r,h=>h
 |o::l,T,H,r,h=>by
  simp only[AqF,runM]at h;simp only[EJ,LM]
  cases e:coreM Ah Γ (Iw P ents ops o) T H with
  |none=>rw[e]at h;cases h
  |some q=>
   obtain⟨v,H1,f⟩:=q;rw[e]at h;rw[Ab9 hE ops o T H _ e];simp only at h ⊢;have hd:(Iw P ents ops o).dst=o.dst:=by unfold Iw;split<;>rfl
   rw[hd]at h
   cases e2:runM Ah Γ (l.map (Iw P ents ops)) (BX T o.dst v) H1 with
   |none=>rw[e2]at h;cases h
   |some q2=>
    rw[e2]at h;rw[AaM hE ops l e2];exact h
theorem EndsA.ghost{μ μ1:Mu}{F F1:Az}{w:World}{H H1:AH}{Q:AX->List AV->AH->Prop}{e:Exit}{a':Act}{w':World}(hn:H.next<=H1.next)(ht:H1.top=H.top)(h1:Later μ μ1 F F1 w w)(h2:∀ b,(b<H.next\/H1.next<=b)->μ1 b=μ b)(h:EndsA μ1 F1 w H1 Q e a' w'):EndsA μ F w H Q e a' w':=by
 obtain⟨x,T',H',e1,hq,hg⟩:=h;exact⟨x,T',H',e1,hq,GoodA.trans h1 (WStep.refl _ _) h2 hn ht hg⟩
abbrev AtE(x:AX)(T':List AV)(H':AH):AX->List AV->AH->Prop:=λx1 T1 H1=>x1=x/\T1=T'/\H1=H'
theorem DO{Λ:Nat->List AV->AM (AX × List AV)}(hm:P.follows .mixedOrders=U)(hE:Iq P ents)(hΓ:FT P Γ)(hL:∀ f args,Loc (Γ f args))(hLΛ:∀ i T,Loc (Λ i T))(hs:Jf):∀(c:Code) (n:Nat),J6 c=U->(∀ j c' q,(Br c)[j]? = Δ c'->hs[n+j]? = Δ q->GI P q (Λ (n+j)) c')->
  ∀{T:List AV} {H:AH} {x:AX} {T':List AV} {H':AH} {ft:Foot},evC Ah Γ Λ (Bi P ents hs c n).1 T H=Δ ((x,T'),H',ft)->∀{μ:Mu} {F:Az} {w:World} {a:Act},RT μ F w T a->HRep μ F w H.get->H.wf->BD μ H->c.wp P (EndsA μ F w H (AtE x T' H')) a w
 |.skip,n,_,_,T,H,x,T',H',ft,h,μ,F,w,a,hT,hH,hw,hf=>by
  obtain⟨e,rfl⟩:=Ag h;simp only[Prod.mk.injEq]at e;obtain⟨rfl,rfl⟩:=e;exact wp_skip ⟨.normal,_,_,rfl,⟨rfl,rfl,rfl⟩,GoodA.refl hT hH hw⟩
 |.exit id,n,_,_,T,H,x,T',H',ft,h,μ,F,w,a,hT,hH,hw,hf=>by
  obtain⟨e,rfl⟩:=Ag h;simp only[Prod.mk.injEq]at e;obtain⟨rfl,rfl⟩:=e;exact wp_exit ⟨.exit id,_,_,rfl,⟨rfl,rfl,rfl⟩,GoodA.refl hT hH hw⟩
 |.ret,n,_,_,T,H,x,T',H',ft,h,μ,F,w,a,hT,hH,hw,hf=>by
  obtain⟨e,rfl⟩:=Ag h;simp only[Prod.mk.injEq]at e;obtain⟨rfl,rfl⟩:=e;exact wp_ret ⟨.ret,_,_,rfl,⟨rfl,rfl,rfl⟩,GoodA.refl hT hH hw⟩
 |.region id ops draw,n,hok,_,T,H,x,T',H',ft,h,μ,F,w,a,hT,hH,hw,hf=>by
  have h:regM Ah Γ (ops.toList.map (Iw P ents ops)) (if draw then Δ (Rd ops) else Θ) T H=Δ ((x,T'),H',ft):=h;unfold regM at h
  cases e:runM Ah Γ (ops.toList.map (Iw P ents ops)) T H with
  |none=>rw[e]at h;cases h
  |some q=>
   obtain⟨T1,H1,fs⟩:=q;rw[e]at h;have h1:=AaM hE ops _ e;have key:x=.normal/\T'=T1/\H'=H1/\(draw=U->DQ (Rd ops) fs=U):=by
    cases draw with
    |false=>
     simp only[Bool.false_eq_true,if_false,Ψ,Prod.mk.injEq]at h;exact⟨h.1.1.symm,h.1.2.symm,h.2.1.symm,λh=>by cases h⟩
    |true=>
     simp only[if_true]at h
     cases eh:DQ (Rd ops) fs with
     |false=>rw[eh]at h;cases h
     |true=>
      rw[eh]at h;simp only[Ψ,Prod.mk.injEq]at h;exact⟨h.1.1.symm,h.1.2.symm,h.2.1.symm,λ_=>rfl⟩
   obtain⟨rfl,rfl,rfl,k⟩:=key;exact Do hm hΓ hL (.region id ops draw) _ T H hok (by simp only[aw];exact⟨_,_,fs,h1,k,rfl,rfl,rfl⟩) hT hH hw hf
 |.seq y z,n,hok,hl,T,H,x,T',H',ft,h,μ,F,w,a,hT,hH,hw,hf=>by
  have h:((evC Ah Γ Λ (Bi P ents hs y n).1 T).bind λr=>match r.1 with
   |.normal=>evC Ah Γ Λ (Bi P ents hs z (n+(Bi P ents hs y n).2.length)).1 r.2
   |ax=>AM.ret (ax,r.2)) H=Δ ((x,T'),H',ft):=h
  simp only[J6,Aqr]at hok;obtain⟨⟨x1,T1⟩,H1,f1,f2,h1,h2⟩:=bind_some h;have hly:∀ j c' q,(Br y)[j]? = Δ c'->hs[n+j]? = Δ q->GI P q (Λ (n+j)) c':=λj c' q hj=>hl j c' q (by
   show (Br y++Br z)[j]? = Δ c'
   rw[Aq5 (Aqo.1 hj).1];exact hj)
  have hlz:∀ j c' q,(Br z)[j]? = Δ c'->hs[n+(Bi P ents hs y n).2.length+j]? = Δ q->GI P q (Λ (n+(Bi P ents hs y n).2.length+j)) c':=λj c' q hj=>by
   rw[BV,AqP];exact hl _ c' q (by
    show (Br y++Br z)[(Br y).length+j]? = Δ c'
    rw[Aq2 (Asj _ _),AsV];exact hj)
  refine wp_seq (wp_mono (DO hm hE hΓ hL hLΛ hs y n hok.1 hly h1 hT hH hw hf) ?_);rintro e a1 w1 ⟨ax,T2,H2,rfl,⟨rfl,rfl,rfl⟩,hg⟩;simp only at h2
  cases ax with
  |normal=>
   obtain⟨⟨μ1,F1,g1,g2,g3,g4,g5⟩,g6,g7,g8⟩:=hg;refine wp_mono (DO hm hE hΓ hL hLΛ hs z _ hok.2 hlz h2 g1 g2 g8 (Bv hf g6 g7 g5)) ?_;rintro e a2 w2 ⟨ax,T3,H3,rfl,hq2,hg2⟩;exact⟨ax,T3,H3,rfl,hq2,GoodA.trans g3 g4 g5 g6 g7 hg2⟩
  |exit i=>
   obtain⟨e,rfl⟩:=Ag h2;simp only[Prod.mk.injEq]at e;obtain⟨rfl,rfl⟩:=e;exact⟨.exit i,_,_,rfl,⟨rfl,rfl,rfl⟩,hg⟩
  |goto l=>
   obtain⟨e,rfl⟩:=Ag h2;simp only[Prod.mk.injEq]at e;obtain⟨rfl,rfl⟩:=e;exact⟨.goto l,_,_,rfl,⟨rfl,rfl,rfl⟩,hg⟩
  |ret=>
   obtain⟨e,rfl⟩:=Ag h2;simp only[Prod.mk.injEq]at e;obtain⟨rfl,rfl⟩:=e;exact⟨.ret,_,_,rfl,⟨rfl,rfl,rfl⟩,hg⟩
 |.cond c y z,n,hok,hl,T,H,x,T',H',ft,h,μ,F,w,a,hT,hH,hw,hf=>by
  have h:(match AE T c with
   |.v (.bool t)=>(match t with
    |true=>evC Ah Γ Λ (Bi P ents hs y n).1 T
    |false=>evC Ah Γ Λ (Bi P ents hs z (n+(Bi P ents hs y n).2.length)).1 T)
   |_=>AM.fail) H=Δ ((x,T'),H',ft):=h
  simp only[J6,Aqr]at hok;have hly:∀ j c' q,(Br y)[j]? = Δ c'->hs[n+j]? = Δ q->GI P q (Λ (n+j)) c':=λj c' q hj=>hl j c' q (by
   show (Br y++Br z)[j]? = Δ c'
   rw[Aq5 (Aqo.1 hj).1];exact hj)
  have hlz:∀ j c' q,(Br z)[j]? = Δ c'->hs[n+(Bi P ents hs y n).2.length+j]? = Δ q->GI P q (Λ (n+(Bi P ents hs y n).2.length+j)) c':=λj c' q hj=>by
   rw[BV,AqP];exact hl _ c' q (by
    show (Br y++Br z)[(Br y).length+j]? = Δ c'
    rw[Aq2 (Asj _ _),AsV];exact hj)
  have h3:=JQ hT c
  cases ec:AE T c with
  |v u=>
   rw[ec]at h h3;simp only[Rep]at h3
   cases u with
   |bool t=>
    cases t with
    |true=>exact wp_cond_true h3.1 (DO hm hE hΓ hL hLΛ hs y n hok.1 hly h hT hH hw hf)
    |false=>exact wp_cond_false h3.1 (DO hm hE hΓ hL hLΛ hs z _ hok.2 hlz h hT hH hw hf)
   |_=>exact(Af h).elim
  |_=>rw[ec]at h;exact(Af h).elim
 |.block id c,n,hok,hl,T,H,x,T',H',ft,h,μ,F,w,a,hT,hH,hw,hf=>by
  have h:((evC Ah Γ Λ (Bi P ents hs c n).1 T).bind λr=>match r.1 with
   |.exit i=>if i=id then AM.ret (.normal,r.2) else AM.ret (.exit i,r.2)
   |ax=>AM.ret (ax,r.2)) H=Δ ((x,T'),H',ft):=h
  simp only[J6]at hok;obtain⟨⟨x1,T1⟩,H1,f1,f2,h1,h2⟩:=bind_some h;refine wp_block (wp_mono (DO hm hE hΓ hL hLΛ hs c n hok hl h1 hT hH hw hf) ?_);rintro e a1 w1 ⟨ax,T2,H2,rfl,⟨rfl,rfl,rfl⟩,hg⟩;simp only at h2
  cases ax with
  |normal=>
   obtain⟨e,rfl⟩:=Ag h2;simp only[Prod.mk.injEq]at e;obtain⟨rfl,rfl⟩:=e;exact⟨.normal,_,_,rfl,⟨rfl,rfl,rfl⟩,hg⟩
  |goto l=>
   obtain⟨e,rfl⟩:=Ag h2;simp only[Prod.mk.injEq]at e;obtain⟨rfl,rfl⟩:=e;exact⟨.goto l,_,_,rfl,⟨rfl,rfl,rfl⟩,hg⟩
  |ret=>
   obtain⟨e,rfl⟩:=Ag h2;simp only[Prod.mk.injEq]at e;obtain⟨rfl,rfl⟩:=e;exact⟨.ret,_,_,rfl,⟨rfl,rfl,rfl⟩,hg⟩
  |exit i=>
   simp only[AX.ex,Exit.inBlock];rcases Be h2 with⟨hi,h2⟩|⟨hi,h2⟩
   .obtain⟨e,rfl⟩:=Ag h2
    simp only[Prod.mk.injEq]at e;obtain⟨rfl,rfl⟩:=e;rw[if_pos hi];exact⟨.normal,_,_,rfl,⟨rfl,rfl,rfl⟩,hg⟩
   .obtain⟨e,rfl⟩:=Ag h2
    simp only[Prod.mk.injEq]at e;obtain⟨rfl,rfl⟩:=e;rw[if_neg hi];exact⟨.exit i,_,_,rfl,⟨rfl,rfl,rfl⟩,hg⟩
 |.loop c,n,hok,hl,T,H,x,T',H',ft,h,μ,F,w,a,hT,hH,hw,hf=>by
  cases eh:hs[n]? with
  |none=>
   have:(Bi P ents hs (.loop c) n).1=.bad:=by unfold Bi;rw[eh]
   rw[this]at h;exact(Af h).elim
  |some q=>
   have:(Bi P ents hs (.loop c) n).1=.loop n q:=by unfold Bi;rw[eh]
   rw[this]at h;have h:((adoptM q.ad T).bind λT=>(frzT q.fz T).bind λT=>match AqO T.length q.n with
    |true=>(Λ n (B7 q.live T)).bind λr=>AM.ret (r.1,BG (q.out r.1) q.n r.2)
    |false=>AM.fail) H=Δ ((x,T'),H',ft):=h
   obtain⟨T0,H0,f1,f2,h1,h2⟩:=bind_some h;obtain⟨T1,H1,f3,f4,h3,h2⟩:=bind_some h2;have L0:=Loc.adoptM q.ad T _ _ _ _ hw h1;have L1:=Loc.frzT q.fz T0 _ _ _ _ L0.wf h3;obtain⟨μ1,F1,g1,g2,g3,g4⟩:=Gh.trans L0.next L1.next (Ec q.ad T hT.1 hH hw hf h1) λμ0 F0 l0 hH0 _ hT0=>DP q.fz T0 hT0 hH0 L0.wf h3
   cases en:AqO T1.length q.n with
   |false=>rw[en]at h2;exact(Af h2).elim
   |true=>
    rw[en]at h2;obtain⟨⟨y,ys⟩,H2,f5,f6,h5,h4⟩:=bind_some h2;obtain⟨e4,rfl⟩:=Ag h4;simp only[Prod.mk.injEq]at e4;obtain⟨rfl,rfl⟩:=e4;have hn:a.tmps.toList.length=q.n:=by rw[g4.length];exact AqG en
    have:=hl 0 c q (by unfold Br;rfl) eh _ _ _ _ _ _ h5 μ1 F1 w a hn (He g4) hT.2 g2 L1.wf (Bv hf (AqS L0.next L1.next) (L1.top.trans L0.top) g3);exact wp_mono this λe a' w' he=>EndsA.ghost (AqS L0.next L1.next) (L1.top.trans L0.top) g1 g3 he
 |.rangeFunc ..,n,_,_,T,H,x,T',H',ft,h,_,_,_,_,_,_,_,_=>(Af h).elim
 |.scope _,n,_,_,T,H,x,T',H',ft,h,_,_,_,_,_,_,_,_=>(Af h).elim
 |.label _,n,_,_,T,H,x,T',H',ft,h,_,_,_,_,_,_,_,_=>(Af h).elim
 |.goto _,n,_,_,T,H,x,T',H',ft,h,_,_,_,_,_,_,_,_=>(Af h).elim
 |.refuse _,n,_,_,T,H,x,T',H',ft,h,_,_,_,_,_,_,_,_=>(Af h).elim
end
theorem Loc.loopsM(D:Orc)(f i:Nat)(T:List AV):Loc (loopsM D f i T):=by
 unfold Go.Proofs.YtpncilciembjdaaGreatDoor.loopsM;refine Loc.bind (Loc.callD _ _) λr=>?_
 split
 .split
  .exact Loc.ret _
  .exact Loc.fail
 .exact Loc.fail
theorem Loc.resM(T:List AV):∀ l,Loc (resM T l)
 |[]=>Loc.ret _
 |.tmp _::r=>Loc.bind (Loc.resM T r) λ_=>Loc.ret _
 |.cell _ _ _::r=>Loc.bind (Loc.loadM _ _ _) λ_=>Loc.bind (Loc.resM T r) λ_=>Loc.ret _
theorem Loc.fnM(A:Ar)(D:Orc)(own:List (Nat × Nat))(f:Nat)(mf:MFn)(args:List AV):Loc (fnM A D own f mf args):=by
 unfold Go.Proofs.YtpncilciembjdaaGreatDoor.fnM;refine Loc.bind (Loc.evC (Loc.callsM D own) (Loc.loopsM D f) _ _) λr=>?_
 split
 .exact Loc.fail
 .exact Loc.fail
 .refine Loc.bind (Loc.resM _ _) λl=>Loc.bind ?_ λv=>?_
  .split
   .exact Loc.ret _
   .exact Loc.frz _ _
  .split
   .exact Loc.bind (Loc.touchI _) λ_=>Loc.ret _
   .exact Loc.ret _
theorem Loc.lpM(A:Ar)(D:Orc)(own:List (Nat × Nat))(f i:Nat)(h:LpH)(c:MC)(xs:List AV):Loc (lpM A D own f i h c xs):=by
 unfold Go.Proofs.YtpncilciembjdaaGreatDoor.lpM;refine Loc.bind (Loc.evC (Loc.callsM D own) (Loc.loopsM D f) _ _) λr=>?_
 split
 .exact Loc.bind (Loc.frzT _ _) λ_=>Loc.bind (Loc.loopsM _ _ _ _) λ_=>Loc.ret _
 .exact Loc.fail
 .exact Loc.bind (Loc.frzT _ _) λ_=>Loc.bind (Loc.delT _ _) λ_=>Loc.bind (Loc.touchA _ _) λ_=>Loc.ret _
theorem Hk{A:Ar}{Γ:FuncId->List AV->AM AV}:∀(l:List MOp) {T:List AV} {H:AH} {T':List AV} {H':AH} {fs:List Foot},runM A Γ l T H=Δ (T',H',fs)->T'.length=T.length
 |[],T,H,T',H',fs,h=>by
  simp only[runM,Ψ,Prod.mk.injEq]at h;rw[h.1]
 |o::r,T,H,T',H',fs,h=>by
  simp only[runM]at h;rcases e1:coreM A Γ o T H with _|⟨v,H1,f⟩<;>rw[e1]at h
  .cases h
  simp only at h;rcases e2:runM A Γ r (BX T o.dst v) H1 with _|⟨T2,H2,fs'⟩<;>rw[e2]at h
  .cases h
  simp only[Ψ,Prod.mk.injEq]at h;obtain⟨rfl,rfl,rfl⟩:=h;rw[Hk r e2,E9]
theorem DV:∀(l:List (Nat × Nat)) (T:List AV) {H:AH} {T':List AV} {H':AH} {ft:Foot},adoptM l T H=Δ (T',H',ft)->T'.length=T.length
 |[],T,H,T',H',ft,h=>by
  obtain⟨rfl,rfl⟩:=Ag h;rfl
 | (t,e)::r,T,H,T',H',ft,h=>by
  unfold adoptM at h
  cases en:Sy T t with
  |true=>
   rw[en]at h;obtain⟨b,H1,f1,f2,h1,h2⟩:=bind_some h;rw[DV r _ h2,AqW]
  |false=>
   rw[en]at h
   cases eq:OF T t with
   |some q=>
    rw[eq]at h;obtain⟨_,H1,f1,f2,h1,h2⟩:=bind_some h;exact DV r T h2
   |none=>
    rw[eq]at h;exact DV r T h
theorem DN{A:Ar}{Γ:FuncId->List AV->AM AV}{Λ:Nat->List AV->AM (AX × List AV)}:∀(c:MC) (T:List AV) (r:AX × List AV) {H H':AH} {ft:Foot},(h:evC A Γ Λ c T H=Δ (r,H',ft))->r.2.length=T.length
 |.skip,T,r,H,H',ft,h=>by
  obtain⟨rfl,rfl⟩:=Ag h;rfl
 |.reg ops bf,T,r,H,H',ft,h=>by
  have h:regM A Γ ops bf T H=Δ (r,H',ft):=h;unfold regM at h;rcases e:runM A Γ ops T H with _|⟨T1,H1,fs⟩<;>rw[e]at h
  .cases h
  simp only at h
  cases bf with
  |none=>
   simp only[Ψ,Prod.mk.injEq]at h;rw[←h.1];exact Hk ops e
  |some bf=>
   simp only at h
   cases eh:DQ bf fs with
   |true=>
    rw[eh]at h;simp only[Ψ,Prod.mk.injEq]at h;rw[←h.1];exact Hk ops e
   |false=>rw[eh]at h;cases h
 |.seq a b,T,r,H,H',ft,h=>by
  obtain⟨⟨ax,T1⟩,H1,f1,f2,h1,h2⟩:=bind_some h;have e1:=DN a T _ h1
  cases ax with
  |normal=>rw[DN b _ r h2];exact e1
  |_=>
   obtain⟨rfl,rfl⟩:=Ag h2;exact e1
 |.cond c a b,T,r,H,H',ft,h=>by
  have h:(match AE T c with
   |.v (.bool t)=>(match t with
    |true=>evC A Γ Λ a T
    |false=>evC A Γ Λ b T)
   |_=>AM.fail) H=Δ (r,H',ft):=h
  cases ec:AE T c with
  |v u=>
   rw[ec]at h
   cases u with
   |bool t=>
    cases t with
    |true=>exact DN a T r h
    |false=>exact DN b T r h
   |_=>exact(Af h).elim
  |_=>rw[ec]at h;exact(Af h).elim
 |.block id c,T,r,H,H',ft,h=>by
  obtain⟨⟨ax,T1⟩,H1,f1,f2,h1,h2⟩:=bind_some h;have e1:=DN c T _ h1
  cases ax with
  |exit i=>
   rcases Be h2 with⟨_,h2⟩|⟨_,h2⟩ <;>
   .obtain⟨rfl,rfl⟩:=Ag h2
    exact e1
  |_=>
   obtain⟨rfl,rfl⟩:=Ag h2;exact e1
 |.loop i q,T,r,H,H',ft,h=>by
  obtain⟨T1,H1,f1,f2,h1,h2⟩:=bind_some h;have e1:=DV _ _ h1;obtain⟨T2,H3,f5,f6,h5,h2⟩:=bind_some h2;have e2:=EQ _ _ h5
  cases en:AqO T2.length q.n with
  |true=>
   rw[en]at h2;obtain⟨r1,H2,f3,f4,h3,h4⟩:=bind_some h2;obtain⟨rfl,rfl⟩:=Ag h4;simp only;rw[CE,←e1,←e2];exact(AqG en).symm
  |false=>rw[en]at h2;exact(Af h2).elim
 |.exit id,T,r,H,H',ft,h=>by
  obtain⟨rfl,rfl⟩:=Ag h;rfl
 |.ret,T,r,H,H',ft,h=>by
  obtain⟨rfl,rfl⟩:=Ag h;rfl
 |.bad,T,r,H,H',ft,h=>(Af h).elim
def Yt:AX->Value
 |.normal=>.bool Ξ
 |.ret=>.bool U
 |.exit i=>.int .i64 (Int.ofNat i)
 |.goto _=>.bool Ξ
def LoopW(P:Program)(c:Code)(Q:Exit->Act->World->Prop)(a:Act)(w:World):Prop:=∀ b k cs,∃ e a' w',Q e a' w'/\Arrives P (lone (b.at a (.code c::.inLoop c::k)) cs w) b k cs e a' w'
theorem LoopW.mono{P:Program}{c:Code}{Q Q':Exit->Act->World->Prop}{a:Act}{w:World}(h:LoopW P c Q a w)(k:∀ e a' w',Q e a' w'->Q' e a' w'):LoopW P c Q' a w:=λb l cs=>by
 obtain⟨e,a',w',h1,h2⟩:=h b l cs;exact⟨e,a',w',k _ _ _ h1,h2⟩
theorem LoopW.wp{P:Program}{c:Code}{Q:Exit->Act->World->Prop}{a:Act}{w:World}(h:LoopW P c Q a w):(Code.loop c).wp P Q a w:=λb k cs=>by
 obtain⟨e,a',w',h1,h2⟩:=h b k cs;exact⟨e,a',w',h1,.of_steps (.one step_loop) h2⟩
theorem LoopW.step{P:Program}{c:Code}{Q:Exit->Act->World->Prop}{a:Act}{w:World} (h:c.wp P (λe a' w'=>match e with
  |.normal=>LoopW P c Q a' w'
  |e=>Q e a' w') a w):LoopW P c Q a w:=by
 intro b k cs;obtain⟨e,a₁,w₁,hq,harr⟩:=h b (.inLoop c::k) cs
 cases e with
 |normal=>
  obtain⟨e₂,a₂,w₂,hq₂,harr₂⟩:=hq b k cs;exact⟨e₂,a₂,w₂,hq₂,.of_steps (Steps.trans harr (.one step_inLoop)) harr₂⟩
 |exit id=>exact⟨_,a₁,w₁,hq,.pass (x:=.inLoop c) rfl (λ_ _=>.inl (by simp)) harr⟩
 |goto l=>exact⟨_,a₁,w₁,hq,.pass (x:=.inLoop c) rfl (λ_ _=>.inl (by simp)) harr⟩
 |ret=>exact⟨_,a₁,w₁,hq,.pass (x:=.inLoop c) rfl (λ_ _=>.inl (by simp)) harr⟩
 |panic ch=>exact⟨_,a₁,w₁,hq,.pass (x:=.inLoop c) rfl (λ_ _=>.inl (by simp)) harr⟩
 |outgrown=>exact⟨_,a₁,w₁,hq,.pass (x:=.inLoop c) rfl (λ_ _=>.inl (by simp)) harr⟩
def Ow(P:Program)(h:LpH)(c:Code):J7:=λus w Q=>∀ a:Act,a.tmps.toList.length=h.n->B7 h.live a.tmps.toList=us->a.defers=[]->LoopW P c (λe a' w'=>a'.defers=[]/\a'.tmps.toList.length=h.n/\∃ x:AX,e=x.ex/\(x=.ret\/∃ i,x=.exit i)/\Q (.tuple (Yt x::B7 (h.out x) a'.tmps.toList).toArray) w') a w
theorem NT(P:Program)(h:LpH)(c:Code):Ov (Ow P h c):=λ_ _ _ _ g k a h1 h2 h3=>LoopW.mono (g a h1 h2 h3) λ_ _ w' ⟨q1,q2,x,q3,q4,q5⟩=>⟨q1,q2,x,q3,q4,k _ w' q5⟩
theorem Yr{μ:Mu}{F:Az}{w:World}{v:AV}{ax x:AX}(h:Ts v=Δ ax)(hr:Rep μ F w v (Yt x))(hx:x=.ret\/∃ i,x=.exit i):ax=x:=by
 unfold Ts at h;split at h<;>simp only[Ψ,reduceCtorEq]at h
 .simp only[Rep]at hr
  rcases hx with rfl|⟨i,rfl⟩
  .exact h.symm
  .exact absurd hr.1 (by simp[Yt])
 .simp only[Rep]at hr
  rcases hx with rfl|⟨i,rfl⟩
  .exact absurd hr.1 (by simp[Yt])
  .exact absurd hr.1 (by simp[Yt])
 .simp only[Rep]at hr
  rcases hx with rfl|⟨i,rfl⟩
  .exact absurd hr.1 (by simp[Yt])
  .have:=hr.1
   simp[Yt]at this;rw[←h];exact congrArg AX.exit (by omega)
theorem JE{P:Program}{D:Orc}{f i:Nat}{c:Code}{q:LpH}(hD:AN (Ow P q c) (D.ask (.lp f i))){xs:List AV}{H:AH}{x:AX}{ys:List AV}{H':AH}{ft:Foot}(h:loopsM D f i xs H=Δ ((x,ys),H',ft)){μ:Mu}{F:Az}{w:World}{a:Act}(hn:a.tmps.toList.length=q.n)(hT:RepList μ F w xs (B7 q.live a.tmps.toList))(hd:a.defers=[])(hH:HRep μ F w H.get)(hw:H.wf)(hf:BD μ H) :
  LoopW P c (λe a' w'=>e=x.ex/\a'.defers=[]/\a'.tmps.toList.length=q.n/\(x=.ret\/∃ i,x=.exit i)/\H.next<=H'.next/\H'.top=H.top/\H'.wf/\∃ μ' F',RepList μ' F' w' ys (B7 (q.out x) a'.tmps.toList)/\HRep μ' F' w' H'.get/\Later μ μ' F F' w w'/\WStep F w w'/\∀ b,(b<H.next\/H'.next<=b)->μ' b=μ b) a w:=by
 unfold loopsM at h;obtain⟨r,H1,f1,f2,h1,h2⟩:=bind_some h;have L1:=Loc.callD (D.ask (.lp f i)) xs _ _ _ _ hw h1;have key:=Lj (NT P q c) hD xs μ F w H _ hT hH hw hf r H1 f1 h1 a hn rfl hd;refine LoopW.mono key ?_;rintro e a' w' ⟨hd',hn',y,rfl,hy,μ',F',q1,q2,q3,q4,q5⟩
 cases r with
 |tup vs=>
  cases vs with
  |nil=>exact(Af h2).elim
  |cons v vs=>
   simp only at h2
   cases e1:Ts v with
   |none=>rw[e1]at h2;exact(Af h2).elim
   |some ax=>
    rw[e1]at h2;obtain⟨e2,rfl⟩:=Ag h2;simp only[Prod.mk.injEq]at e2;obtain⟨rfl,rfl⟩:=e2;simp only[Rep]at q1;obtain⟨us,hus,hr⟩:=q1;simp only[Value.tuple.injEq]at hus;rw[←hus]at hr;simp only[RepList]at hr;obtain⟨u,t,e3,hu,ht⟩:=hr;simp only[List.cons.injEq]at e3;obtain⟨rfl,rfl⟩:=e3;have:=Yr e1 hu hy;subst this;exact⟨rfl,hd',hn',hy,L1.next,L1.top,L1.wf,μ',F',ht,q2,q3,q4,q5⟩
 |_=>exact(Af h2).elim
theorem JF{P:Program}{D:Orc}{f i:Nat}{c:Code}{q:LpH}(hD:AN (Ow P q c) (D.ask (.lp f i))):GI P q (loopsM D f i) c:=λ_ _ _ _ _ _ h _ _ _ _ hn hT hd hH hw hf=>
 (LoopW.mono (JE hD h hn hT hd hH hw hf) λ_ a' _ ⟨h1,h2,h3,_,h5,h6,h7,μ',F',k1,k2,k3,k4,k5⟩=>⟨_,_,_,h1,⟨rfl,rfl,rfl⟩,⟨μ',F',⟨by rw[←h3];exact EF _ _ k1,h2⟩,k2,k3,k4,k5⟩,h5,h6,h7⟩).wp
theorem Qz{P:Program}(T:List AV):∀(rs:List ResultVar),(∀ t ty,.cell t ty∈rs->(BM P ty=Δ U/\∃ n,C3 P ty=Δ n)\/BM P ty=Δ Ξ)->Le (resM T (Ix P rs)) (resA P T rs)
 |[],_=>Le.refl _
 |.tmp t::r,h=>Le.bind (Qz T r λt ty ht=>h t ty (by simp[ht])) λ_=>Le.refl _
 |.cell t ty::r,h=>by
  have ih:=Qz (P:=P) T r λt ty ht=>h t ty (by simp[ht])
  rcases h t ty (by simp) with⟨h1,n,h2⟩|h1
  .have:Ix P (.cell t ty::r)=.cell t U n::Ix P r:=by unfold Ix;rw[AqF];simp only[h1,h2]
   rw[this];exact Le.bind (Mf h1 (λ_=>h2) _) λ_=>Le.bind ih λ_=>Le.refl _
  .have:Ix P (.cell t ty::r)=.cell t Ξ 0::Ix P r:=by unfold Ix;rw[AqF];simp only[h1]
   rw[this];exact Le.bind (Mf (n:=0) h1 (λh=>by cases h) _) λ_=>Le.bind ih λ_=>Le.refl _
def okR(P:Program)(rs:List ResultVar):Bool:=rs.all λr=>match r with
 |.tmp _=>U
 |.cell _ ty=>(match BM P ty,C3 P ty with
  |some U,Δ _=>U
  |some Ξ,_=>U
  |_,_=>Ξ)
theorem Aae{P:Program}{rs:List ResultVar}(h:okR P rs=U):∀ t ty,.cell t ty∈rs->(BM P ty=Δ U/\∃ n,C3 P ty=Δ n)\/BM P ty=Δ Ξ:=λt ty ht=>by
 have:=Aqt.1 h _ ht;simp only at this;split at this
 .exact .inl ⟨‹_›,_,‹_›⟩
 .exact .inr ‹_›
 .cases this
structure FnOk (P:Program) (ents:Nat) (f:FuncId) (mf:MFn):Prop where
 ok:∃ fn c hs,P.funcs[f]? = Δ fn/\fn.body=Δ c/\J6 c=U/\okR P fn.results.toList=U/\mf.nt=fn.ntmps/\mf.res=Ix P fn.results.toList/\mf.body=(Bi P ents hs c 0).1/\mf.loops=(Bi P ents hs c 0).2
theorem WA{P:Program}{ents:Nat}{D:Orc}(own:List (Nat × Nat))(hm:P.follows .mixedOrders=U)(hE:Iq P ents){f:FuncId}{mf:MFn}{fn:Func}{c:Code}{hs:Jf}(h1:P.funcs[f]? = Δ fn)(h2:fn.body=Δ c)(h3:J6 c=U)(h4:okR P fn.results.toList=U)
  (h5:mf.nt=fn.ntmps) (h6:mf.res=Ix P fn.results.toList) (h7:mf.body=(Bi P ents hs c 0).1) (hΓ:FT P (callsM D own)) (hΛ:∀ j c' q,(Br c)[j]? = Δ c'->hs[j]? = Δ q->GI P q (loopsM D f j) c'):PO (AT P f) (fnM Ah D own f mf):=by
 intro args μ F w H us hv hH hw hf r H' ft h;unfold fnM at h;obtain⟨⟨x,T1⟩,H1,f1,f2,g1,g2⟩:=bind_some h;rw[h7,h5]at g1;have hlen:=hv.length;have hT:RT μ F w (P9 fn.ntmps args) { tmps:=us.toArray++Array.replicate (fn.ntmps-us.toArray.size) Go.undef,defers:=[] }:=by
  refine⟨?_,rfl⟩;unfold P9;simp only[Array.toList_append,Array.toList_replicate];refine RepList.append hv (RepList.mk (by simp[hlen]) λi x hx=>?_);rw[AsS]at hx;split at hx
  .rename_i hi
   simp only[Ψ]at hx;subst hx;exact⟨Go.undef,by rw[AsS,if_pos (by simp[hlen];omega)],FI _ _ _⟩
  .cases hx
 refine calls_of_wp h1 h2 (wp_mono (DO hm hE hΓ (Loc.callsM D own) (Loc.loopsM D f) hs c 0 h3 (λj c' q hj=>by rw[Nat.zero_add];exact hΛ j c' q hj) g1 hT hH hw hf) ?_);rintro e a' w' ⟨x',T',H2,rfl,⟨rfl,rfl,rfl⟩,⟨μ',F',k1,k2,k3,k4,k5⟩,k6,k7,k8⟩;simp only at g2;have hx:(x'=.normal\/x'=.ret)/\((resM T' mf.res).bind λl=>(match mf.own with
  |true=>AM.ret (Ip l)
  |false=>frz 1000 (Ip l)).bind λv=>match mf.tch with
   |true=>(touchI (DZ args)).bind λ_=>AM.ret v
   |false=>AM.ret v) H2=Δ (r,H',f2):=by
  cases x' with
  |normal=>exact⟨.inl rfl,g2⟩
  |ret=>exact⟨.inr rfl,g2⟩
  |exit i=>exact(Af g2).elim
  |goto l=>exact(Af g2).elim
 obtain⟨hx,g3⟩:=hx;obtain⟨l,H3,f3,f4,q1,q2⟩:=bind_some g3;obtain⟨v0,H4,f5,f6,q3,q4⟩:=bind_some q2;rw[h6]at q1;have q1':=Qz T' fn.results.toList (Aae h4) _ _ q1;have q1'':NJ P fn T' H2=Δ (Ip l,H3,⟨f3.rd++[],f3.wr++[]⟩):=by
  unfold NJ AM.bind;rw[q1'];rfl
 obtain⟨e3,u,hu1,hu2⟩:=NK k1 k2 q1'';rw[e3]at q3;have hf2:BD μ' H2:=Bv hf k6 k7 k5;have mid:H2.next<=H4.next/\H4.top=H2.top/\H4.wf/\Gh μ' F' w' H2 H4 λμ2 F2=>Rep μ2 F2 w' v0 u:=by
  cases eo:mf.own with
  |true=>
   rw[eo]at q3;obtain⟨rfl,rfl⟩:=Ag q3;exact⟨ω _,rfl,k8,Gh.same k2 hu2⟩
  |false=>
   rw[eo]at q3;have L3:=Loc.frz 1000 (Ip l) _ _ _ _ k8 q3;exact⟨L3.next,L3.top,L3.wf,HL 1000 (Ip l) hu2 k2 k8 q3⟩
 obtain⟨n4,t4,w4,μ2,F2,m1,m2,m3,m4⟩:=mid;have hf4:BD μ2 H4:=Bv hf2 n4 t4 m3;have last:H4.next<=H'.next/\r=v0/\Gh μ2 F2 w' H4 H' λμ3 F3=>Rep μ3 F3 w' v0 u:=by
  cases et:mf.tch with
  |false=>
   rw[et]at q4;obtain⟨rfl,rfl⟩:=Ag q4;exact⟨ω _,rfl,Gh.same m2 m4⟩
  |true=>
   rw[et]at q4;obtain⟨ys,H5,f7,f8,p1,p2⟩:=bind_some q4;obtain⟨rfl,rfl⟩:=Ag p2;have L4:=Loc.touchI (DZ args) _ _ _ _ w4 p1;exact⟨L4.next,rfl,(DI (DZ args) m2 w4 hf4 p1).mono λμ3 F3 l3 _=>m4.later l3⟩
 obtain⟨n5,rfl,μ3,F3,o1,o2,o3,o4⟩:=last;have fin:Post μ F w H r H' u w':=
  ⟨μ3,F3,o4,o2,k3.trans (m1.trans o1),k4,λb hb=>by rw[o3 b (by omega),m3 b (by omega),k5 b (by omega)]⟩
 have fin2:a'.defers=[]/\∃ v,(results fn a'.tmps).run P w'=.ok v w'/\∃ u,Ending.returned v=.returned u/\Post μ F w H r H' u w':=⟨k1.2,u,hu1,u,rfl,fin⟩;rcases hx with rfl|rfl
 .exact fin2
 .exact fin2
theorem WY{P:Program}{ents:Nat}{D:Orc}(own:List (Nat × Nat))(hm:P.follows .mixedOrders=U)(hE:Iq P ents){f i:Nat}{q:LpH}{c:Code}{hs:Jf}{n:Nat}(h3:J6 c=U)(hΓ:FT P (callsM D own))
  (hΛ:∀ j c' q,(Br c)[j]? = Δ c'->hs[n+j]? = Δ q->GI P q (loopsM D f (n+j)) c') (hD:AN (Ow P q c) (D.ask (.lp f i))):PO (Ow P q c) (lpM Ah D own f i q (Bi P ents hs c n).1):=by
 intro xs μ F w H us hv hH hw hf r H' ft h a hn ha hd;subst ha;unfold lpM at h;obtain⟨⟨x,T1⟩,H1,f1,f2,g1,g2⟩:=bind_some h;have hT0:RT μ F w (BG q.live q.n xs) a:=⟨by rw[←hn];exact EF _ _ hv,hd⟩;refine LoopW.step (wp_mono (DO hm hE hΓ (Loc.callsM D own) (Loc.loopsM D f) hs c n h3 hΛ g1 hT0 hH hw hf) ?_);rintro e a' w' ⟨x',T',H2,rfl,⟨rfl,rfl,rfl⟩,⟨μ',F',k1,k2,k3,k4,k5⟩,k6,k7,k8⟩;simp only at g2;have hf2:BD μ' H2:=Bv hf k6 k7 k5;have hn':a'.tmps.toList.length=q.n:=by
  rw[k1.1.length,DN _ _ _ g1,CE]
 have tup:∀{y:AX} {ys:List AV} {μ2:Mu} {F2:Az} {w2:World} {vs:List Value},(y=.ret\/∃ i,y=.exit i)->RepList μ2 F2 w2 ys vs->Rep μ2 F2 w2 (.tup (Yq y::ys)) (.tuple (Yt y::vs).toArray):=λ{y ys μ2 F2 w2 vs} hy hT=>by
  simp only[Rep];refine⟨_,rfl,?_⟩;simp only[RepList];refine⟨Yt y,vs,rfl,?_,hT⟩;rcases hy with rfl|⟨i,rfl⟩<;>(simp only[Yq,Yt,Rep];exact⟨trivial,rfl⟩)
 have out:∀(y:AX),(y=.ret\/∃ i,y=.exit i)->((frzT (q.fzo y) T').bind λT=>(delT (q.dlo y) T).bind λ_=>(touchA (q.nt y) (B7 (q.out y) T)).bind λys=>AM.ret (.tup (Yq y::ys))) H2=Δ (r,H',f2)->Post μ F w H r H' (.tuple (Yt y::B7 (q.out y) a'.tmps.toList).toArray) w':=λy hy g=>by
  obtain⟨T3,H3,f3,f4,p1,p2⟩:=bind_some g;obtain⟨_,H4,f5,f6,p3,p4⟩:=bind_some p2;obtain⟨ys,H5,f7,f8,p5,p6⟩:=bind_some p4;obtain⟨rfl,rfl⟩:=Ag p6;have L3:=Loc.frzT (q.fzo y) T' _ _ _ _ k8 p1;have L4:=Loc.delT (q.dlo y) T3 _ _ _ _ L3.wf p3;have L5:=Loc.touchA (q.nt y) (B7 (q.out y) T3) _ _ _ _ L4.wf p5;have n3:=L3.next;have n4:=L4.next;have n5:=L5.next;obtain⟨μ3,F3,o1,o2,o3,o4⟩:=DP _ _ k1.1 k2 k8 p1;have hf3:=Bv hf2 L3.next L3.top o3;obtain⟨μ4,F4,v1,v2,v3,_⟩:=FY _ _ o2 L3.wf p3;have hf4:=Bv hf3 L4.next L4.top v3;obtain⟨μ2,F2,m1,m2,m3,m4⟩:=Eg _ _ (He (m:=q.out y) (o4.later' v1)) v2 L4.wf hf4 p5;exact⟨μ2,F2,tup hy m4,m2,k3.trans (o1.trans (v1.trans m1)),k4,λb hb=>by rw[m3 b (by omega),v3 b (by omega),o3 b (by omega),k5 b (by omega)]⟩
 cases x' with
 |normal=>
  obtain⟨T3,H4,f5,f6,p1,g3⟩:=bind_some g2;obtain⟨⟨y,ys⟩,H3,f3,f4,q1,q2⟩:=bind_some g3;obtain⟨rfl,rfl⟩:=Ag q2;have L3:=Loc.frzT q.fz T' _ _ _ _ k8 p1;have n3:=L3.next;obtain⟨μ3,F3,o1,o2,o3,o4⟩:=DP q.fz T' k1.1 k2 k8 p1;have:=JE hD q1 (μ:=μ3) (F:=F3) (w:=w') (a:=a') hn' (He o4) k1.2 o2 L3.wf (Bv hf2 L3.next L3.top o3);refine LoopW.mono this ?_;rintro e a2 w2 ⟨rfl,h1,h2,hy,h5,h6,h7,μ2,F2,m1,m2,m3,m4,m5⟩;exact⟨h1,h2,y,rfl,hy,μ2,F2,tup hy m1,m2,(k3.trans o1).trans m3,WStep.trans (λg o hg=>((k3.trans o1).prot g o hg).1) k4 m4,λb hb=>by rw[m5 b (by omega),o3 b (by omega),k5 b (by omega)]⟩
 |goto l=>exact(Af g2).elim
 |exit i=>exact⟨k1.2,hn',.exit i,rfl,.inr ⟨i,rfl⟩,out (.exit i) (.inr ⟨i,rfl⟩) g2⟩
 |ret=>exact⟨k1.2,hn',.ret,rfl,.inl rfl,out .ret (.inl rfl) g2⟩
