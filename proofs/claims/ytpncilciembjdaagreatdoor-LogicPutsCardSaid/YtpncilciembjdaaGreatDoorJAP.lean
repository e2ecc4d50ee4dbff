/- A contract of the world -/
import Derived.Test.YtpncilciembjdaaGreatDoorJAL
set_option linter.all false
open Bool renaming true->U
open Nat renaming le_refl->η,lt_of_lt_of_le->At4,mul_le_mul_right->Aub,zero_le->AtI
open Option renaming none->Θ,some->Δ
namespace Go.Proofs.YtpncilciembjdaaGreatDoor
open BO renaming set->Atb
open Go.RowKit
section
variable {μ:Mu} {F:AP} {w w':World}
theorem Aa7{H:Nat->Option ABlk}(hH:HRep μ F w H)(h:Below w.heap.size w w'):Later μ μ F F w w':=
 ⟨λ_ _ h=>h,λg o hg=>⟨hg,(Dz F h).cell hg (hH.prot g o hg)⟩⟩
theorem H9{H:Nat->Option ABlk}(hH:HRep μ F w H)(h:Below w.heap.size w w'){b0:Nat}(h0:H b0=Θ)(hμ:μ b0=Θ)(p:Pl)(k:ABlk)(hst:k.st=U)
  (hg:w.heap.size<=p.g\/p.room=0) (hroom:k.cells.length<=p.room)
  (hcell:∀ i x,k.cells[i]? = Δ x->∃ u,w'.cell? ⟨p.g,p.o+i,Θ⟩=Δ u/\Rep μ F w x u)
  (hthere:∀ i,i<p.room->(∃ u,w'.cell? ⟨p.g,p.o+i,Θ⟩=Δ u)/\w'.frozen? ⟨p.g,p.o+i,Θ⟩=false) (hpure:AU k.cells=U) :
  ∃ μ',μ' b0=Δ p/\(∀ b,b≠b0->μ' b=μ b)/\HRep μ' F w' (λb=>if b=b0 then Δ k else H b)/\Later μ μ' F F w w':=by
 have hl0:=Aa7 hH h;have hl:Later μ (λb=>if b=b0 then Δ p else μ b) F F w w':=⟨λb q hb=>by
  by_cases e:b=b0
  .subst e;rw[hμ]at hb;cases hb
  .simp only[e,if_false];exact hb,hl0.prot⟩
 have st:=Dz (λ_ _=>False) h;have same:∀ g o,g<w.heap.size->w'.cell? ⟨g,o,Θ⟩=w.cell? ⟨g,o,Θ⟩:=λg o hg=>h.cell (p:=⟨g,o,Θ⟩) hg
 refine⟨λb=>if b=b0 then Δ p else μ b,Ac rfl,λb hb=>Ad hb,⟨λb kb hb=>?_,λb b' kb kb' q q' hne hb hb' hq hq' i i' hi hi'=>?_,λg o hgo=>At4 (hH.prot g o hgo) h.size⟩,hl⟩
 .by_cases e:b=b0
  .subst e
   simp only[if_true]at hb ⊢;injection hb with hb
   subst hb;refine⟨p,rfl,λi x hx=>?_,hroom,hthere,λhf=>?_,λi hi hF=>?_,λ_=>hpure⟩
   .obtain⟨u,h1,h2⟩:=hcell i x hx
    exact⟨u,h1,h2.later hl⟩
   .rw[hst]at hf;cases hf
   .have hlt:=hH.prot _ _ hF
    rcases hg with hg|hg
    .omega
    .rcases hi with⟨h1,_⟩|⟨_,h1,_⟩
     .omega
     .omega
  .simp only[e,if_false]at hb ⊢
   obtain⟨q,hq,B⟩:=hH.blk b kb hb;refine⟨q,hq,?_,B.room,?_,B.kept,B.free,B.pure⟩
   .intro i x hx
    obtain⟨u,h1,h2⟩:=B.cell i x hx;exact⟨u,(same _ _ (C7 h1)).trans h1,h2.later hl⟩
   .intro i hi
    obtain⟨⟨u,h1⟩,h2⟩:=B.there i hi;exact⟨⟨u,(same _ _ (C7 h1)).trans h1⟩,(st.frozen (C7 h1)).trans h2⟩
 .have old:∀(c:Nat) (kc:ABlk) (q:Pl),H c=Δ kc->μ c=Δ q->∀ j,kc.owns q.room j->q.g<w.heap.size:=λc kc q hc hq j hj=>by
   obtain⟨q',hq',B⟩:=hH.blk c kc hc;rw[hq]at hq'
   cases hq'
   have hr:j<q.room:=by
    rcases hj with⟨h1,_⟩|⟨_,h1,_⟩
    .exact At4 h1 B.room
    .exact h1
   obtain⟨⟨u,h1⟩,_⟩:=B.there j hr;exact C7 h1
  have newr:∀ j,k.owns p.room j->w.heap.size<=p.g:=λj hj=>by
   rcases hg with hg|hg
   .exact hg
   .rcases hj with⟨h1,_⟩|⟨_,h1,_⟩<;>omega
  by_cases e:b=b0
  .subst e
   have e':¬ b'=b:=λe=>hne e.symm
   simp only[if_true,e',if_false]at hb hb' hq hq';injection hb with hb
   injection hq with hq
   subst hb hq;have:=old b' kb' q' hb' hq' i' hi';have:=newr i hi;intro e2;injection e2 with e3 _
   omega
  .by_cases e':b'=b0
   .subst e'
    simp only[if_true,e,if_false]at hb hb' hq hq';injection hb' with hb'
    injection hq' with hq'
    subst hb' hq';have:=old b kb q hb hq i hi;have:=newr i' hi';intro e2;injection e2 with e3 _
    omega
   .simp only[e,e',if_false]at hb hb' hq hq'
    exact hH.apart b b' kb kb' q q' hne hb hb' hq hq' i i' hi hi'
end
def DS(e:Nat)(res:Aa->Option (Nat × Aa)):DF:=λargs bs=>match bs with
 |[]=>(res args).map λp=>(.sl 0 0 p.1 e,[.set ⟨p.2,U,U⟩])
 |_=>Θ
theorem H7{S:Mi}(hm:OW S)(e:Nat)(res:Aa->Option (Nat × Aa))
  (h:∀ args n cells,res args=Δ (n,cells)->AU cells=U/\cells.length=n*e/\∀(μ:Mu) (F:AP) (w:World) (us:AA),(∀ g o,F g o->g<w.heap.size)->RepList μ F w args us->
   S us w λu w'=>∃ ety vs,w'.ownsRow w.heap.size ety e u n vs/\Below w.heap.size w w'/\RepList μ F w cells vs) :
  A1 S (DS e res):=by
 intro args bs r out hd
 cases bs with
 |cons=>cases hd
 |nil=>
  obtain⟨⟨n,cells⟩,hr,he⟩:=Option.map_eq_some_iff.1 hd;obtain⟨rfl,rfl⟩:AV.sl 0 0 n e=r/\[Atb ⟨cells,U,U⟩]=out:=by simpa using he
  obtain⟨hpure,hlen,hs⟩:=h args n cells hr;refine⟨AtI _,1,η _,λt ht μ F w KL us hKL hus hH hμ=>?_⟩;refine hm _ _ _ _ (hs μ F w us hH.prot hus) λu w' ⟨ety,vs,ho,hb,hc⟩=>?_
  have h0:(λb=>if b<t then([]:List ABlk)[b]? else look b KL) 0=Θ:=by
   grind
  have hμ0:μ 0=Θ:=hμ 0 (AtI _) (by omega);have fin:∀(μ':Mu) (p:Pl),(∀ b,b≠0->μ' b=μ b)->HRep μ' F w' (λb=>if b=0 then Δ ⟨cells,U,U⟩ else(λb=>if b<t then([]:List ABlk)[b]? else look b KL) b)->Later μ μ' F F w w'->Rep μ' F w' (.sl 0 0 n e) u->
    ∃ μ' F',Rep μ' F' w' (.sl 0 0 n e) u/\HRep μ' F' w' (λb=>if b<t then C8 [] [Atb ⟨cells,U,U⟩] b else look b KL)/\Later μ μ' F F' w w'/\WStep F w w'/\∀ b,(b<([]:List ABlk).length\/[Atb ⟨cells,U,U⟩].length<=b)->μ' b=μ b:=λμ' p h1 h2 h3 h4=>by
   refine⟨μ',F,h4,?_,h3,Dz F hb,λb hb=>h1 b ?_⟩
   .have e2:(λb=>if b=0 then Δ (⟨cells,U,U⟩:ABlk) else(λb=>if b<t then([]:List ABlk)[b]? else look b KL) b)=λb=>if b<t then C8 [] [Atb ⟨cells,U,U⟩] b else look b KL:=by
     funext b
     cases b with
     |zero=>
      rw[Ac rfl,Ac (by omega)];rfl
     |succ b=>
      rw[Ad (by omega)]
      show (if b+1<t then Θ else look (b+1) KL)=_
      by_cases hbt:b+1<t
      .grind [C8]
      .grind
    rw[←e2];exact h2
   .grind
  obtain⟨hl,ho2⟩:=ho;rcases ho2 with⟨rfl,rfl⟩|⟨g,cap,cur,rfl,hg,hcur,hn,hm2,hsz,htk⟩
  .have hc0:cells=[]:=List.eq_nil_of_length_eq_zero (by rw[hlen];simp)
   subst hc0;obtain⟨μ',a1,a2,a3,a4⟩:=H9 hH hb h0 hμ0 ⟨0,0,0⟩ ⟨[],U,U⟩ rfl (.inr rfl) (η _) (λi x hx=>by simp at hx) (λi hi=>absurd hi (Nat.not_lt_zero _)) rfl;refine fin μ' ⟨0,0,0⟩ a2 a3 a4 ?_;unfold Rep;exact⟨_,a1,.inl ⟨rfl,rfl⟩⟩
  .have cellw:∀ i,i<cap*e->w'.cell? ⟨g,i,Θ⟩=cur[i]?:=λi _=>cell_of_row w' g i cur ety (0,0) hcur
   have vsl:vs.length=cells.length:=hc.length;obtain⟨μ',a1,a2,a3,a4⟩:=H9 hH hb h0 hμ0 ⟨g,0,cap*e⟩ ⟨cells,U,U⟩ rfl (.inl hg) (by show cells.length<=cap*e;rw[hlen];exact Aub _ hn)
    (λi x hx=>by
     obtain⟨u,h1,h2⟩:=hc.get hx;refine⟨u,?_,h2⟩;have hi:i<cells.length:=by
      grind
     have hi2:i<cap*e:=by rw[hlen]at hi;exact At4 hi (Aub _ hn)
     show w'.cell? ⟨g,0+i,Θ⟩=Δ u
     rw[Nat.zero_add,cellw i hi2,←h1,←htk,List.getElem?_take,Ac (by rw[hlen]at hi;exact hi),Array.getElem?_toList])
    (λi hi=>by
     have hi:i<cap*e:=hi;refine⟨⟨cur[i]'(by omega),?_⟩,?_⟩
     .grind
     .show w'.frozen? ⟨g,0+i,Θ⟩=false
      simp[World.frozen?,hcur]) hpure
   refine fin μ' ⟨g,0,cap*e⟩ a2 a3 a4 ?_;unfold Rep;exact⟨_,a1,.inr ⟨0,cap,rfl,λ_=>rfl,hn,hm2,by show 0+cap*e<=cap*e;omega⟩⟩
