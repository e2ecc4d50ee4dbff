/- A contract of the world -/
import Derived.Test.YtpncilciembjdaaGreatDoorHAL
set_option linter.all false
open Bool renaming true->Δ
open Nat renaming le_refl->π,lt_of_lt_of_le->AwZ,mul_le_mul_right->Aww,zero_le->Awz
open Option renaming none->Ξ,some->Θ
namespace Go.Proofs.YtpncilciembjdaaGreatDoor
open BO renaming set->Awn
open Go.RowKit
section
variable {μ:Mu} {F:Bf} {w w':World}
theorem Ac5{H:Nat->Option ABlk}(hH:HRep μ F w H)(h:Below w.heap.size w w'):Later μ μ F F w w':=
 ⟨λ_ _ h=>h,λg o hg=>⟨hg,(D5 F h).cell hg (hH.prot g o hg)⟩⟩
theorem I7{H:Nat->Option ABlk}(hH:HRep μ F w H)(h:Below w.heap.size w w'){b0:Nat}(h0:H b0=Ξ)(hμ:μ b0=Ξ)(p:Pl)(k:ABlk)(hst:k.st=Δ)
  (hg:w.heap.size<=p.g\/p.room=0) (hroom:k.cells.length<=p.room)
  (hcell:∀ i x,k.cells[i]? = Θ x->∃ u,w'.cell? ⟨p.g,p.o+i,Ξ⟩=Θ u/\Rep μ F w x u)
  (hthere:∀ i,i<p.room->(∃ u,w'.cell? ⟨p.g,p.o+i,Ξ⟩=Θ u)/\w'.frozen? ⟨p.g,p.o+i,Ξ⟩=false) (hpure:Bj k.cells=Δ) :
  ∃ μ',μ' b0=Θ p/\(∀ b,b≠b0->μ' b=μ b)/\HRep μ' F w' (λb=>if b=b0 then Θ k else H b)/\Later μ μ' F F w w':=by
 have hl0:=Ac5 hH h;have hl:Later μ (λb=>if b=b0 then Θ p else μ b) F F w w':=⟨λb q hb=>by
  by_cases e:b=b0
  .subst e;rw[hμ]at hb;cases hb
  .simp only[e,if_false];exact hb,hl0.prot⟩
 have st:=D5 (λ_ _=>False) h;have same:∀ g o,g<w.heap.size->w'.cell? ⟨g,o,Ξ⟩=w.cell? ⟨g,o,Ξ⟩:=λg o hg=>h.cell (p:=⟨g,o,Ξ⟩) hg
 refine⟨λb=>if b=b0 then Θ p else μ b,Ac rfl,λb hb=>Ad hb,⟨λb kb hb=>?_,λb b' kb kb' q q' hne hb hb' hq hq' i i' hi hi'=>?_,λg o hgo=>AwZ (hH.prot g o hgo) h.size⟩,hl⟩
 .by_cases e:b=b0
  .subst e
   simp only[if_true]at hb ⊢;injection hb with hb
   subst hb;refine⟨p,rfl,λi x hx=>?_,hroom,hthere,λhf=>?_,λi hi hF=>?_,λ_=>hpure⟩
   .obtain⟨u,h1,h2⟩:=hcell i x hx
    exact⟨u,h1,h2.later hl⟩
   .rw[hst]at hf;cases hf
   .have hlt:=hH.prot _ _ hF
    rcases hg with hg|hg
    .omega
    .rcases hi with⟨h1,_⟩|⟨_,h1,_⟩
     .omega
     .omega
  .simp only[e,if_false]at hb ⊢
   obtain⟨q,hq,B⟩:=hH.blk b kb hb;refine⟨q,hq,?_,B.room,?_,B.kept,B.free,B.pure⟩
   .intro i x hx
    obtain⟨u,h1,h2⟩:=B.cell i x hx;exact⟨u,(same _ _ (Dt h1)).trans h1,h2.later hl⟩
   .intro i hi
    obtain⟨⟨u,h1⟩,h2⟩:=B.there i hi;exact⟨⟨u,(same _ _ (Dt h1)).trans h1⟩,(st.frozen (Dt h1)).trans h2⟩
 .have old:∀(c:Nat) (kc:ABlk) (q:Pl),H c=Θ kc->μ c=Θ q->∀ j,kc.owns q.room j->q.g<w.heap.size:=λc kc q hc hq j hj=>by
   obtain⟨q',hq',B⟩:=hH.blk c kc hc;rw[hq]at hq'
   cases hq'
   have hr:j<q.room:=by
    rcases hj with⟨h1,_⟩|⟨_,h1,_⟩
    .exact AwZ h1 B.room
    .exact h1
   obtain⟨⟨u,h1⟩,_⟩:=B.there j hr;exact Dt h1
  have newr:∀ j,k.owns p.room j->w.heap.size<=p.g:=λj hj=>by
   rcases hg with hg|hg
   .exact hg
   .rcases hj with⟨h1,_⟩|⟨_,h1,_⟩<;>omega
  by_cases e:b=b0
  .subst e
   have e':¬ b'=b:=λe=>hne e.symm
   simp only[if_true,e',if_false]at hb hb' hq hq';injection hb with hb
   injection hq with hq
   subst hb hq;have:=old b' kb' q' hb' hq' i' hi';have:=newr i hi;intro e2;injection e2 with e3 _
   omega
  .by_cases e':b'=b0
   .subst e'
    simp only[if_true,e,if_false]at hb hb' hq hq';injection hb' with hb'
    injection hq' with hq'
    subst hb' hq';have:=old b kb q hb hq i hi;have:=newr i' hi';intro e2;injection e2 with e3 _
    omega
   .simp only[e,e',if_false]at hb hb' hq hq'
    exact hH.apart b b' kb kb' q q' hne hb hb' hq hq' i i' hi hi'
end
def DH(e:Nat)(res:Ab->Option (Nat × Ab)):DF:=λargs bs=>match bs with
 |[]=>(res args).map λp=>(.sl 0 0 p.1 e,[.set ⟨p.2,Δ,Δ⟩])
 |_=>Ξ
theorem I5{S:Nd}(hm:Qc S)(e:Nat)(res:Ab->Option (Nat × Ab))
  (h:∀ args n cells,res args=Θ (n,cells)->Bj cells=Δ/\cells.length=n*e/\∀(μ:Mu) (F:Bf) (w:World) (us:AO),(∀ g o,F g o->g<w.heap.size)->RepList μ F w args us->
   S us w λu w'=>∃ ety vs,w'.ownsRow w.heap.size ety e u n vs/\Below w.heap.size w w'/\RepList μ F w cells vs) :
  BD S (DH e res):=by
 intro args bs r out hd
 cases bs with
 |cons=>cases hd
 |nil=>
  obtain⟨⟨n,cells⟩,hr,he⟩:=Option.map_eq_some_iff.1 hd;obtain⟨rfl,rfl⟩:AV.sl 0 0 n e=r/\[Awn ⟨cells,Δ,Δ⟩]=out:=by simpa using he
  obtain⟨hpure,hlen,hs⟩:=h args n cells hr;refine⟨Awz _,1,π _,λt ht μ F w KL us hKL hus hH hμ=>?_⟩;refine hm _ _ _ _ (hs μ F w us hH.prot hus) λu w' ⟨ety,vs,ho,hb,hc⟩=>?_
  have h0:(λb=>if b<t then([]:List ABlk)[b]? else look b KL) 0=Ξ:=by
   grind
  have hμ0:μ 0=Ξ:=hμ 0 (Awz _) (by omega);have fin:∀(μ':Mu) (p:Pl),(∀ b,b≠0->μ' b=μ b)->HRep μ' F w' (λb=>if b=0 then Θ ⟨cells,Δ,Δ⟩ else(λb=>if b<t then([]:List ABlk)[b]? else look b KL) b)->Later μ μ' F F w w'->Rep μ' F w' (.sl 0 0 n e) u->
    ∃ μ' F',Rep μ' F' w' (.sl 0 0 n e) u/\HRep μ' F' w' (λb=>if b<t then Du [] [Awn ⟨cells,Δ,Δ⟩] b else look b KL)/\Later μ μ' F F' w w'/\WStep F w w'/\∀ b,(b<([]:List ABlk).length\/[Awn ⟨cells,Δ,Δ⟩].length<=b)->μ' b=μ b:=λμ' p h1 h2 h3 h4=>by
   refine⟨μ',F,h4,?_,h3,D5 F hb,λb hb=>h1 b ?_⟩
   .have e2:(λb=>if b=0 then Θ (⟨cells,Δ,Δ⟩:ABlk) else(λb=>if b<t then([]:List ABlk)[b]? else look b KL) b)=λb=>if b<t then Du [] [Awn ⟨cells,Δ,Δ⟩] b else look b KL:=by
     funext b
     cases b with
     |zero=>
      rw[Ac rfl,Ac (by omega)];rfl
     |succ b=>
      rw[Ad (by omega)]
      show (if b+1<t then Ξ else look (b+1) KL)=_
      by_cases hbt:b+1<t
      .grind [Du]
      .grind
    rw[←e2];exact h2
   .grind
  obtain⟨hl,ho2⟩:=ho;rcases ho2 with⟨rfl,rfl⟩|⟨g,cap,cur,rfl,hg,hcur,hn,hm2,hsz,htk⟩
  .have hc0:cells=[]:=List.eq_nil_of_length_eq_zero (by rw[hlen];simp)
   subst hc0;obtain⟨μ',a1,a2,a3,a4⟩:=I7 hH hb h0 hμ0 ⟨0,0,0⟩ ⟨[],Δ,Δ⟩ rfl (.inr rfl) (π _) (λi x hx=>by simp at hx) (λi hi=>absurd hi (Nat.not_lt_zero _)) rfl;refine fin μ' ⟨0,0,0⟩ a2 a3 a4 ?_;unfold Rep;exact⟨_,a1,.inl ⟨rfl,rfl⟩⟩
  .have cellw:∀ i,i<cap*e->w'.cell? ⟨g,i,Ξ⟩=cur[i]?:=λi _=>cell_of_row w' g i cur ety (0,0) hcur
   have vsl:vs.length=cells.length:=hc.length;obtain⟨μ',a1,a2,a3,a4⟩:=I7 hH hb h0 hμ0 ⟨g,0,cap*e⟩ ⟨cells,Δ,Δ⟩ rfl (.inl hg) (by show cells.length<=cap*e;rw[hlen];exact Aww _ hn)
    (λi x hx=>by
     obtain⟨u,h1,h2⟩:=hc.get hx;refine⟨u,?_,h2⟩;have hi:i<cells.length:=by
      grind
     have hi2:i<cap*e:=by rw[hlen]at hi;exact AwZ hi (Aww _ hn)
     show w'.cell? ⟨g,0+i,Ξ⟩=Θ u
     rw[Nat.zero_add,cellw i hi2,←h1,←htk,List.getElem?_take,Ac (by rw[hlen]at hi;exact hi),Array.getElem?_toList])
    (λi hi=>by
     have hi:i<cap*e:=hi;refine⟨⟨cur[i]'(by omega),?_⟩,?_⟩
     .grind
     .show w'.frozen? ⟨g,0+i,Ξ⟩=false
      simp[World.frozen?,hcur]) hpure
   refine fin μ' ⟨g,0,cap*e⟩ a2 a3 a4 ?_;unfold Rep;exact⟨_,a1,.inr ⟨0,cap,rfl,λ_=>rfl,hn,hm2,by show 0+cap*e<=cap*e;omega⟩⟩
