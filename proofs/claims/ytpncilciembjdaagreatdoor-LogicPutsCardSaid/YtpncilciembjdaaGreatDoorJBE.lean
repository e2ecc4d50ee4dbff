/- A good answer as a contr -/
import Derived.Test.YtpncilciembjdaaGreatDoorJBC
set_option linter.all false
open Array renaming getElem?_eq_getElem->Atf,getElem?_eq_some_iff->AtD,getElem?_toList->AtB
open Bool renaming false->Ξ,true->U,and_eq_true->Atk
open List renaming getElem?_eq_some_iff->Atn,getElem?_map->AtG,getElem?_of_mem->AuJ,mem_of_getElem?->Atx
open Nat renaming zero_add->Ato
open Option renaming none->Θ,some->Δ,map_eq_some_iff->AtZ
namespace Go.Proofs.YtpncilciembjdaaGreatDoor
open Go.RowKit
section
variable [S:Side]
structure Kq (own:Ae) (g:Nat) (w w':World):Prop where
 os:w'.os=w.os
 tape:w'.tape=w.tape
 output:w'.output=w.output
 size:w.heap.size<=w'.heap.size
 obj:Stp own w w'
 mine:∀ k∈own,k≠g->∀ T cs,Blk w k T cs->∃ cs',Blk w' k T cs'/\cs'.size=cs.size/\∀(i:Nat) (c:Value),cs[i]? = Δ c->B4 c=U->cs'[i]? = Δ c
 side:Sd own w->Sd own w'
theorem Kq.xt{own:Ae}{g:Nat}{w w':World}(h:Kq own g w w'):Xt own own w w':=⟨h.os,h.tape,h.output,h.size,h.obj,λ_ h=>.inl h,h.side⟩
theorem Kq.blk{own:Ae}{g:Nat}{w w':World}(h:Kq own g w w'){k:Nat}{T:TypeId}{cs:Array Value}(hk:k∈own)(hne:k≠g)(hb:Blk w k T cs)(hf:cs.toList.all B4=U):Blk w' k T cs:=by
 obtain⟨c',h1,h2,h3⟩:=h.mine k hk hne T cs hb;have:c'=cs:=by
  refine Array.ext h2 λi hi hi'=>?_
  have:=h3 i cs[i] (Atf hi') (List.all_eq_true.1 hf _ (by simp));rw[Atf hi]at this;injection this
 rw[←this];exact h1
omit S in
theorem K8:∀{xs:Aa} {i:Nat} {x:AV},AU xs=U->xs[i]? = Δ x->x.noid=U
 |[],i,x,_,h=>by simp at h
 |y::r,0,x,hn,h=>by
  simp only[AU,Atk]at hn;simp at h;subst h;exact hn.1
 |y::r,i+1,x,hn,h=>by
  simp only[AU,Atk]at hn;exact K8 hn.2 (by simpa using h)
theorem Nt{P:Program}{f:Nat}{d:DF}(hd:A1 (Bi P f) d){args xs ys:Aa}{r:AV}{o:BO}(h:d (.ptr 0 0::args) [⟨xs,U,Ξ⟩]=Δ (r,[o]))(ho:(o=.keep/\ys=xs)\/o=.set ⟨ys,U,Ξ⟩)(hn:r.noid=U)(hny:AU ys=U)(hyx:ys.length=xs.length)
  {own:Ae} {w:World} (hm:Mine own w) {g:Nat} {T:TypeId} {cs:Array Value} (hg:g∈own) (hb:Blk w g T cs) (hx:RoL own w xs cs.toList) {us:AA} (hus:RoL own w args us) :
  Calls P f (.pointer (Δ ⟨g,0,Θ⟩)::us).toArray w λe w'=>∃ u,e=.returned u/\Kq own g w w'/\Ro own w' r u/\∃ cs',Blk w' g T cs'/\cs'.size=cs.size/\RoL own w' ys cs'.toList:=by
 obtain⟨_,t0,ht,gd⟩:=KS hd h;have ht1:1<=t0:=ht;obtain⟨on,hon⟩:∃ on,on=own.erase g:=⟨_,rfl⟩;have hnd:on.Nodup:=hon▸hm.nd.erase g;have hmem:∀ k,k∈on ↔ k≠g/\k∈own:=λk=>by rw[hon,hm.nd.mem_erase_iff]
 have hxl:xs.length=cs.size:=by have:=hx.length;simpa using this.symm
 have hK:∀ b k,(if b<t0 then([⟨xs,U,Ξ⟩]:List ABlk)[b]? else look b (Gv w t0 on))=Δ k->(b=0/\k=⟨xs,U,Ξ⟩)\/∃(i gb:Nat),b=t0+i/\on[i]? = Δ gb/\k=DE w gb:=λb k hb=>by
  by_cases h1:b<t0
  .rw[Ac h1]at hb
   cases b with
   |zero=>simp at hb;exact .inl ⟨rfl,hb.symm⟩
   |succ b=>simp at hb
  .rw[Ad h1,ET,Ac (by omega)]at hb
   obtain⟨gb,h2,h3⟩:=AtZ.1 hb;exact .inr ⟨b-t0,gb,by omega,h2,h3.symm⟩
 obtain⟨μ,hμd⟩:∃ μ:Mu,μ=λb=>if b=0 then Δ ⟨g,0,cs.size⟩ else FP w t0 on b:=⟨_,rfl⟩
 have hμ0:μ 0=Δ ⟨g,0,cs.size⟩:=by rw[hμd];rfl
 have hμi:∀ i gb,on[i]? = Δ gb->μ (t0+i)=Δ ⟨gb,0,(cellsOf w gb).size⟩:=λi gb hi=>by
  rw[hμd]
  show (if t0+i=0 then _ else _)=_
  rw[Ad (by omega)];exact N6 w t0 on i gb hi
 have hcs:∀ gb∈own,∃ T,Blk w gb T (cellsOf w gb):=λgb hg=>by
  obtain⟨T,cs,h1⟩:=hm.all gb hg;have e:cellsOf w gb=cs:=by unfold cellsOf;unfold Blk at h1;rw[h1]
  rw[e];exact⟨T,h1⟩
 have lat:Later (λ_=>Θ) μ (C3 own w) (C3 own w) w w:=⟨λ_ _ hb=>(by cases hb),λ_ _ h=>⟨h,rfl⟩⟩;have hxm:RepList μ (C3 own w) w xs cs.toList:=RepList.later' hx lat;have hH:HRep μ (C3 own w) w (λb=>if b<t0 then([⟨xs,U,Ξ⟩]:List ABlk)[b]? else look b (Gv w t0 on)):=by
  refine⟨λb k hb'=>?_,λb b' k k' p p' hne hb1 hb2 hp hp' i i' _ _ he=>?_,λg o hg=>hg.1⟩
  .rcases hK b k hb' with⟨rfl,rfl⟩|⟨i,gb,rfl,hi,rfl⟩
   .refine⟨_,hμ0,λj x hj=>?_,by show xs.length<=cs.size;omega,λj hj=>⟨⟨cs[j],?_⟩,hb.frozen _⟩,(λh0=>by cases h0),(λj _ hf=>hf.2.1 hg),(λh0=>by cases h0)⟩
    .obtain⟨u,h1,h2⟩:=hxm.get hj
     refine⟨u,?_,h2⟩
     show w.cell? ⟨g,0+j,Θ⟩=Δ u
     rw[Ato,hb.cell,←h1,AtB]
    .show w.cell? ⟨g,0+j,Θ⟩=_
     rw[Ato,hb.cell];exact Atf hj
   .have hmo:=((hmem gb).1 (Atx hi)).2
    obtain⟨T',hblk⟩:=hcs gb hmo;refine⟨_,hμi i gb hi,λj x hj=>?_,by simp[DE],λj hj=>⟨⟨(cellsOf w gb)[j],?_⟩,hblk.frozen _⟩,(λh0=>by cases h0),(λj _ hf=>hf.2.1 hmo),(λh0=>by cases h0)⟩
    .unfold DE at hj
     rw[AtG]at hj;obtain⟨c,hc,rfl⟩:=AtZ.1 hj;refine⟨c,?_,La _ _ _ _⟩
     show w.cell? ⟨gb,0+j,Θ⟩=Δ c
     rw[Ato,hblk.cell,←hc,AtB]
    .show w.cell? ⟨gb,0+j,Θ⟩=_
     rw[Ato,hblk.cell];exact Atf hj
  .rcases hK b k hb1 with⟨rfl,rfl⟩|⟨a,ga,rfl,ha,rfl⟩<;>rcases hK b' k' hb2 with⟨rfl,rfl⟩|⟨a',ga',rfl,ha',rfl⟩
   .exact hne rfl
   .rw[hμ0]at hp
    rw[hμi a' ga' ha']at hp';injection hp with hp
    injection hp' with hp'
    subst hp hp';injection he with he _
    exact((hmem ga').1 (Atx ha')).1 he.symm
   .rw[hμ0]at hp'
    rw[hμi a ga ha]at hp;injection hp with hp
    injection hp' with hp'
    subst hp hp';injection he with he _
    exact((hmem ga).1 (Atx ha)).1 he
   .rw[hμi a ga ha]at hp
    rw[hμi a' ga' ha']at hp';injection hp with hp
    injection hp' with hp'
    subst hp hp';injection he with he _
    apply hne;have he:ga=ga':=he;subst he;have:=(List.getElem?_inj (Atn.1 ha).1 hnd).1 (ha.trans ha'.symm);omega
 have:=gd μ (C3 own w) w (Gv w t0 on) (.pointer (Δ ⟨g,0,Θ⟩)::us) (t0+on.length) (by omega) (λp hp=>⟨MF w on t0 p hp,MG w on t0 p hp⟩) (by
  simp only[RepList];refine⟨_,us,rfl,?_,RepList.later' hus lat⟩;simp only[Rep];exact⟨_,hμ0,rfl⟩) hH (λb hb1 hb2=>by
   have hb1:1<=b:=hb1;rw[hμd]
   show (if b=0 then _ else FP w t0 on b)=Θ
   rw[Ad (by omega)];unfold FP;rw[Ad (by omega)]) (λb p hb9=>by
   rw[hμd]at hb9
   by_cases h9:b=0
   .omega
   .have hb9:(if b=0 then _ else FP w t0 on b)=Δ p:=hb9
    rw[Ad h9]at hb9;exact N7 hb9) hm.sd.rep (λb k p b' k' p' hb9 hp hb' hp' h0 he=>by
   have h1:=Side.low b' k' p' hb' hp' h0;have key:∀ gb∈own,p.g=gb->False:=λgb hgb e=>by
    have h2:=hm.sd.hi gb hgb;omega
   rcases hK b k hb9 with⟨rfl,rfl⟩|⟨i,gb,rfl,hi,rfl⟩
   .rw[hμ0]at hp
    injection hp with hp
    subst hp;exact key g hg rfl
   .rw[hμi i gb hi]at hp
    injection hp with hp
    subst hp;exact key gb ((hmem gb).1 (Atx hi)).2 rfl)
 refine Calls.mono this ?_;rintro e w' ⟨u,rfl,μ',F',h1,h2,h3,h4,h5,h6⟩;have hμ':∀ b,b<1\/(1<=b/\b<t0+on.length)->μ' b=μ b:=λb hb=>h5 b hb
 have hy:C8 [⟨xs,U,Ξ⟩] [o] 0=Δ ⟨ys,U,Ξ⟩:=by
  rcases ho with⟨rfl,rfl⟩|rfl<;>rfl
 obtain⟨p0,hp0,B0⟩:=h2.blk 0 ⟨ys,U,Ξ⟩ (by
  show (if 0<t0 then C8 [⟨xs,U,Ξ⟩] [o] 0 else _)=_
  rw[Ac (by omega)];exact hy)
 rw[hμ' 0 (.inl (by omega)),hμ0]at hp0;injection hp0 with hp0
 subst hp0;obtain⟨o0,ho0,c0,rfl,hc0,_⟩:=h4.obj g _ hb;have hb0:Blk w' g T c0:=ho0;have hyl:ys.length<=cs.size:=B0.room;have hblk:∀(i gb:Nat),on[i]? = Δ gb->∀ T,Blk w gb T (cellsOf w gb)->∃ c',Blk w' gb T c'/\c'.size=(cellsOf w gb).size/\(∀(j:Nat) (c:Value),(cellsOf w gb)[j]? = Δ c->B4 c=U->c'[j]? = Δ c)/\∀ j,j<(cellsOf w gb).size->¬ F' gb j:=λi gb hi T hb=>by
  obtain⟨p,hp,B⟩:=h2.blk (t0+i) (DE w gb) (by
   rw[Ad (by omega),ET,Ac (by omega),show t0+i-t0=i by omega,hi];rfl)
  rw[hμ' (t0+i) (.inr ⟨by omega,by have:=(Atn.1 hi).1;omega⟩),hμi i gb hi]at hp;injection hp with hp
  subst hp;obtain⟨o',ho1,c',rfl,hc,_⟩:=h4.obj gb _ hb;have hb':Blk w' gb T c':=ho1;refine⟨c',hb',hc,λj c hj hf=>?_,λj hj=>?_⟩
  .have hj':j<(cellsOf w gb).size:=(AtD.1 hj).1
   obtain⟨u',hu1,hu2⟩:=B.cell j (.v c) (by
    unfold DE;rw[AtG,AtB,hj]
    show Δ (Ju c)=_
    unfold Ju;rw[Ac hf])
   simp only[Rep]at hu2;have hu1:w'.cell? ⟨gb,0+j,Θ⟩=Δ u':=hu1;rw[Ato,hb'.cell]at hu1;rw[hu1,hu2.1]
  .have:=B.free j (.inl ⟨by unfold DE;simpa using hj,rfl⟩)
   rwa [show (⟨gb,0,(cellsOf w gb).size⟩:Pl).o+j=j from Ato j]at this
 have havoid:∀ k∈own,∀ o,(∃ uc,w'.cell? ⟨k,o,Θ⟩=Δ uc)->¬ F' k o:=λk hk o ⟨uc,hc⟩=>by
  by_cases e:k=g
  .subst e
   rw[hb0.cell]at hc;have:=B0.free o (.inl ⟨by show o<ys.length;rw[hyx,hxl,←hc0];exact(AtD.1 hc).1,rfl⟩)
   rwa [show (⟨k,0,cs.size⟩:Pl).o+o=o from Ato o]at this
  .obtain⟨i,hi⟩:=AuJ ((hmem k).2 ⟨e,hk⟩)
   obtain⟨T',hb'⟩:=hcs k hk;obtain⟨c',k1,k2,_,k4⟩:=hblk i k hi T' hb';rw[k1.cell]at hc;exact k4 o (by rw[←k2];exact(AtD.1 hc).1)
 have hav:∀ k o,F' k o->(∃ uc,w'.cell? ⟨k,o,Θ⟩=Δ uc)->C3 own w' k o:=λk o hf hc=>⟨h2.prot k o hf,λhm'=>havoid k hm' o hc hf,Ia h6 hf⟩
 have conv:∀(x:AV) (u:Value),x.noid=U->Rep μ' F' w' x u->Ro own w' x u:=λx u hnx hr=>
  Rep.later ⟨λ_ _ h=>h,λk o hk=>⟨hav k o hk.1 hk.2,rfl⟩⟩ _ _ (Rep.there x u (Dw μ' (λ_=>Θ) x u hnx hr))
 refine⟨u,rfl,⟨h4.os,h4.tape,h4.output,h4.size,λk _ o ho=>h4.obj k o ho,λk hk hne T' cs' hb'=>?_,λhs=>⟨Nat.le_trans hs.base h4.size,hs.hi,He h6 hav⟩⟩,conv r u hn h1,c0,hb0,hc0,?_⟩
 .obtain⟨i,hi⟩:=AuJ ((hmem k).2 ⟨hne,hk⟩)
  have e:cellsOf w k=cs':=by unfold cellsOf;unfold Blk at hb';rw[hb']
  obtain⟨c',k1,k2,k3,_⟩:=hblk i k hi T' (by rw[e];exact hb');rw[e]at k2 k3;exact⟨c',k1,k2,k3⟩
 .refine RepList.mk (by rw[Array.length_toList,hc0,hyx,hxl]) λi x hi=>?_
  obtain⟨v,hv1,hv2⟩:=B0.cell i x hi;have hv1:w'.cell? ⟨g,0+i,Θ⟩=Δ v:=hv1;rw[Ato,hb0.cell]at hv1;exact⟨v,by rw[AtB];exact hv1,conv x v (K8 hny hi) hv2⟩
