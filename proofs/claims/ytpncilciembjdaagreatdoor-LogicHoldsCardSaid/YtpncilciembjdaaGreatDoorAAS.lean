/-
  A good answer as a contract for a walk by hand: one of one's own blocks is handed over by its pointer. No program in sight.
-/
import Derived.Test.YtpncilciembjdaaGreatDoorAAP
set_option linter.unusedSectionVars false
set_option linter.unusedSimpArgs false
set_option linter.unusedVariables false
namespace Go.Proofs.YtpncilciembjdaaGreatDoor
open Go.RowKit

section
variable [S:Side]
structure Kq (own:List Nat) (g:Nat) (w w':World):Prop where
 os:w'.os=w.os
 tape:w'.tape=w.tape
 output:w'.output=w.output
 size:w.heap.size<=w'.heap.size
 obj:Stp own w w'
 mine:∀ k∈own,k≠g->∀ T cs,Blk w k T cs->∃ cs',Blk w' k T cs'/\cs'.size=cs.size/\∀(i:Nat) (c:Value),cs[i]? = some c->flatV c=true->cs'[i]? = some c
 side:Sd own w->Sd own w'
theorem Kq.xt{own:List Nat}{g:Nat}{w w':World}(h:Kq own g w w'):Xt own own w w':=⟨h.os,h.tape,h.output,h.size,h.obj,fun _ h=>.inl h,h.side⟩
theorem Kq.blk{own:List Nat}{g:Nat}{w w':World}(h:Kq own g w w'){k:Nat}{T:TypeId}{cs:Array Value}(hk:k∈own)(hne:k≠g)(hb:Blk w k T cs)(hf:cs.toList.all flatV=true):Blk w' k T cs:=by
 obtain⟨c',h1,h2,h3⟩:=h.mine k hk hne T cs hb
 have:c'=cs:=by
  refine Array.ext h2 fun i hi hi'=>?_
  have:=h3 i cs[i] (Array.getElem?_eq_getElem hi') (List.all_eq_true.1 hf _ (by simp))
  rw[Array.getElem?_eq_getElem hi]at this
  injection this
 rw[←this]
 exact h1
omit S in
theorem noidL_get:∀{xs:List AV} {i:Nat} {x:AV},noidL xs=true->xs[i]? = some x->x.noid=true
 |[],i,x,_,h=>by simp at h
 |y::r,0,x,hn,h=>by
  simp only[noidL,Bool.and_eq_true]at hn
  simp at h
  subst h
  exact hn.1
 |y::r,i+1,x,hn,h=>by
  simp only[noidL,Bool.and_eq_true]at hn
  exact noidL_get hn.2 (by simpa using h)
theorem good_calls_ptr{P:Program}{f:Nat}{d:DF}(hd:GoodD (SemFn P f) d){args xs ys:List AV}{r:AV}{o:BO}(h:d (.ptr 0 0::args) [⟨xs,true,false⟩]=some (r,[o]))(ho:(o=.keep/\ys=xs)\/o=.set ⟨ys,true,false⟩)(hn:r.noid=true)(hny:noidL ys=true)(hyx:ys.length=xs.length)
  {own:List Nat} {w:World} (hm:Mine own w) {g:Nat} {T:TypeId} {cs:Array Value} (hg:g∈own) (hb:Blk w g T cs) (hx:RoL own w xs cs.toList) {us:List Value} (hus:RoL own w args us) :
  Calls P f (.pointer (some ⟨g,0,none⟩)::us).toArray w fun e w'=>∃ u,e=.returned u/\Kq own g w w'/\Ro own w' r u/\∃ cs',Blk w' g T cs'/\cs'.size=cs.size/\RoL own w' ys cs'.toList:=by
 obtain⟨_,t0,ht,gd⟩:=good_side hd h
 have ht1:1<=t0:=ht
 obtain⟨on,hon⟩:∃ on,on=own.erase g:=⟨_,rfl⟩
 have hnd:on.Nodup:=hon▸hm.nd.erase g
 have hmem:∀ k,k∈on ↔ k≠g/\k∈own:=fun k=>by rw[hon,hm.nd.mem_erase_iff]
 have hxl:xs.length=cs.size:=by have:=hx.length;simpa using this.symm
 have hK:∀ b k,(if b<t0 then([⟨xs,true,false⟩]:List ABlk)[b]? else look b (ownL w t0 on))=some k->(b=0/\k=⟨xs,true,false⟩)\/∃(i gb:Nat),b=t0+i/\on[i]? = some gb/\k=blkOf w gb:=fun b k hb=>by
  by_cases h1:b<t0
  .rw[if_pos h1]at hb
   cases b with
   |zero=>simp at hb;exact .inl ⟨rfl,hb.symm⟩
   |succ b=>simp at hb
  .rw[if_neg h1,look_own,if_pos (by omega)]at hb
   obtain⟨gb,h2,h3⟩:=Option.map_eq_some_iff.1 hb
   exact .inr ⟨b-t0,gb,by omega,h2,h3.symm⟩
 obtain⟨μ,hμd⟩:∃ μ:Mu,μ=fun b=>if b=0 then some ⟨g,0,cs.size⟩ else ownMu w t0 on b:=⟨_,rfl⟩
 have hμ0:μ 0=some ⟨g,0,cs.size⟩:=by rw[hμd];rfl
 have hμi:∀ i gb,on[i]? = some gb->μ (t0+i)=some ⟨gb,0,(cellsOf w gb).size⟩:=fun i gb hi=>by
  rw[hμd]
  show (if t0+i=0 then _ else _)=_
  rw[if_neg (by omega)]
  exact ownMu_at w t0 on i gb hi
 have hcs:∀ gb∈own,∃ T,Blk w gb T (cellsOf w gb):=fun gb hg=>by
  obtain⟨T,cs,h1⟩:=hm.all gb hg
  have e:cellsOf w gb=cs:=by unfold cellsOf;unfold Blk at h1;rw[h1]
  rw[e]
  exact⟨T,h1⟩
 have lat:Later (fun _=>none) μ (offF own w) (offF own w) w w:=⟨fun _ _ hb=>(by cases hb),fun _ _ h=>⟨h,rfl⟩⟩
 have hxm:RepList μ (offF own w) w xs cs.toList:=RepList.later' hx lat
 have hH:HRep μ (offF own w) w (fun b=>if b<t0 then([⟨xs,true,false⟩]:List ABlk)[b]? else look b (ownL w t0 on)):=by
  refine⟨fun b k hb'=>?_,fun b b' k k' p p' hne hb1 hb2 hp hp' i i' _ _ he=>?_,fun g o hg=>hg.1⟩
  .rcases hK b k hb' with⟨rfl,rfl⟩|⟨i,gb,rfl,hi,rfl⟩
   .refine⟨_,hμ0,fun j x hj=>?_,by show xs.length<=cs.size;omega,fun j hj=>⟨⟨cs[j],?_⟩,hb.frozen _⟩,(fun h0=>by cases h0),(fun j _ hf=>hf.2.1 hg),(fun h0=>by cases h0)⟩
    .obtain⟨u,h1,h2⟩:=hxm.get hj
     refine⟨u,?_,h2⟩
     show w.cell? ⟨g,0+j,none⟩=some u
     rw[Nat.zero_add,hb.cell,←h1,Array.getElem?_toList]
    .show w.cell? ⟨g,0+j,none⟩=_
     rw[Nat.zero_add,hb.cell]
     exact Array.getElem?_eq_getElem hj
   .have hmo:=((hmem gb).1 (List.mem_of_getElem? hi)).2
    obtain⟨T',hblk⟩:=hcs gb hmo
    refine⟨_,hμi i gb hi,fun j x hj=>?_,by simp[blkOf],fun j hj=>⟨⟨(cellsOf w gb)[j],?_⟩,hblk.frozen _⟩,(fun h0=>by cases h0),(fun j _ hf=>hf.2.1 hmo),(fun h0=>by cases h0)⟩
    .unfold blkOf at hj
     rw[List.getElem?_map]at hj
     obtain⟨c,hc,rfl⟩:=Option.map_eq_some_iff.1 hj
     refine⟨c,?_,rep_cellA _ _ _ _⟩
     show w.cell? ⟨gb,0+j,none⟩=some c
     rw[Nat.zero_add,hblk.cell,←hc,Array.getElem?_toList]
    .show w.cell? ⟨gb,0+j,none⟩=_
     rw[Nat.zero_add,hblk.cell]
     exact Array.getElem?_eq_getElem hj
  .rcases hK b k hb1 with⟨rfl,rfl⟩|⟨a,ga,rfl,ha,rfl⟩<;>rcases hK b' k' hb2 with⟨rfl,rfl⟩|⟨a',ga',rfl,ha',rfl⟩
   .exact hne rfl
   .rw[hμ0]at hp
    rw[hμi a' ga' ha']at hp'
    injection hp with hp
    injection hp' with hp'
    subst hp hp'
    injection he with he _
    exact((hmem ga').1 (List.mem_of_getElem? ha')).1 he.symm
   .rw[hμ0]at hp'
    rw[hμi a ga ha]at hp
    injection hp with hp
    injection hp' with hp'
    subst hp hp'
    injection he with he _
    exact((hmem ga).1 (List.mem_of_getElem? ha)).1 he
   .rw[hμi a ga ha]at hp
    rw[hμi a' ga' ha']at hp'
    injection hp with hp
    injection hp' with hp'
    subst hp hp'
    injection he with he _
    apply hne
    have he:ga=ga':=he
    subst he
    have:=(List.getElem?_inj (List.getElem?_eq_some_iff.1 ha).1 hnd).1 (ha.trans ha'.symm)
    omega
 have:=gd μ (offF own w) w (ownL w t0 on) (.pointer (some ⟨g,0,none⟩)::us) (t0+on.length) (by omega) (fun p hp=>⟨ownL_ge w on t0 p hp,ownL_lt w on t0 p hp⟩) (by
  simp only[RepList]
  refine⟨_,us,rfl,?_,RepList.later' hus lat⟩
  simp only[Rep]
  exact⟨_,hμ0,rfl⟩) hH (fun b hb1 hb2=>by
   have hb1:1<=b:=hb1
   rw[hμd]
   show (if b=0 then _ else ownMu w t0 on b)=none
   rw[if_neg (by omega)]
   unfold ownMu
   rw[if_neg (by omega)]) (fun b p hb9=>by
   rw[hμd]at hb9
   by_cases h9:b=0
   .omega
   .have hb9:(if b=0 then _ else ownMu w t0 on b)=some p:=hb9
    rw[if_neg h9]at hb9
    exact ownMu_lt hb9) hm.sd.rep (fun b k p b' k' p' hb9 hp hb' hp' h0 he=>by
   have h1:=Side.low b' k' p' hb' hp' h0
   have key:∀ gb∈own,p.g=gb->False:=fun gb hgb e=>by
    have h2:=hm.sd.hi gb hgb
    omega
   rcases hK b k hb9 with⟨rfl,rfl⟩|⟨i,gb,rfl,hi,rfl⟩
   .rw[hμ0]at hp
    injection hp with hp
    subst hp
    exact key g hg rfl
   .rw[hμi i gb hi]at hp
    injection hp with hp
    subst hp
    exact key gb ((hmem gb).1 (List.mem_of_getElem? hi)).2 rfl)
 refine Calls.mono this ?_
 rintro e w' ⟨u,rfl,μ',F',h1,h2,h3,h4,h5,h6⟩
 have hμ':∀ b,b<1\/(1<=b/\b<t0+on.length)->μ' b=μ b:=fun b hb=>h5 b hb
 -- the block that was handed over
 have hy:outAt [⟨xs,true,false⟩] [o] 0=some ⟨ys,true,false⟩:=by
  rcases ho with⟨rfl,rfl⟩|rfl<;>rfl
 obtain⟨p0,hp0,B0⟩:=h2.blk 0 ⟨ys,true,false⟩ (by
  show (if 0<t0 then outAt [⟨xs,true,false⟩] [o] 0 else _)=_
  rw[if_pos (by omega)]
  exact hy)
 rw[hμ' 0 (.inl (by omega)),hμ0]at hp0
 injection hp0 with hp0
 subst hp0
 obtain⟨o0,ho0,c0,rfl,hc0,_⟩:=h4.obj g _ hb
 have hb0:Blk w' g T c0:=ho0
 have hyl:ys.length<=cs.size:=B0.room
 have hblk:∀(i gb:Nat),on[i]? = some gb->∀ T,Blk w gb T (cellsOf w gb)->∃ c',Blk w' gb T c'/\c'.size=(cellsOf w gb).size/\(∀(j:Nat) (c:Value),(cellsOf w gb)[j]? = some c->flatV c=true->c'[j]? = some c)/\∀ j,j<(cellsOf w gb).size->¬ F' gb j:=fun i gb hi T hb=>by
  obtain⟨p,hp,B⟩:=h2.blk (t0+i) (blkOf w gb) (by
   rw[if_neg (by omega),look_own,if_pos (by omega),show t0+i-t0=i by omega,hi]
   rfl)
  rw[hμ' (t0+i) (.inr ⟨by omega,by have:=(List.getElem?_eq_some_iff.1 hi).1;omega⟩),hμi i gb hi]at hp
  injection hp with hp
  subst hp
  obtain⟨o',ho1,c',rfl,hc,_⟩:=h4.obj gb _ hb
  have hb':Blk w' gb T c':=ho1
  refine⟨c',hb',hc,fun j c hj hf=>?_,fun j hj=>?_⟩
  .have hj':j<(cellsOf w gb).size:=(Array.getElem?_eq_some_iff.1 hj).1
   obtain⟨u',hu1,hu2⟩:=B.cell j (.v c) (by
    unfold blkOf
    rw[List.getElem?_map,Array.getElem?_toList,hj]
    show some (cellA c)=_
    unfold cellA
    rw[if_pos hf])
   simp only[Rep]at hu2
   have hu1:w'.cell? ⟨gb,0+j,none⟩=some u':=hu1
   rw[Nat.zero_add,hb'.cell]at hu1
   rw[hu1,hu2.1]
  .have:=B.free j (.inl ⟨by unfold blkOf;simpa using hj,rfl⟩)
   rwa [show (⟨gb,0,(cellsOf w gb).size⟩:Pl).o+j=j from Nat.zero_add j]at this
 have havoid:∀ k∈own,∀ o,(∃ uc,w'.cell? ⟨k,o,none⟩=some uc)->¬ F' k o:=fun k hk o ⟨uc,hc⟩=>by
  by_cases e:k=g
  .subst e
   rw[hb0.cell]at hc
   have:=B0.free o (.inl ⟨by show o<ys.length;rw[hyx,hxl,←hc0];exact(Array.getElem?_eq_some_iff.1 hc).1,rfl⟩)
   rwa [show (⟨k,0,cs.size⟩:Pl).o+o=o from Nat.zero_add o]at this
  .obtain⟨i,hi⟩:=List.getElem?_of_mem ((hmem k).2 ⟨e,hk⟩)
   obtain⟨T',hb'⟩:=hcs k hk
   obtain⟨c',k1,k2,_,k4⟩:=hblk i k hi T' hb'
   rw[k1.cell]at hc
   exact k4 o (by rw[←k2];exact(Array.getElem?_eq_some_iff.1 hc).1)
 have hav:∀ k o,F' k o->(∃ uc,w'.cell? ⟨k,o,none⟩=some uc)->offF own w' k o:=fun k o hf hc=>⟨h2.prot k o hf,fun hm'=>havoid k hm' o hc hf,hrep_notZ h6 hf⟩
 have conv:∀(x:AV) (u:Value),x.noid=true->Rep μ' F' w' x u->Ro own w' x u:=fun x u hnx hr=>
  Rep.later ⟨fun _ _ h=>h,fun k o hk=>⟨hav k o hk.1 hk.2,rfl⟩⟩ _ _ (Rep.there x u (rep_noid μ' (fun _=>none) x u hnx hr))
 refine⟨u,rfl,⟨h4.os,h4.tape,h4.output,h4.size,fun k _ o ho=>h4.obj k o ho,fun k hk hne T' cs' hb'=>?_,fun hs=>⟨Nat.le_trans hs.base h4.size,hs.hi,hrep_off h6 hav⟩⟩,conv r u hn h1,c0,hb0,hc0,?_⟩
 .obtain⟨i,hi⟩:=List.getElem?_of_mem ((hmem k).2 ⟨hne,hk⟩)
  have e:cellsOf w k=cs':=by unfold cellsOf;unfold Blk at hb';rw[hb']
  obtain⟨c',k1,k2,k3,_⟩:=hblk i k hi T' (by rw[e];exact hb')
  rw[e]at k2 k3
  exact⟨c',k1,k2,k3⟩
 .refine RepList.mk (by rw[Array.length_toList,hc0,hyx,hxl]) fun i x hi=>?_
  obtain⟨v,hv1,hv2⟩:=B0.cell i x hi
  have hv1:w'.cell? ⟨g,0+i,none⟩=some v:=hv1
  rw[Nat.zero_add,hb0.cell]at hv1
  exact⟨v,by rw[Array.getElem?_toList];exact hv1,conv x v (noidL_get hny hi) hv2⟩
end
end Go.Proofs.YtpncilciembjdaaGreatDoor
