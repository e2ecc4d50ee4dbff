/- A good answer, as a cont -/
import Derived.Test.YtpncilciembjdaaGreatDoorJAM
set_option linter.all false
open Array renaming getElem?_eq_getElem->Atf,getElem?_eq_none->Aut,getElem?_eq_some_iff->AtD,getElem?_toList->AtB
open Bool renaming false->Ξ,true->U
open List renaming getElem?_eq_some_iff->Atn,getElem?_map->AtG,getElem?_of_mem->AuJ,mem_cons->Atd,mem_of_getElem?->Atx,replicate->Auu
open Nat renaming add_sub_cancel->Au0,le_refl->η,le_trans->AtA,lt_irrefl->AuE,lt_of_lt_of_le->At4,zero_add->Ato
open Option renaming none->Θ,some->Δ,map_eq_some_iff->AtZ
namespace Go.Proofs.YtpncilciembjdaaGreatDoor
open Go.RowKit
def Rp(w:World)(x:AV)(u:Value):Prop:=Rep (λ_=>Θ) (λg _=>g<w.heap.size) w x u
def RpL(w:World)(xs:Aa)(us:AA):Prop:=RepList (λ_=>Θ) (λg _=>g<w.heap.size) w xs us
theorem Rp.below{w w':World}{x:AV}{u:Value}(h:Rp w x u)(hb:Below w.heap.size w w'):Rp w' x u:=Yd h hb
theorem RpL.nil(w:World):RpL w [] []:=by unfold RpL;simp only[RepList]
theorem RpL.cons{w:World}{x:AV}{u:Value}{xs:Aa}{us:AA}(h:Rp w x u)(hs:RpL w xs us):RpL w (x::xs) (u::us):=by
 unfold RpL at hs ⊢;simp only[RepList];exact⟨u,us,rfl,h,hs⟩
theorem Rp.int(w:World)(n:Int):Rp w (iv n) (.int .i64 n):=by unfold Rp iv;simp only[Rep];exact⟨trivial,rfl⟩
theorem Rp.int_inv{w:World}{n:Int}{u:Value}(h:Rp w (iv n) u):u=.int .i64 n:=by unfold Rp iv at h;simp only[Rep]at h;exact h.1
theorem Rp.bool_inv{w:World}{n:Bool}{u:Value}(h:Rp w (bv n) u):u=.bool n:=by unfold Rp bv at h;simp only[Rep]at h;exact h.1
theorem Rp.str_inv{w:World}{n:ByteArray}{u:Value}(h:Rp w (sv n) u):u=.string n:=by unfold Rp sv at h;simp only[Rep]at h;exact h.1
theorem Rp.bool(w:World)(n:Bool):Rp w (bv n) (.bool n):=by unfold Rp bv;simp only[Rep];exact⟨trivial,rfl⟩
theorem Rp.agg{w:World}{xs:Aa}{us:AA}(h:RpL w xs us):Rp w (.agg xs) (.agg us.toArray):=by
 unfold Rp;simp only[Rep];exact⟨us.toArray,rfl,h⟩
theorem Rp.agg_inv{w:World}{xs:Aa}{u:Value}(h:Rp w (.agg xs) u):∃ us,u=.agg us.toArray/\RpL w xs us:=by
 unfold Rp at h;simp only[Rep]at h;obtain⟨us,h1,h2⟩:=h;exact⟨us.toList,by rw[h1],h2⟩
theorem Rp.ls_inv{w:World}{xs:Rw}{u:Value}(h:Rp w (.ls xs) u):∃ A c,u=.slice A xs.length c:=by
 grind [Rep,Rp]
theorem RpL.cons_inv{w:World}{x:AV}{xs:Aa}{us:AA}(h:RpL w (x::xs) us):∃ u t,us=u::t/\Rp w x u/\RpL w xs t:=by
 unfold RpL at h;simp only[RepList]at h;exact h
theorem RpL.nil_inv{w:World}{us:AA}(h:RpL w [] us):us=[]:=by
 grind [RepList,RpL]
theorem BL{P:Program}{f:Nat}{d:DF}(hd:A1 (Bi P f) d){args:Aa}{r:AV}(h:d args []=Δ (r,[]))(hn:r.noid=U)(w:World)(us:AA)(hus:RpL w args us) :
  Calls P f us.toArray w λe w'=>∃ u,e=.returned u/\Below w.heap.size w w'/\Rp w' r u:=by
 obtain⟨_,t0,ht,g⟩:=hd args [] r [] h;have hH:HRep (λ_=>Θ) (λg _=>g<w.heap.size) w (λb=>if b<t0 then([]:List ABlk)[b]? else look b []):=by
  have e:∀ b,(if b<t0 then([]:List ABlk)[b]? else look b [])=Θ:=λb=>by split<;>rfl
  refine⟨λb k hb=>?_,λb b' k k' p p' _ hb=>?_,λg o hg=>hg⟩
  .rw[e]at hb;cases hb
  .rw[e]at hb;cases hb
 have:=g t0 (η _) (λ_=>Θ) (λg _=>g<w.heap.size) w [] us (by simp) hus hH (λ_ _ _=>rfl);refine Calls.mono this ?_;rintro e w' ⟨u,rfl,μ',F',h1,_,_,h4,_⟩;exact⟨u,rfl,h4.below (η _) (λg o hg=>hg),Rep.plain r u hn h1⟩
theorem Ns{P:Program}{f:Nat}{d:DF}(hd:A1 (Bi P f) d){args:Aa}{r:AV}(h:d args []=Δ (r,[]))(w0:World)(T:TypeId)(cs:Array Value)(us:AA)(hus:RpL w0 args us) :
  Calls P f us.toArray (w0.alloc (.cells cs T)) λe w'=>∃ u μ' F' c',e=.returned u/\Below w0.heap.size w0 w'/\w'.heap[w0.heap.size]? = Δ (.cells c' T (0,0))/\c'.size=cs.size/\Rep μ' F' w' r u/\(∀ g o,F' g o->g<w'.heap.size)/\∀ o,o<cs.size->¬ F' w0.heap.size o:=by
 obtain⟨_,t0,ht,g⟩:=hd args [] r [] h;have hnew:=Blk.new w0 T cs;have hl:(w0.alloc (.cells cs T)).heap.size=w0.heap.size+1:=World.size_alloc _ _;have hlook:look t0 [(t0,(⟨Auu cs.size .any,U,Ξ⟩:ABlk))]=Δ ⟨Auu cs.size .any,U,Ξ⟩:=by simp[look]
 have hlater:Later (λ_=>Θ) (λb=>if b=t0 then Δ (⟨w0.heap.size,0,cs.size⟩:Pl) else Θ) (λg _=>g<w0.heap.size) (λg _=>g<w0.heap.size) w0 (w0.alloc (.cells cs T)):=
  ⟨(λb p hb=>by cases hb),(λg o hg=>⟨hg,(Be w0 _).cell (p:=⟨g,o,Θ⟩) hg⟩)⟩
 have hsome:∀ b k,(if b<t0 then([]:List ABlk)[b]? else look b [(t0,(⟨Auu cs.size .any,U,Ξ⟩:ABlk))])=Δ k->b=t0/\k=⟨Auu cs.size .any,U,Ξ⟩:=λb k hb=>by
  by_cases h1:b<t0
  .grind
  .rw[Ad h1]at hb
   by_cases h2:b=t0
   .grind
   .grind [look]
 have hH:HRep (λb=>if b=t0 then Δ (⟨w0.heap.size,0,cs.size⟩:Pl) else Θ) (λg _=>g<w0.heap.size) (w0.alloc (.cells cs T)) (λb=>if b<t0 then([]:List ABlk)[b]? else look b [(t0,⟨Auu cs.size .any,U,Ξ⟩)]):=by
  refine⟨λb k hb=>?_,λb b' k k' p p' hne hb hb'=>?_,λg o hg=>by rw[hl];exact Nat.lt_succ_of_lt hg⟩
  .obtain⟨rfl,rfl⟩:=hsome b k hb
   refine⟨_,Ac rfl,λi x hx=>?_,by simp,λi hi=>⟨⟨cs[i],?_⟩,hnew.frozen _⟩,(λh0=>by cases h0),(λi _ hf=>AuE _ hf),(λh0=>by cases h0)⟩
   .have hi:i<cs.size:=by
     grind
    have hx2:x=.any:=by
     grind
    subst hx2;refine⟨cs[i],?_,by simp only[Rep]⟩
    show (w0.alloc (.cells cs T)).cell? ⟨w0.heap.size,0+i,Θ⟩=_
    rw[Ato,hnew.cell,Atf hi]
   .show (w0.alloc (.cells cs T)).cell? ⟨w0.heap.size,0+i,Θ⟩=_
    rw[Ato,hnew.cell,Atf hi]
  .grind
 have:=g t0 (η _) _ (λg _=>g<w0.heap.size) (w0.alloc (.cells cs T)) [(t0,⟨Auu cs.size .any,U,Ξ⟩)] us (by simp) (RepList.later' hus hlater) hH (λb _ hb=>Ad (by omega));refine Calls.mono this ?_;rintro e w' ⟨u,rfl,μ',F',h1,h2,h3,h4,h5⟩;have hμ:μ' t0=Δ ⟨w0.heap.size,0,cs.size⟩:=(h5 t0 (.inr ht)).trans (Ac rfl);obtain⟨p,hp,B⟩:=h2.blk t0 _ ((Ad (AuE t0)).trans hlook);rw[hμ]at hp;injection hp with hp
 subst hp;obtain⟨o',ho1,c',rfl,hc,_⟩:=h4.obj w0.heap.size _ hnew;refine⟨u,μ',F',c',rfl,(Be w0 _).trans (h4.below (B:=w0.heap.size) (by rw[hl];omega) (λg o hg=>hg)),ho1,hc,h1,h2.prot,λo ho=>?_⟩;have:=B.free o (by simp[ABlk.owns];exact ho)
 rwa [Ato]at this
theorem AbW{μ:Mu}{F:AP}{w:World}{x:AV}{u:Value}{g:Nat}{T:TypeId}{d0 d1 d2:Value}(h:Rep μ F w x u)(hb:Blk w g T #[d0,d1,d2])(hF:∀ g o,F g o->g<w.heap.size)(hn:∀ o,o<3->¬ F g o)(a b c:Value)(o:Obj) :
  Rep μ F ((((w.setCell ⟨g,0,Θ⟩ a).setCell ⟨g,1,Θ⟩ b).setCell ⟨g,2,Θ⟩ c).alloc o) x u:=by
 refine Rep.later ⟨λ_ _ h=>h,λg' o' hf=>⟨hf,?_⟩⟩ _ _ h
 by_cases hg:g'=g
 .subst hg
  have h3:3<=o':=by
   grind
  have hb2:=((((hb.set_ 0 a).set_ 1 b).set_ 2 c).alloc o).cell o';rw[hb2,hb.cell o'];rw[Aut (by simpa using h3),Aut (by simpa using h3)]
 .have e1:=Below.heap_setCell w ⟨g,0,Θ⟩ a g' hg
  have e2:=Below.heap_setCell (w.setCell ⟨g,0,Θ⟩ a) ⟨g,1,Θ⟩ b g' hg;have e3:=Below.heap_setCell ((w.setCell ⟨g,0,Θ⟩ a).setCell ⟨g,1,Θ⟩ b) ⟨g,2,Θ⟩ c g' hg;have hl:g'<(((w.setCell ⟨g,0,Θ⟩ a).setCell ⟨g,1,Θ⟩ b).setCell ⟨g,2,Θ⟩ c).heap.size:=by
   grind
  have e4:=Below.heap_alloc _ o g' hl;exact World.cell?_of_block (a:=⟨g',o',Θ⟩) (e4.trans (e3.trans (e2.trans e1)))
theorem AbV{μ:Mu}{F:AP}{w:World}{x0 x1 x2:AV}{u0 u1 u2:Value}(h:Rep μ F w (.agg [x0,x1,x2]) (.agg #[u0,u1,u2])):Rep μ F w x0 u0/\Rep μ F w x1 u1/\Rep μ F w x2 u2:=by
 simp only[Rep,RepList]at h;obtain⟨us,hus,a0,t0,he0,r0,a1,t1,he1,r1,a2,t2,he2,r2,he3⟩:=h;subst he3 he2 he1;injection hus with hus
 have h2:=congrArg Array.toList hus;rw[he0]at h2;simp only[List.cons.injEq,and_true]at h2;obtain⟨rfl,rfl,rfl⟩:=h2;exact⟨r0,r1,r2⟩
section
open Go.RowKit
def Rs(w:World)(F:AP):AP:=λg o=>F g o/\∃ u,w.cell? ⟨g,o,Θ⟩=Δ u
section
variable {μ:Mu} {F:AP} {w:World}
mutual
theorem Rep.there:∀(x:AV) (u:Value),Rep μ F w x u->Rep μ (Rs w F) w x u
 |.v x,u,hx=>by simpa only[Rep]using hx
 |.ptr b o,u,hx=>by simpa only[Rep]using hx
 |.sl b o n e,u,hx=>by simpa only[Rep]using hx
 |.ls xs,u,hx=>by
  simp only[Rep]at hx ⊢;obtain⟨h0,A,c,h1,h2,h3,h4⟩:=hx;refine⟨h0,A,c,h1,h2,h3,λhne=>?_⟩;obtain⟨g,o,e,hA,hr⟩:=h4 hne;exact⟨g,o,e,hA,RepRows.there g e xs o hr⟩
 |.lp cs,u,hx=>by
  simp only[Rep]at hx ⊢;obtain⟨h0,g,o,h1,h2⟩:=hx;exact⟨h0,g,o,h1,RepAt.there g cs o h2⟩
 |.agg cs,u,hx=>by
  simp only[Rep]at hx ⊢;obtain⟨us,h1,h2⟩:=hx;exact⟨us,h1,RepList.there cs _ h2⟩
 |.tup cs,u,hx=>by
  simp only[Rep]at hx ⊢;obtain⟨us,h1,h2⟩:=hx;exact⟨us,h1,RepList.there cs _ h2⟩
 |.fn f a c,u,hx=>by
  simp only[Rep]at hx ⊢;obtain⟨ua,uc,h1,h2,h3⟩:=hx;exact⟨ua,uc,h1,RepList.there a _ h2,RepList.there c _ h3⟩
 |.any,_,_=>by simp only[Rep]
theorem RepRows.there(g e:Nat):∀(xs:Rw) (o:Nat),RepRows μ F w g e xs o->RepRows μ (Rs w F) w g e xs o
 |[],_,_=>by simp only[RepRows]
 |x::r,o,hx=>by
  simp only[RepRows]at hx ⊢;exact⟨hx.1,RepAt.there g x o hx.2.1,RepRows.there g e r _ hx.2.2⟩
theorem RepAt.there(g:Nat):∀(xs:Aa) (o:Nat),RepAt μ F w g xs o->RepAt μ (Rs w F) w g xs o
 |[],_,_=>by simp only[RepAt]
 |x::r,o,hx=>by
  simp only[RepAt]at hx ⊢;obtain⟨⟨h1,u,h2,h3⟩,h4⟩:=hx;exact⟨⟨⟨h1,u,h2⟩,u,h2,Rep.there x u h3⟩,RepAt.there g r _ h4⟩
theorem RepList.there:∀(xs:Aa) (us:AA),RepList μ F w xs us->RepList μ (Rs w F) w xs us
 |[],us,hx=>by simpa only[RepList]using hx
 |x::r,us,hx=>by
  simp only[RepList]at hx ⊢;obtain⟨u,t,h1,h2,h3⟩:=hx;exact⟨u,t,h1,Rep.there x u h2,RepList.there r t h3⟩
end
end
class Side where
 μ:Mu
 KL:List (Nat × ABlk)
 B:Nat
 low:∀ b k p,look b KL=Δ k->μ b=Δ p->0<p.room->p.g<B
section
variable [S:Side]
def Acn(g o:Nat):Prop:=∃ b k p,look b S.KL=Δ k/\S.μ b=Δ p/\∃ i,k.owns p.room i/\g=p.g/\o=p.o+i
def C3(own:Ae)(w:World):AP:=λg o=>g<w.heap.size/\g∉own/\¬ Acn g o
structure Sd (own:Ae) (w:World):Prop where
 base:S.B<=w.heap.size
 hi:∀ g∈own,S.B<=g
 rep:HRep S.μ (C3 own w) w λb=>look b S.KL
def Stp(own:Ae)(w w':World):Prop:=∀ g,g∉own->∀ o,w.heap[g]? = Δ o->∃ o',w'.heap[g]? = Δ o'/\ObjStep (C3 own w g) o o'
structure Xt (own own':Ae) (w w':World):Prop where
 os:w'.os=w.os
 tape:w'.tape=w.tape
 output:w'.output=w.output
 size:w.heap.size<=w'.heap.size
 obj:Stp own w w'
 mine:∀ g,g∈own'->g∈own\/w.heap.size<=g
 side:Sd own w->Sd own' w'
theorem Lo{own:Ae}{w w':World}(h:∀ g,g<w.heap.size->g∉own->w'.heap[g]? = w.heap[g]?):Stp own w w':=λg hn o ho=>by
 grind [ObjStep.refl]
theorem Stp.cell{own:Ae}{w w':World}(h:Stp own w w'){g o:Nat}(hF:C3 own w g o):w'.cell? ⟨g,o,Θ⟩=w.cell? ⟨g,o,Θ⟩:=by
 obtain⟨ob,hob⟩:∃ ob,w.heap[g]? = Δ ob:=⟨_,Atf hF.1⟩;obtain⟨ob',h1,h2⟩:=h g hF.2.1 ob hob;unfold World.cell?;simp only[hob,h1]
 cases ob<;>simp only[ObjStep]at h2
 case cells c e f=>
  obtain⟨c',rfl,_,h3⟩:=h2;simp[h3 o hF]
 all_goals (subst h2;rfl)
theorem If{own own':Ae}{w w':World}(hs:w.heap.size<=w'.heap.size)(hm:∀ g,g∈own'->g∈own\/w.heap.size<=g){g o:Nat}(h:C3 own w g o):C3 own' w' g o:=
 ⟨At4 h.1 hs,λhg=>by
  rcases hm g hg with h1|h1
  .exact h.2.1 h1
  .have:=h.1;omega,h.2.2⟩
theorem He{own:Ae}{F:AP}{w:World}(h:HRep S.μ F w λb=>look b S.KL)(hF:∀ g o,F g o->(∃ u,w.cell? ⟨g,o,Θ⟩=Δ u)->C3 own w g o):HRep S.μ (C3 own w) w λb=>look b S.KL:=by
 refine⟨λb k hb=>?_,h.apart,λg o hg=>hg.1⟩;obtain⟨p,hp,B⟩:=h.blk b k hb;refine⟨p,hp,λi x hx=>?_,B.room,B.there,λh0 i hi=>?_,λi hi hf=>hf.2.2 ⟨b,k,p,hb,hp,i,hi,rfl,rfl⟩,B.pure⟩
 .obtain⟨u,h1,h2⟩:=B.cell i x hx
  exact⟨u,h1,Rep.later ⟨λ_ _ h=>h,λg o hg=>⟨hF g o hg.1 hg.2,rfl⟩⟩ _ _ (Rep.there x u h2)⟩
 .refine hF _ _ (B.kept h0 i hi) ?_
  obtain⟨u,h1,_⟩:=B.cell i _ (List.getElem?_eq_getElem hi);exact⟨u,h1⟩
theorem Ia{F:AP}{w:World}(h:HRep S.μ F w λb=>look b S.KL){g o:Nat}(hF:F g o):¬ Acn g o:=by
 rintro⟨b,k,p,hb,hp,i,hi,rfl,rfl⟩;obtain⟨q,hq,B⟩:=h.blk b k hb;rw[hp]at hq;injection hq with hq
 subst hq;exact B.free i hi hF
theorem Sd.exact{own own':Ae}{w w':World}(h:Sd own w)(hs:w.heap.size<=w'.heap.size)(hk:∀ g,g<w.heap.size->g∉own->w'.heap[g]? = w.heap[g]?)(hm:∀ g,g∈own'->g∈own\/w.heap.size<=g):Sd own' w':=by
 have same:∀ g o,g<w.heap.size->g∉own->w'.cell? ⟨g,o,Θ⟩=w.cell? ⟨g,o,Θ⟩:=λg o h1 h2=>World.cell?_of_block (a:=⟨g,o,Θ⟩) (hk g h1 h2)
 have lat:Later S.μ S.μ (C3 own w) (C3 own' w') w w':=⟨λ_ _ h=>h,λg o hg=>⟨If hs hm hg,same g o hg.1 hg.2.1⟩⟩;refine⟨AtA h.base hs,λg hg=>?_,λb k hb=>?_,h.rep.apart,λg o hg=>hg.1⟩
 .rcases hm g hg with h1|h1
  .exact h.hi g h1
  .exact AtA h.base h1
 .obtain⟨p,hp,B⟩:=h.rep.blk b k hb
  have hpg:0<p.room->p.g<w.heap.size/\p.g∉own:=λh0=>by
   have h1:=S.low b k p hb hp h0;exact⟨At4 h1 h.base,λhm=>by have:=h.hi _ hm;omega⟩
  refine⟨p,hp,λi x hx=>?_,B.room,λi hi=>?_,λh0 i hi=>If hs hm (B.kept h0 i hi),λi hi hf=>hf.2.2 ⟨b,k,p,hb,hp,i,hi,rfl,rfl⟩,B.pure⟩
  .obtain⟨u,h1,h2⟩:=B.cell i x hx
   have hl:i<k.cells.length:=(Atn.1 hx).1;have h3:=hpg (by have:=B.room;omega);exact⟨u,(same _ _ h3.1 h3.2).trans h1,h2.later lat⟩
  .obtain⟨⟨u,h1⟩,h2⟩:=B.there i hi
   have h3:=hpg (by omega);refine⟨⟨u,(same _ _ h3.1 h3.2).trans h1⟩,?_⟩;have e:w'.frozen? ⟨p.g,p.o+i,Θ⟩=w.frozen? ⟨p.g,p.o+i,Θ⟩:=by
    unfold World.frozen?;rw[hk p.g h3.1 h3.2]
   exact e.trans h2
theorem Xt.exact{own own':Ae}{w w':World}(h1:w'.os=w.os)(h2:w'.tape=w.tape)(h3:w'.output=w.output)(h4:w.heap.size<=w'.heap.size)(h5:∀ g,g<w.heap.size->g∉own->w'.heap[g]? = w.heap[g]?)(h6:∀ g,g∈own'->g∈own\/w.heap.size<=g):Xt own own' w w':=
 ⟨h1,h2,h3,h4,Lo h5,h6,λh=>h.exact h4 h5 h6⟩
variable {own own' own2:Ae} {w w' w2:World}
theorem Xt.refl(own:Ae)(w:World):Xt own own w w:=.exact rfl rfl rfl (η _) (λ_ _ _=>rfl) λ_ h=>.inl h
theorem Xt.trans(h:Xt own own' w w')(k:Xt own' own2 w' w2):Xt own own2 w w2:=by
 refine⟨k.os.trans h.os,k.tape.trans h.tape,k.output.trans h.output,AtA h.size k.size,λg hn o ho=>?_,λg hg=>?_,λhs=>k.side (h.side hs)⟩
 .have hg:g<w.heap.size:=by
   grind
  obtain⟨o1,h1,h2⟩:=h.obj g hn o ho;obtain⟨o2,k1,k2⟩:=k.obj g (λhm=>by
   rcases h.mine g hm with h1|h1
   .exact hn h1
   .omega) o1 h1
  exact⟨o2,k1,h2.trans (λj hj=>If h.size h.mine hj) k2⟩
 .rcases k.mine g hg with h1|h1
  .exact h.mine g h1
  .exact .inr (AtA h.size h1)
theorem Xt.call(own:Ae)(h:Below w.heap.size w w'):Xt own own w w':=.exact h.os h.tape h.output h.size (λg hg _=>h.block g hg) λ_ h=>.inl h
theorem Xt.set{p:Addr}(h:p.block∈own)(u:Value):Xt own own w (w.setCell p u):=
 .exact rfl rfl rfl (by simp[World.setCell]) (λg _ hn=>Below.heap_setCell _ _ _ _ λe=>hn (e▸h)) λ_ h=>.inl h
theorem Xt.alloc(own:Ae)(w:World)(o:Obj):Xt own (w.heap.size::own) w (w.alloc o):=
 .exact rfl rfl rfl (by simp) (λg hg _=>Below.heap_alloc _ _ _ hg) λg h=>by
  grind
theorem Xt.wstep(h:Xt [] own' w w'):WStep (C3 [] w) w w':=⟨h.os,h.tape,h.output,h.size,λg o ho=>h.obj g (by simp) o ho⟩
end
section
variable [S:Side]
def Ro(own:Ae)(w:World)(x:AV)(u:Value):Prop:=Rep (λ_=>Θ) (C3 own w) w x u
def RoL(own:Ae)(w:World)(xs:Aa)(us:AA):Prop:=RepList (λ_=>Θ) (C3 own w) w xs us
variable {own own':Ae} {w w':World}
theorem Xt.later(h:Xt own own' w w'):Later (λ_=>Θ) (λ_=>Θ) (C3 own w) (C3 own' w') w w':=
 ⟨λ_ _ h=>h,λg o hg=>⟨If h.size h.mine hg,h.obj.cell hg⟩⟩
theorem Ro.xt{x:AV}{u:Value}(h:Ro own w x u)(k:Xt own own' w w'):Ro own' w' x u:=Rep.later k.later _ _ h
theorem RoL.xt{x:Aa}{u:AA}(h:RoL own w x u)(k:Xt own own' w w'):RoL own' w' x u:=RepList.later k.later _ _ h
theorem AmJ(own:Ae)(w:World):Later (λ_=>Θ) (λ_=>Θ) (C3 own w) (λg _=>g<w.heap.size) w w:=⟨λ_ _ h=>h,λ_ _ h=>⟨h.1,rfl⟩⟩
theorem Ro.rp{x:AV}{u:Value}(h:Ro own w x u):Rp w x u:=Rep.later (AmJ own w) _ _ h
theorem RoL.nil(own:Ae)(w:World):RoL own w [] []:=by unfold RoL;simp only[RepList]
theorem RoL.cons{x:AV}{u:Value}{xs:Aa}{us:AA}(h:Ro own w x u)(hs:RoL own w xs us):RoL own w (x::xs) (u::us):=by
 unfold RoL at hs ⊢;simp only[RepList];exact⟨u,us,rfl,h,hs⟩
theorem Ro.v{x:Value}(h:B4 x=U):Ro own w (.v x) x:=by unfold Ro;simp only[Rep];exact⟨trivial,h⟩
theorem Ro.agg{xs:Aa}{us:AA}(h:RoL own w xs us):Ro own w (.agg xs) (.agg us.toArray):=by
 unfold Ro;simp only[Rep];exact⟨us.toArray,rfl,h⟩
theorem Ro.agg_inv{xs:Aa}{u:Value}(h:Ro own w (.agg xs) u):∃ us,u=.agg us.toArray/\RoL own w xs us:=by
 unfold Ro at h;simp only[Rep]at h;obtain⟨us,h1,h2⟩:=h;exact⟨us.toList,by rw[h1],h2⟩
theorem Ro.tup_inv{xs:Aa}{u:Value}(h:Ro own w (.tup xs) u):∃ us,u=.tuple us.toArray/\RoL own w xs us:=by
 unfold Ro at h;simp only[Rep]at h;obtain⟨us,h1,h2⟩:=h;exact⟨us.toList,by rw[h1],h2⟩
theorem RoL.cons_inv{x:AV}{xs:Aa}{us:AA}(h:RoL own w (x::xs) us):∃ u t,us=u::t/\Ro own w x u/\RoL own w xs t:=by
 unfold RoL at h;simp only[RepList]at h;exact h
theorem RoL.nil_inv{us:AA}(h:RoL own w [] us):us=[]:=by
 grind [RepList,RoL]
end
section
variable [S:Side]
structure Mine (own:Ae) (w:World):Prop where
 nd:own.Nodup
 all:∀ g∈own,∃ T cs,Blk w g T cs
 sd:Sd own w
structure Kp (own:Ae) (w w':World):Prop where
 os:w'.os=w.os
 tape:w'.tape=w.tape
 output:w'.output=w.output
 size:w.heap.size<=w'.heap.size
 obj:Stp own w w'
 mine:∀ g∈own,∀ T cs,Blk w g T cs->∃ cs',Blk w' g T cs'/\cs'.size=cs.size/\∀(i:Nat) (c:Value),cs[i]? = Δ c->B4 c=U->cs'[i]? = Δ c
 side:Sd own w->Sd own w'
variable {own:Ae} {w w' w2:World}
theorem Kp.refl(own:Ae)(w:World):Kp own w w:=⟨rfl,rfl,rfl,η _,Lo λ_ _ _=>rfl,λ_ _ _ cs h=>⟨cs,h,rfl,λ_ _ h _=>h⟩,λh=>h⟩
theorem Kp.xt(h:Kp own w w'):Xt own own w w':=⟨h.os,h.tape,h.output,h.size,h.obj,λ_ h=>.inl h,h.side⟩
theorem Kp.trans(h:Kp own w w')(k:Kp own w' w2):Kp own w w2:=by
 have hx:=h.xt.trans k.xt;refine⟨hx.os,hx.tape,hx.output,hx.size,hx.obj,λg hg T cs hb=>?_,hx.side⟩;obtain⟨c1,h1,h2,h3⟩:=h.mine g hg T cs hb;obtain⟨c2,k1,k2,k3⟩:=k.mine g hg T c1 h1;exact⟨c2,k1,k2.trans h2,λi c hi hf=>k3 i c (h3 i c hi hf) hf⟩
theorem Kp.blk(h:Kp own w w'){g:Nat}{T:TypeId}{cs:Array Value}(hg:g∈own)(hb:Blk w g T cs)(hf:cs.toList.all B4=U):Blk w' g T cs:=by
 obtain⟨c',h1,h2,h3⟩:=h.mine g hg T cs hb;have:c'=cs:=by
  refine Array.ext h2 λi hi hi'=>?_
  have:=h3 i cs[i] (Atf hi') (List.all_eq_true.1 hf _ (by simp));rw[Atf hi]at this;injection this
 rw[←this];exact h1
theorem Kp.of_below(own:Ae)(h:Below w.heap.size w w')(hm:∀ g∈own,g<w.heap.size):Kp own w w':=
 have hx:=Xt.call own h
 ⟨hx.os,hx.tape,hx.output,hx.size,hx.obj,λg hg _ cs hb=>⟨cs,hb.below h (hm g hg),rfl,λ_ _ h _=>h⟩,hx.side⟩
end
def cellsOf(w:World)(g:Nat):Array Value:=match w.heap[g]? with
 |some (.cells cs _ _)=>cs
 |_=>#[]
def Ju(c:Value):AV:=if B4 c=U then .v c else .any
theorem La(μ:Mu)(F:AP)(w:World)(c:Value):Rep μ F w (Ju c) c:=by
 grind [Rep,Ju]
def DE(w:World)(g:Nat):ABlk:=⟨(cellsOf w g).toList.map Ju,U,Ξ⟩
def Gv(w:World):Nat->Ae->List (Nat × ABlk)
 |_,[]=>[]
 |t,g::r=>(t,DE w g)::Gv w (t+1) r
theorem ET(w:World):∀(own:Ae) (t b:Nat),look b (Gv w t own)=if t<=b then(own[b-t]?).map (DE w) else Θ
 |[],t,b=>by simp[Gv,look]
 |g::r,t,b=>by
  simp only[Gv,look,ET w r (t+1) b]
  by_cases h:t=b
  .subst h;simp
  .grind
theorem MF(w:World):∀(own:Ae) (t:Nat),∀ p∈Gv w t own,t<=p.1
 |[],t,p,h=>by simp[Gv]at h
 |g::r,t,p,h=>by
  simp only[Gv,Atd]at h;rcases h with rfl|h
  .exact η _
  .have:=MF w r (t+1) p h;omega
def FP(w:World)(t:Nat)(own:Ae):Mu:=λb=>if t<=b then(own[b-t]?).map (λgb=>(⟨gb,0,(cellsOf w gb).size⟩:Pl)) else Θ
theorem N6(w:World)(t:Nat)(own:Ae)(i gb:Nat)(hi:own[i]? = Δ gb):FP w t own (t+i)=Δ ⟨gb,0,(cellsOf w gb).size⟩:=by
 unfold FP;rw[Ac (by omega),show t+i-t=i by omega,hi];rfl
theorem MG(w:World):∀(own:Ae) (t:Nat),∀ p∈Gv w t own,p.1<t+own.length
 |[],t,p,h=>by simp[Gv]at h
 |g::r,t,p,h=>by
  simp only[Gv,Atd,List.length_cons]at h ⊢;rcases h with rfl|h
  .simp only;omega
  .have:=MG w r (t+1) p h;omega
theorem N7{w:World}{t:Nat}{own:Ae}{b:Nat}{p:Pl}(h:FP w t own b=Δ p):b<t+own.length:=by
 grind [FP]
theorem JJ(b:Nat):∀ l m:List (Nat × ABlk),look b (l++m)=(look b l).or (look b m)
 |[],m=>by simp[look]
 |(c,k)::r,m=>by
  simp only[List.cons_append,look]
  by_cases h:c=b
  .grind
  .rw[Ad h,Ad h,JJ b r m]
def shL(s:Nat)(l:List (Nat × ABlk)):List (Nat × ABlk):=l.map λp=>(p.1+s,p.2.ren (· + s))
theorem ME(s b:Nat):∀ l,look b (shL s l)=if s<=b then(look (b-s) l).map (ABlk.ren (· + s)) else Θ
 |[]=>by simp[shL,look]
 |(c,k)::r=>by
  have ih:=ME s b r;unfold shL at ih ⊢;simp only[List.map_cons,look]
  by_cases h:c+s=b
  .grind
  .grind
theorem NT{b:Nat}{k:ABlk}:∀{l:List (Nat × ABlk)},look b l=Δ k->(b,k)∈l
 |[],h=>by simp[look]at h
 |(c,x)::r,h=>by
  simp only[look]at h
  by_cases e:c=b
  .grind
  .rw[Ad e]at h
   exact List.mem_cons_of_mem _ (NT h)
theorem NH{μ:Mu}{F:AP}{w:World}{H H':Nat->Option ABlk}(h:HRep μ F w H)(hs:∀ b k,H' b=Δ k->H b=Δ k):HRep μ F w H':=
 ⟨λb k hb=>h.blk b k (hs b k hb),λb b' k k' p p' hne hb hb'=>h.apart b b' k k' p p' hne (hs b k hb) (hs b' k' hb'),h.prot⟩
section
variable [S:Side]
theorem KS{P:Program}{f:Nat}{d:DF}(hd:A1 (Bi P f) d){args:Aa}{bs:List ABlk}{r:AV}{out:List BO}(h:d args bs=Δ (r,out)):bs.length<=out.length/\∃ t0,out.length<=t0/\∀(μ:Mu) (F:AP) (w:World) (KL:List (Nat × ABlk)) (us:AA) (s:Nat),t0<=s->(∀ p∈KL,t0<=p.1/\p.1<s)->
  RepList μ F w args us->HRep μ F w (λb=>if b<t0 then bs[b]? else look b KL)->(∀ b,bs.length<=b->b<t0->μ b=Θ)->(∀ b p,μ b=Δ p->b<s)->HRep S.μ F w (λb=>look b S.KL)->
  (∀ b k p b' k' p',(if b<t0 then bs[b]? else look b KL)=Δ k->μ b=Δ p->look b' S.KL=Δ k'->S.μ b'=Δ p'->0<p'.room->p.g≠p'.g)->
  Bi P f us w λu w'=>∃ μ' F',Rep μ' F' w' r u/\HRep μ' F' w' (λb=>if b<t0 then C8 bs out b else look b KL)/\Later μ μ' F F' w w'/\WStep F w w'/\(∀ b,(b<bs.length\/(out.length<=b/\b<s))->μ' b=μ b)/\HRep S.μ F' w' (λb=>look b S.KL):=by
 obtain⟨hl,t0,ht,g⟩:=hd args bs r out h;refine⟨hl,t0,ht,λμ F w KL us s hs hKL hus hH hμ hμs hS hap=>?_⟩;have hKn:∀ b,s<=b->look b KL=Θ:=λb hb=>by
  cases e:look b KL with
  |none=>rfl
  |some k=>have:=hKL _ (NT e);simp only at this;omega
 obtain⟨ν,hν⟩:∃ ν:Mu,ν=λb=>if b<s then μ b else S.μ (b-s):=⟨_,rfl⟩
 have ν1:∀ b,b<s->ν b=μ b:=λb hb=>by rw[hν];exact Ac hb
 have ν2:∀ b,ν (b+s)=S.μ b:=λb=>by
  grind
 have lat:Later μ ν F F w w:=⟨λb p hb=>(ν1 b (hμs b p hb)).trans hb,λ_ _ h=>⟨h,rfl⟩⟩;obtain⟨HJ,hHJ⟩:∃ HJ:Nat->Option ABlk,HJ=λb=>if b<t0 then bs[b]? else look b (KL++shL s S.KL):=⟨_,rfl⟩
 have J1:∀ b,b<s->HJ b=if b<t0 then bs[b]? else look b KL:=λb hb=>by
  simp_all [Ad,JJ,ME]
 have J2:∀ b,HJ (b+s)=(look b S.KL).map (ABlk.ren (· + s)):=λb=>by
  rw[hHJ]
  show (if b+s<t0 then _ else _)=_
  rw[Ad (by omega),JJ,hKn _ (by omega),ME,Ac (by omega),Au0];rfl
 have hJ:HRep ν F w HJ:=by
  refine⟨λb k hb=>?_,λb b' k k' p p' hne hb hb' hp hp' i i' ho ho' he=>?_,hH.prot⟩
  .by_cases hbs:b<s
   .rw[J1 b hbs]at hb
    obtain⟨p,hp,B⟩:=hH.blk b k hb;refine⟨p,(ν1 b hbs).trans hp,λi x hx=>?_,B.room,B.there,B.kept,B.free,B.pure⟩;obtain⟨u,h1,h2⟩:=B.cell i x hx;exact⟨u,h1,h2.later lat⟩
   .obtain⟨c,rfl⟩:∃ c,b=c+s:=⟨b-s,by omega⟩
    rw[J2]at hb;obtain⟨k0,hk0,rfl⟩:=AtZ.1 hb;obtain⟨p,hp,B⟩:=hS.blk c k0 hk0;exact⟨p,(ν2 c).trans hp,(Db (μ₁:=S.μ) λx _=>ν2 x).2 B⟩
  .injection he with he1 he2
   have key:∀ b b' k k' p p',b<s->¬ b'<s->HJ b=Δ k->HJ b'=Δ k'->ν b=Δ p->ν b'=Δ p'->∀ i',k'.owns p'.room i'->p.g≠p'.g:=λb b' k k' p p' hbs hbs' hb hb' hp hp' i' ho'=>by
    obtain⟨c,rfl⟩:∃ c,b'=c+s:=⟨b'-s,by omega⟩;rw[J1 b hbs]at hb;rw[ν1 b hbs]at hp;rw[J2]at hb';rw[ν2]at hp';obtain⟨k0,hk0,rfl⟩:=AtZ.1 hb';obtain⟨q,hq,B⟩:=hS.blk c k0 hk0;rw[hp']at hq;injection hq with hq
    subst hq;refine hap b k p c k0 p' hb hp hk0 hp' ?_;rcases ((Cp _ k0).owns _ _).1 ho' with h1|h1
    .have:=B.room;omega
    .omega
   by_cases hbs:b<s<;>by_cases hbs':b'<s
   .rw[J1 b hbs]at hb
    rw[J1 b' hbs']at hb';rw[ν1 b hbs]at hp;rw[ν1 b' hbs']at hp';exact hH.apart b b' k k' p p' hne hb hb' hp hp' i i' ho ho' (by rw[he1,he2])
   .grind
   .grind
   .obtain⟨c,rfl⟩:∃ c,b=c+s:=⟨b-s,by omega⟩
    obtain⟨c',rfl⟩:∃ c',b'=c'+s:=⟨b'-s,by omega⟩;rw[J2]at hb hb';rw[ν2]at hp hp';obtain⟨k0,hk0,rfl⟩:=AtZ.1 hb;obtain⟨k1,hk1,rfl⟩:=AtZ.1 hb';exact hS.apart c c' k0 k1 p p' (λe=>hne (by rw[e])) hk0 hk1 hp hp' i i' (((Cp _ k0).owns _ _).1 ho) (((Cp _ k1).owns _ _).1 ho') (by rw[he1,he2])
 have:=g t0 (η _) ν F w (KL++shL s S.KL) us (λp hp=>by
  rcases List.mem_append.1 hp with h1|h1
  .exact(hKL p h1).1
  .obtain⟨q,_,rfl⟩:=List.mem_map.1 h1
   show t0<=q.1+s
   omega) (RepList.later' hus lat) (by rw[←hHJ];exact hJ) (λb h1 h2=>(ν1 b (by omega)).trans (hμ b h1 h2))
 refine Ci P f _ _ _ _ this ?_;rintro u w' ⟨μ',F',h1,h2,h3,h4,h5⟩;have hbk:∀ b,μ' (b+s)=S.μ b:=λb=>(h5 (b+s) (.inr (by omega))).trans (ν2 b)
 refine⟨μ',F',h1,NH h2 λb k hb=>?_,⟨λb p hb=>h3.mu b p (lat.mu b p hb),h3.prot⟩,h4,λb hb=>?_,?_⟩
 .grind
 .grind
 .refine JG (· + s) h2 (λb b' _ _ _ _ e=>by have e:b+s=b'+s:=e;omega) λb k hb=>⟨k.ren (· + s),?_,(hbk b).symm,(Cp _ k).symm,λp B=>(Db λx _=>hbk x).1 B⟩
  show (if b+s<t0 then _ else _)=_
  rw[Ad (by omega),JJ,hKn _ (by omega),ME,Ac (by omega),Au0,hb];rfl
theorem Bw{P:Program}{f:Nat}{d:DF}(hd:A1 (Bi P f) d){args:Aa}{r:AV}(h:d args []=Δ (r,[]))(hn:r.noid=U){own:Ae}{w:World}(hm:Mine own w){us:AA}(hus:RoL own w args us) :
  Calls P f us.toArray w λe w'=>∃ u,e=.returned u/\Kp own w w'/\Ro own w' r u:=by
 obtain⟨_,t0,ht,g⟩:=KS hd h;have hH0:∀ b k,(if b<t0 then([]:List ABlk)[b]? else look b (Gv w t0 own))=Δ k->∃(i gb:Nat),b=t0+i/\own[i]? = Δ gb/\k=DE w gb:=λb k hb=>by
  by_cases h1:b<t0
  .grind
  .rw[Ad h1,ET,Ac (by omega)]at hb
   obtain⟨gb,h2,h3⟩:=AtZ.1 hb;exact⟨b-t0,gb,by omega,h2,h3.symm⟩
 have hmu:=N6 w t0 own;have hcs:∀ gb∈own,∃ T,Blk w gb T (cellsOf w gb):=λgb hg=>by
  obtain⟨T,cs,h1⟩:=hm.all gb hg;have e:cellsOf w gb=cs:=by unfold cellsOf;unfold Blk at h1;rw[h1]
  rw[e];exact⟨T,h1⟩
 have hH:HRep (FP w t0 own) (C3 own w) w (λb=>if b<t0 then([]:List ABlk)[b]? else look b (Gv w t0 own)):=by
  refine⟨λb k hb=>?_,λb b' k k' p p' hne hb hb' hp hp' i i' _ _ he=>?_,λg o hg=>hg.1⟩
  .obtain⟨i,gb,rfl,hi,rfl⟩:=hH0 b k hb
   have hmem:=Atx hi;obtain⟨T,hblk⟩:=hcs gb hmem;refine⟨_,hmu i gb hi,λj x hx=>?_,by simp[DE],λj hj=>⟨⟨(cellsOf w gb)[j],?_⟩,hblk.frozen _⟩,(λh0=>by cases h0),(λj _ hf=>hf.2.1 hmem),(λh0=>by cases h0)⟩
   .unfold DE at hx
    rw[AtG]at hx;obtain⟨c,hc,rfl⟩:=AtZ.1 hx;refine⟨c,?_,La _ _ _ _⟩
    show w.cell? ⟨gb,0+j,Θ⟩=Δ c
    rw[Ato,hblk.cell,←hc,AtB]
   .show w.cell? ⟨gb,0+j,Θ⟩=_
    rw[Ato,hblk.cell];exact Atf hj
  .obtain⟨a,ga,rfl,ha,rfl⟩:=hH0 b k hb
   obtain⟨a',ga',rfl,ha',rfl⟩:=hH0 b' k' hb';rw[hmu a ga ha]at hp;rw[hmu a' ga' ha']at hp';injection hp with hp
   injection hp' with hp'
   subst hp hp';injection he with he _
   apply hne;have he:ga=ga':=he;subst he;have:=(List.getElem?_inj (Atn.1 ha).1 hm.nd).1 (ha.trans ha'.symm);omega
 have:=g _ (C3 own w) w (Gv w t0 own) us (t0+own.length) (by omega) (λp hp=>⟨MF w own t0 p hp,MG w own t0 p hp⟩) (RepList.later' hus ⟨λ_ _ hb=>(by cases hb),λ_ _ h=>⟨h,rfl⟩⟩) hH (λb _ hb=>Ad (by omega)) (λb p=>N7) hm.sd.rep (λb k p b' k' p' hb hp hb' hp' h0 he=>by
  obtain⟨i,gb,rfl,hi,rfl⟩:=hH0 b k hb;rw[hmu i gb hi]at hp;injection hp with hp
  subst hp;have h1:=Side.low b' k' p' hb' hp' h0;have h2:=hm.sd.hi gb (Atx hi);have he:gb=p'.g:=he;omega)
 refine Calls.mono this ?_;rintro e w' ⟨u,rfl,μ',F',h1,h2,h3,h4,h5,h6⟩;have hblk:∀(i gb:Nat),own[i]? = Δ gb->∀ T,Blk w gb T (cellsOf w gb)->∃ c',Blk w' gb T c'/\c'.size=(cellsOf w gb).size/\(∀ j c,(cellsOf w gb)[j]? = Δ c->B4 c=U->c'[j]? = Δ c)/\∀ j,j<(cellsOf w gb).size->¬ F' gb j:=λi gb hi T hb=>by
  obtain⟨p,hp,B⟩:=h2.blk (t0+i) (DE w gb) (by
   rw[Ad (by omega),ET,Ac (by omega),show t0+i-t0=i by omega,hi];rfl)
  rw[h5 (t0+i) (.inr ⟨AtA ht (Nat.le_add_right _ _),by have:=(Atn.1 hi).1;omega⟩),hmu i gb hi]at hp;injection hp with hp
  subst hp;obtain⟨o',ho1,c',rfl,hc,_⟩:=h4.obj gb _ hb;have hb':Blk w' gb T c':=ho1;refine⟨c',hb',hc,λj c hj hf=>?_,λj hj=>?_⟩
  .have hj':j<(cellsOf w gb).size:=(AtD.1 hj).1
   obtain⟨u',hu1,hu2⟩:=B.cell j (.v c) (by
    unfold DE;rw[AtG,AtB,hj]
    show Δ (Ju c)=_
    unfold Ju;rw[Ac hf])
   simp only[Rep]at hu2;have hu1:w'.cell? ⟨gb,0+j,Θ⟩=Δ u':=hu1;rw[Ato,hb'.cell]at hu1;rw[hu1,hu2.1]
  .have:=B.free j (.inl ⟨by unfold DE;simpa using hj,rfl⟩)
   rwa [show (⟨gb,0,(cellsOf w gb).size⟩:Pl).o+j=j from Ato j]at this
 have hav:∀ g o,F' g o->(∃ uc,w'.cell? ⟨g,o,Θ⟩=Δ uc)->C3 own w' g o:=λg o hf ⟨uc,hc⟩=>⟨h2.prot g o hf,λhmem=>by
  obtain⟨i,hi⟩:=AuJ hmem;obtain⟨T,hb⟩:=hcs g hmem;obtain⟨c',k1,k2,_,k4⟩:=hblk i g hi T hb;rw[k1.cell]at hc;exact k4 o (by rw[←k2];exact(AtD.1 hc).1) hf,Ia h6 hf⟩
 refine⟨u,rfl,⟨h4.os,h4.tape,h4.output,h4.size,λk _ o ho=>h4.obj k o ho,λk hmem T cs hb=>?_,λhs=>⟨AtA hs.base h4.size,hs.hi,He h6 hav⟩⟩,?_⟩
 .obtain⟨i,hi⟩:=AuJ hmem
  have e:cellsOf w k=cs:=by unfold cellsOf;unfold Blk at hb;rw[hb]
  obtain⟨c',k1,k2,k3,_⟩:=hblk i k hi T (by rw[e];exact hb);rw[e]at k2 k3;exact⟨c',k1,k2,k3⟩
 .have h7:=Rep.there r u (Dw μ' (λ_=>Θ) r u hn h1)
  exact Rep.later ⟨λ_ _ h=>h,λg o hg=>⟨hav g o hg.1 hg.2,rfl⟩⟩ _ _ h7
theorem Mine.kp{own:Ae}{w w':World}(h:Mine own w)(hb:Kp own w w'):Mine own w':=⟨h.nd,(λg hg=>by
 obtain⟨T,cs,h1⟩:=h.all g hg;obtain⟨c',k1,_⟩:=hb.mine g hg T cs h1;exact⟨T,c',k1⟩),hb.side h.sd⟩
theorem Mine.lt{own:Ae}{w:World}(h:Mine own w){g:Nat}(hg:g∈own):g<w.heap.size:=by
 obtain⟨_,_,h1⟩:=h.all g hg;exact h1.lt
theorem Mine.alloc{own:Ae}{w:World}(h:Mine own w)(T:TypeId)(cs:Array Value):Mine (w.heap.size::own) (w.alloc (.cells cs T)):=by
 refine⟨List.nodup_cons.2 ⟨λhm=>AuE _ (h.lt hm),h.nd⟩,λg hg=>?_,(Xt.alloc own w _).side h.sd⟩;rcases Atd.1 hg with rfl|hg
 .grind [Blk.new]
 .obtain⟨T',cs',h1⟩:=h.all g hg
  exact⟨T',cs',h1.alloc _⟩
theorem Mine.alloc0{own:Ae}{w:World}(h:Mine own w)(o:Obj):Mine own (w.alloc o):=⟨h.nd,(λg hg=>by
 obtain⟨T',cs',h1⟩:=h.all g hg;exact⟨T',cs',h1.alloc _⟩),(Xt.call own (Be w o)).side h.sd⟩
theorem Mine.set{own:Ae}{w:World}(h:Mine own w){g:Nat}(hg:g∈own)(i:Nat)(u:Value):Mine own (w.setCell ⟨g,i,Θ⟩ u):=by
 refine⟨h.nd,λk hk=>?_,(Xt.set (p:=⟨g,i,Θ⟩) hg u).side h.sd⟩;obtain⟨T,cs,h1⟩:=h.all k hk
 by_cases e:k=g
 .subst e
  exact⟨T,_,h1.set_ i u⟩
 .exact⟨T,cs,h1.far (p:=⟨g,i,Θ⟩) e u⟩
end
