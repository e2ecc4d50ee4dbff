/- A good answer, as a cont -/
import Derived.Test.YtpncilciembjdaaGreatDoorBAO
set_option linter.all false
open Array renaming getElem?_eq_getElem->Apf,getElem?_eq_none->Aqg
open List renaming replicate->Aqj
open Nat renaming le_refl->φ,lt_irrefl->AsT,lt_or_ge->Apw,zero_add->Apy
namespace Go.Proofs.YtpncilciembjdaaGreatDoor
open Go.RowKit
def Rp(w:World)(x:AV)(u:Value):Prop:=Rep (λ_=>none) (λg _=>g<w.heap.size) w x u
def RpL(w:World)(xs:List AV)(us:List Value):Prop:=RepList (λ_=>none) (λg _=>g<w.heap.size) w xs us
theorem Rp.below{w w':World}{x:AV}{u:Value}(h:Rp w x u)(hb:Below w.heap.size w w'):Rp w' x u:=VN h hb
theorem RpL.nil(w:World):RpL w [] []:=by unfold RpL;simp only[RepList]
theorem RpL.cons{w:World}{x:AV}{u:Value}{xs:List AV}{us:List Value}(h:Rp w x u)(hs:RpL w xs us):RpL w (x::xs) (u::us):=by
 unfold RpL at hs ⊢;simp only[RepList];exact⟨u,us,rfl,h,hs⟩
theorem Rp.int(w:World)(n:Int):Rp w (iv n) (.int .i64 n):=by unfold Rp iv;simp only[Rep];exact⟨trivial,rfl⟩
theorem Rp.int_inv{w:World}{n:Int}{u:Value}(h:Rp w (iv n) u):u=.int .i64 n:=by unfold Rp iv at h;simp only[Rep]at h;exact h.1
theorem Rp.bool_inv{w:World}{n:Bool}{u:Value}(h:Rp w (bv n) u):u=.bool n:=by unfold Rp bv at h;simp only[Rep]at h;exact h.1
theorem Rp.str_inv{w:World}{n:ByteArray}{u:Value}(h:Rp w (sv n) u):u=.string n:=by unfold Rp sv at h;simp only[Rep]at h;exact h.1
theorem Rp.bool(w:World)(n:Bool):Rp w (bv n) (.bool n):=by unfold Rp bv;simp only[Rep];exact⟨trivial,rfl⟩
theorem Rp.agg{w:World}{xs:List AV}{us:List Value}(h:RpL w xs us):Rp w (.agg xs) (.agg us.toArray):=by
 unfold Rp;simp only[Rep];exact⟨us.toArray,rfl,h⟩
theorem Rp.agg_inv{w:World}{xs:List AV}{u:Value}(h:Rp w (.agg xs) u):∃ us,u=.agg us.toArray/\RpL w xs us:=by
 unfold Rp at h;simp only[Rep]at h;obtain⟨us,h1,h2⟩:=h;exact⟨us.toList,by rw[h1],h2⟩
theorem Rp.ls_inv{w:World}{xs:List (List AV)}{u:Value}(h:Rp w (.ls xs) u):∃ A c,u=.slice A xs.length c:=by
 unfold Rp at h;simp only[Rep]at h;obtain⟨_,A,c,h1,_⟩:=h;exact⟨A,c,h1⟩
theorem RpL.cons_inv{w:World}{x:AV}{xs:List AV}{us:List Value}(h:RpL w (x::xs) us):∃ u t,us=u::t/\Rp w x u/\RpL w xs t:=by
 unfold RpL at h;simp only[RepList]at h;exact h
theorem RpL.nil_inv{w:World}{us:List Value}(h:RpL w [] us):us=[]:=by
 unfold RpL at h;simpa only[RepList]using h
theorem BH{P:Program}{f:Nat}{d:DF}(hd:AW (Ba P f) d){args:List AV}{r:AV}(h:d args []=some (r,[]))(hn:r.noid=true)(w:World)(us:List Value)(hus:RpL w args us) :
  Calls P f us.toArray w λe w'=>∃ u,e=.returned u/\Below w.heap.size w w'/\Rp w' r u:=by
 obtain⟨_,t0,ht,g⟩:=hd args [] r [] h;have hH:HRep (λ_=>none) (λg _=>g<w.heap.size) w (λb=>if b<t0 then([]:List ABlk)[b]? else look b []):=by
  have e:∀ b,(if b<t0 then([]:List ABlk)[b]? else look b [])=none:=λb=>by split<;>rfl
  refine⟨λb k hb=>?_,λb b' k k' p p' _ hb=>?_,λg o hg=>hg⟩
  .rw[e]at hb;cases hb
  .rw[e]at hb;cases hb
 have:=g t0 (φ _) (λ_=>none) (λg _=>g<w.heap.size) w [] us (by simp) hus hH (λ_ _ _=>rfl);refine Calls.mono this ?_;rintro e w' ⟨u,rfl,μ',F',h1,_,_,h4,_⟩;exact⟨u,rfl,h4.below (φ _) (λg o hg=>hg),Rep.plain r u hn h1⟩
theorem Mj{P:Program}{f:Nat}{d:DF}(hd:AW (Ba P f) d){args:List AV}{r:AV}(h:d args []=some (r,[]))(w0:World)(T:TypeId)(cs:Array Value)(us:List Value)(hus:RpL w0 args us) :
  Calls P f us.toArray (w0.alloc (.cells cs T)) λe w'=>∃ u μ' F' c',e=.returned u/\Below w0.heap.size w0 w'/\w'.heap[w0.heap.size]? = some (.cells c' T (0,0))/\c'.size=cs.size/\Rep μ' F' w' r u/\(∀ g o,F' g o->g<w'.heap.size)/\∀ o,o<cs.size->¬ F' w0.heap.size o:=by
 obtain⟨_,t0,ht,g⟩:=hd args [] r [] h;have hnew:=Blk.new w0 T cs;have hl:(w0.alloc (.cells cs T)).heap.size=w0.heap.size+1:=World.size_alloc _ _;have hlook:look t0 [(t0,(⟨Aqj cs.size .any,true,false⟩:ABlk))]=some ⟨Aqj cs.size .any,true,false⟩:=by simp[look]
 have hlater:Later (λ_=>none) (λb=>if b=t0 then some (⟨w0.heap.size,0,cs.size⟩:Pl) else none) (λg _=>g<w0.heap.size) (λg _=>g<w0.heap.size) w0 (w0.alloc (.cells cs T)):=
  ⟨(λb p hb=>by cases hb),(λg o hg=>⟨hg,(BV w0 _).cell (p:=⟨g,o,none⟩) hg⟩)⟩
 have hsome:∀ b k,(if b<t0 then([]:List ABlk)[b]? else look b [(t0,(⟨Aqj cs.size .any,true,false⟩:ABlk))])=some k->b=t0/\k=⟨Aqj cs.size .any,true,false⟩:=λb k hb=>by
  by_cases h1:b<t0
  .rw[if_pos h1]at hb;cases hb
  .rw[if_neg h1]at hb
   by_cases h2:b=t0
   .subst h2
    rw[hlook]at hb;injection hb with hb
    exact⟨rfl,hb.symm⟩
   .simp[look,h2,Ne.symm h2]at hb
 have hH:HRep (λb=>if b=t0 then some (⟨w0.heap.size,0,cs.size⟩:Pl) else none) (λg _=>g<w0.heap.size) (w0.alloc (.cells cs T)) (λb=>if b<t0 then([]:List ABlk)[b]? else look b [(t0,⟨Aqj cs.size .any,true,false⟩)]):=by
  refine⟨λb k hb=>?_,λb b' k k' p p' hne hb hb'=>?_,λg o hg=>by rw[hl];exact Nat.lt_succ_of_lt hg⟩
  .obtain⟨rfl,rfl⟩:=hsome b k hb
   refine⟨_,if_pos rfl,λi x hx=>?_,by simp,λi hi=>⟨⟨cs[i],?_⟩,hnew.frozen _⟩,(λh0=>by cases h0),(λi _ hf=>AsT _ hf),(λh0=>by cases h0)⟩
   .have hi:i<cs.size:=by
     rcases Apw i cs.size with h|h
     .exact h
     .rw[List.getElem?_eq_none (by simpa using h)]at hx;cases hx
    have hx2:x=.any:=by
     rw[List.getElem?_replicate,if_pos hi]at hx;injection hx with hx
     exact hx.symm
    subst hx2;refine⟨cs[i],?_,by simp only[Rep]⟩
    show (w0.alloc (.cells cs T)).cell? ⟨w0.heap.size,0+i,none⟩=_
    rw[Apy,hnew.cell,Apf hi]
   .show (w0.alloc (.cells cs T)).cell? ⟨w0.heap.size,0+i,none⟩=_
    rw[Apy,hnew.cell,Apf hi]
  .obtain⟨rfl,rfl⟩:=hsome b k hb
   obtain⟨rfl,rfl⟩:=hsome b' k' hb';exact absurd rfl hne
 have:=g t0 (φ _) _ (λg _=>g<w0.heap.size) (w0.alloc (.cells cs T)) [(t0,⟨Aqj cs.size .any,true,false⟩)] us (by simp) (RepList.later' hus hlater) hH (λb _ hb=>if_neg (by omega));refine Calls.mono this ?_;rintro e w' ⟨u,rfl,μ',F',h1,h2,h3,h4,h5⟩;have hμ:μ' t0=some ⟨w0.heap.size,0,cs.size⟩:=(h5 t0 (.inr ht)).trans (if_pos rfl);obtain⟨p,hp,B⟩:=h2.blk t0 _ ((if_neg (AsT t0)).trans hlook);rw[hμ]at hp;injection hp with hp
 subst hp;obtain⟨o',ho1,c',rfl,hc,_⟩:=h4.obj w0.heap.size _ hnew;refine⟨u,μ',F',c',rfl,(BV w0 _).trans (h4.below (B:=w0.heap.size) (by rw[hl];omega) (λg o hg=>hg)),ho1,hc,h1,h2.prot,λo ho=>?_⟩;have:=B.free o (by simp[ABlk.owns];exact ho)
 rwa [Apy]at this
theorem Zb{μ:Mu}{F:AQ}{w:World}{x:AV}{u:Value}{g:Nat}{T:TypeId}{d0 d1 d2:Value}(h:Rep μ F w x u)(hb:Blk w g T #[d0,d1,d2])(hF:∀ g o,F g o->g<w.heap.size)(hn:∀ o,o<3->¬ F g o)(a b c:Value)(o:Obj) :
  Rep μ F ((((w.setCell ⟨g,0,none⟩ a).setCell ⟨g,1,none⟩ b).setCell ⟨g,2,none⟩ c).alloc o) x u:=by
 refine Rep.later ⟨λ_ _ h=>h,λg' o' hf=>⟨hf,?_⟩⟩ _ _ h
 by_cases hg:g'=g
 .subst hg
  have h3:3<=o':=by
   rcases Apw o' 3 with h3|h3
   .exact absurd hf (hn o' h3)
   .exact h3
  have hb2:=((((hb.set_ 0 a).set_ 1 b).set_ 2 c).alloc o).cell o';rw[hb2,hb.cell o'];rw[Aqg (by simpa using h3),Aqg (by simpa using h3)]
 .have e1:=Below.heap_setCell w ⟨g,0,none⟩ a g' hg
  have e2:=Below.heap_setCell (w.setCell ⟨g,0,none⟩ a) ⟨g,1,none⟩ b g' hg;have e3:=Below.heap_setCell ((w.setCell ⟨g,0,none⟩ a).setCell ⟨g,1,none⟩ b) ⟨g,2,none⟩ c g' hg;have hl:g'<(((w.setCell ⟨g,0,none⟩ a).setCell ⟨g,1,none⟩ b).setCell ⟨g,2,none⟩ c).heap.size:=by
   have:=hF g' o' hf;simpa using this
  have e4:=Below.heap_alloc _ o g' hl;exact World.cell?_of_block (a:=⟨g',o',none⟩) (e4.trans (e3.trans (e2.trans e1)))
theorem Za{μ:Mu}{F:AQ}{w:World}{x0 x1 x2:AV}{u0 u1 u2:Value}(h:Rep μ F w (.agg [x0,x1,x2]) (.agg #[u0,u1,u2])):Rep μ F w x0 u0/\Rep μ F w x1 u1/\Rep μ F w x2 u2:=by
 simp only[Rep,RepList]at h;obtain⟨us,hus,a0,t0,he0,r0,a1,t1,he1,r1,a2,t2,he2,r2,he3⟩:=h;subst he3 he2 he1;injection hus with hus
 have h2:=congrArg Array.toList hus;rw[he0]at h2;simp only[List.cons.injEq,and_true]at h2;obtain⟨rfl,rfl,rfl⟩:=h2;exact⟨r0,r1,r2⟩
end Go.Proofs.YtpncilciembjdaaGreatDoor
