/- Values without addresses -/
import Derived.WalkKit
import Derived.Laws.IdiomCopy
import Derived.Deep.MidRow
import Derived.Laws.Append
import Derived.Laws.BytesString
import Derived.Laws.Tables
import Derived.Laws.MakeOwn
import Derived.Laws.IdiomStrings
set_option linter.all false
open Array renaming ext'->Ax0,getElem?_eq_getElem->AwF,getElem?_eq_none->Axr,getElem?_eq_some_iff->Aw9,getElem?_toList->Ax3,length_toList->Axe,range->Ayg,size_append->AyY,size_map->Az3,toList_extract->Az2
open Bool renaming and_eq_true->η,false_eq_true->Awx
open List renaming all_cons->Axn,all_eq_true->Awu,append_assoc->Awr,cons_append->AwI,drop_zero->κ,eq_nil_of_length_eq_zero->AwN,extract_eq_take_drop->Az0,flatten_cons->Axi,flatten_nil->AzA,foldl_cons->Aye,getElem?_cons_succ->AwW,getElem?_cons_zero->Axa,getElem?_drop->Axw,getElem?_eq_getElem->Ψ,getElem?_eq_some_iff->AwQ,getElem?_map->Axo,getElem?_take->Aw8,getElem?_toArray->Axk,getElem_mem->Awy,getElem_of_mem->AxF,length_append->ζ,length_cons->π,length_drop->AwR,length_map->Aw0,length_nil->Aw4,length_range->AyA,length_take->AwL,map_cons->AwP,map_map->AyI,map_take->AzO,mem_append->Aw1,mem_map->AxU,mem_of_mem_drop->Axq,mem_of_mem_take->AxK,size_toArray->Azw,take_length->AxD,take_zero->AzK
open Nat renaming add_assoc->AwA,add_mul->Axf,add_zero->Axg,le_refl->ω,le_trans->Aw6,le_zero_eq->AzL,lt_of_lt_of_le->Axs,lt_or_ge->AwM,min->Axm,min_le_left->AzH,mul_le_mul_right->Axd,mul_ne_zero->AyK,mul_one->AyB,zero_add->AwJ,zero_mul->Axz
open Option renaming map_none->AyL,map_some->AwE
namespace Go.Proofs.YtlmhajfbpplpoaaGreat
open Option.some renaming injEq->δ
open Go.RowKit
theorem Ac{c:Prop}{h:Decidable c}(hc:c){α:Sort _}{t e:α}:ite c t e=t:=if_pos hc
theorem Ab{c:Prop}{h:Decidable c}(hc:¬c){α:Sort _}{t e:α}:ite c t e=e:=if_neg hc
theorem AW{p:Prop}[Decidable p](h:p):decide p=true:=decide_eq_true h
theorem Be{p:Prop}[Decidable p](h:¬p):decide p=false:=decide_eq_false h
abbrev Aj:=List Nat
abbrev AI:=List Value
inductive AV where
 |v (x:Value)
 |ptr (b o:Nat)
 |sl (b o n e:Nat)
 |ls (xs:List (List AV))
 |lp (cs:List AV)
 |agg (cs:List AV)
 |tup (vs:List AV)
 |fn (f:Fn) (first captured:List AV)
 |any
abbrev Ad:=List AV
structure Pl where
 g:Nat
 o:Nat
 room:Nat
abbrev Mu:=Nat->Option Pl
abbrev AP:=Nat->Nat->Prop
def OG:Value->Bool
 |.agg _=>false
 |_=>true
mutual
def AV.noid:AV->Bool
 |.v _=>true
 |.ptr _ _=>false
 |.sl _ _ _ _=>false
 |.ls _=>true
 |.lp _=>true
 |.agg cs=>A4 cs
 |.tup cs=>A4 cs
 |.fn _ a c=>A4 a&&A4 c
 |.any=>true
def A4:Ad->Bool
 |[]=>true
 |x::r=>x.noid&&A4 r
end
def J1(xs:List Ad):Bool:=xs.all A4
theorem BN:∀(l:Ad),A4 l=l.all AV.noid
 |[]=>rfl
 |x::r=>by simp[A4,BN r]
mutual
def Rep(μ:Mu)(F:AP)(w:World):AV->Value->Prop
 |.v x,u=>u=x/\OG x=true
 |.ptr b o,u=>∃ p,μ b=some p/\u=.pointer (some ⟨p.g,p.o+o,none⟩)
 |.sl b o n e,u=>∃ p,μ b=some p/\((n=0/\u=.slice none 0 0)\/∃ q c,u=.slice (some ⟨p.g,q,none⟩) n c/\(c≠0->q=p.o+o)/\n<=c/\c<=maxLen/\o+c*e<=p.room)
 |.ls xs,u=>J1 xs=true/\∃ A c,u=.slice A xs.length c/\xs.length<=c/\c<=maxLen/\(xs≠[]->∃ g o e,A=some ⟨g,o,none⟩/\RepRows μ F w g e xs o)
 |.lp cs,u=>A4 cs=true/\∃ g o,u=.pointer (some ⟨g,o,none⟩)/\RepAt μ F w g cs o
 |.agg cs,u=>∃ us,u=.agg us/\RepList μ F w cs us.toList
 |.tup vs,u=>∃ us,u=.tuple us/\RepList μ F w vs us.toList
 |.fn f a c,u=>∃ ua uc,u=.func f ua uc/\RepList μ F w a ua.toList/\RepList μ F w c uc.toList
 |.any,_=>True
def RepRows(μ:Mu)(F:AP)(w:World)(g e:Nat):List Ad->Nat->Prop
 |[],_=>True
 |x::r,o=>x.length=e/\RepAt μ F w g x o/\RepRows μ F w g e r (o+e)
def RepAt(μ:Mu)(F:AP)(w:World)(g:Nat):Ad->Nat->Prop
 |[],_=>True
 |x::r,o=>(F g o/\∃ u,w.cell? ⟨g,o,none⟩=some u/\Rep μ F w x u)/\RepAt μ F w g r (o+1)
def RepList(μ:Mu)(F:AP)(w:World):Ad->AI->Prop
 |[],us=>us=[]
 |x::r,us=>∃ u t,us=u::t/\Rep μ F w x u/\RepList μ F w r t
end
structure Later (μ μ':Mu) (F F':AP) (w w':World):Prop where
 mu:∀ b p,μ b=some p->μ' b=some p
 prot:∀ g o,F g o->F' g o/\w'.cell? ⟨g,o,none⟩=w.cell? ⟨g,o,none⟩
section
variable {μ μ':Mu} {F F':AP} {w w':World}
mutual
theorem Rep.later(h:Later μ μ' F F' w w'):∀(x:AV) (u:Value),Rep μ F w x u->Rep μ' F' w' x u
 |.v x,u,hx=>by simpa only[Rep]using hx
 |.ptr b o,u,hx=>by
  simp only[Rep]at hx ⊢;obtain⟨p,h1,h2⟩:=hx;exact⟨p,h.mu _ _ h1,h2⟩
 |.sl b o n e,u,hx=>by
  simp only[Rep]at hx ⊢;obtain⟨p,h1,h2⟩:=hx;exact⟨p,h.mu _ _ h1,h2⟩
 |.ls xs,u,hx=>by
  simp only[Rep]at hx ⊢;obtain⟨h0,A,c,h1,h2,h3,h4⟩:=hx;refine⟨h0,A,c,h1,h2,h3,λhne=>?_⟩;obtain⟨g,o,e,hA,hr⟩:=h4 hne;exact⟨g,o,e,hA,RepRows.later h g e xs o hr⟩
 |.lp cs,u,hx=>by
  simp only[Rep]at hx ⊢;obtain⟨h0,g,o,h1,h2⟩:=hx;exact⟨h0,g,o,h1,RepAt.later h g cs o h2⟩
 |.agg cs,u,hx=>by
  simp only[Rep]at hx ⊢;obtain⟨us,h1,h2⟩:=hx;exact⟨us,h1,RepList.later h cs _ h2⟩
 |.tup cs,u,hx=>by
  simp only[Rep]at hx ⊢;obtain⟨us,h1,h2⟩:=hx;exact⟨us,h1,RepList.later h cs _ h2⟩
 |.fn f a c,u,hx=>by
  simp only[Rep]at hx ⊢;obtain⟨ua,uc,h1,h2,h3⟩:=hx;exact⟨ua,uc,h1,RepList.later h a _ h2,RepList.later h c _ h3⟩
 |.any,_,_=>by simp only[Rep]
theorem RepRows.later(h:Later μ μ' F F' w w')(g e:Nat):∀(xs:List Ad) (o:Nat),RepRows μ F w g e xs o->RepRows μ' F' w' g e xs o
 |[],_,_=>by simp only[RepRows]
 |x::r,o,hx=>by
  simp only[RepRows]at hx ⊢;exact⟨hx.1,RepAt.later h g x o hx.2.1,RepRows.later h g e r _ hx.2.2⟩
theorem RepAt.later(h:Later μ μ' F F' w w')(g:Nat):∀(xs:Ad) (o:Nat),RepAt μ F w g xs o->RepAt μ' F' w' g xs o
 |[],_,_=>by simp only[RepAt]
 |x::r,o,hx=>by
  simp only[RepAt]at hx ⊢;obtain⟨⟨h1,u,h2,h3⟩,h4⟩:=hx;obtain⟨k1,k2⟩:=h.prot g o h1;exact⟨⟨k1,u,k2.trans h2,Rep.later h x u h3⟩,RepAt.later h g r _ h4⟩
theorem RepList.later(h:Later μ μ' F F' w w'):∀(xs:Ad) (us:AI),RepList μ F w xs us->RepList μ' F' w' xs us
 |[],us,hx=>by simpa only[RepList]using hx
 |x::r,us,hx=>by
  simp only[RepList]at hx ⊢;obtain⟨u,t,h1,h2,h3⟩:=hx;exact⟨u,t,h1,Rep.later h x u h2,RepList.later h r t h3⟩
end
end
theorem RepList.later'{μ μ':Mu}{F F':AP}{w w':World}{xs:Ad}{us:AI}(hx:RepList μ F w xs us)(h:Later μ μ' F F' w w'):RepList μ' F' w' xs us:=RepList.later h xs us hx
theorem Later.refl(μ:Mu)(F:AP)(w:World):Later μ μ F F w w:=⟨λ_ _ h=>h,λ_ _ h=>⟨h,rfl⟩⟩
theorem Later.trans{μ μ1 μ2:Mu}{F F1 F2:AP}{w w1 w2:World}(h:Later μ μ1 F F1 w w1)(k:Later μ1 μ2 F1 F2 w1 w2):Later μ μ2 F F2 w w2:=
 ⟨λb p hb=>k.mu b p (h.mu b p hb),λg o hg=>⟨(k.prot g o (h.prot g o hg).1).1,((k.prot g o (h.prot g o hg).1).2).trans (h.prot g o hg).2⟩⟩
theorem RepList.length{μ:Mu}{F:AP}{w:World}:∀{xs:Ad} {us:AI},RepList μ F w xs us->us.length=xs.length
 |[],us,h=>by simp only[RepList]at h;simp[h]
 |x::r,us,h=>by
  simp only[RepList]at h;obtain⟨u,t,rfl,_,h3⟩:=h;simp[RepList.length h3]
theorem RepList.get{μ:Mu}{F:AP}{w:World}:∀{xs:Ad} {us:AI},RepList μ F w xs us->∀{i:Nat} {x:AV},xs[i]? = some x->∃ u,us[i]? = some u/\Rep μ F w x u
 |[],us,h,i,x,hi=>by simp at hi
 |y::r,us,h,i,x,hi=>by
  simp only[RepList]at h;obtain⟨u,t,rfl,h2,h3⟩:=h
  cases i with
  |zero=>simp at hi;subst hi;exact⟨u,rfl,h2⟩
  |succ i=>simpa using RepList.get h3 (i:=i) (x:=x) (by simpa using hi)
theorem RepList.mk{μ:Mu}{F:AP}{w:World}:∀{xs:Ad} {us:AI},us.length=xs.length->(∀(i:Nat) (x:AV),xs[i]? = some x->∃ u,us[i]? = some u/\Rep μ F w x u)->RepList μ F w xs us
 |[],us,hl,_=>by simp only[RepList];exact List.length_eq_zero_iff.1 hl
 |x::r,[],hl,_=>by simp at hl
 |x::r,u::t,hl,h=>by
  simp only[RepList];refine⟨u,t,rfl,?_,RepList.mk (by simpa using hl) λi y hy=>by simpa using h (i+1) y (by simpa using hy)⟩;obtain⟨u',h1,h2⟩:=h 0 x rfl;simp at h1;subst h1;exact h2
theorem RepAt.get{μ:Mu}{F:AP}{w:World}{g:Nat}:∀{xs:Ad} {o:Nat},RepAt μ F w g xs o->∀{i:Nat} {x:AV},xs[i]? = some x->F g (o+i)/\∃ u,w.cell? ⟨g,o+i,none⟩=some u/\Rep μ F w x u
 |[],o,h,i,x,hi=>by simp at hi
 |y::r,o,h,i,x,hi=>by
  simp only[RepAt]at h
  cases i with
  |zero=>simp at hi;subst hi;exact h.1
  |succ i=>
   have:=RepAt.get h.2 (i:=i) (x:=x) (by simpa using hi)
   rwa [show o+1+i=o+(i+1) by omega]at this
theorem RepAt.mk{μ:Mu}{F:AP}{w:World}{g:Nat}:∀{xs:Ad} {o:Nat},(∀(i:Nat) (x:AV),xs[i]? = some x->F g (o+i)/\∃ u,w.cell? ⟨g,o+i,none⟩=some u/\Rep μ F w x u)->RepAt μ F w g xs o
 |[],o,_=>by simp only[RepAt]
 |x::r,o,h=>by
  simp only[RepAt];refine⟨by simpa using h 0 x rfl,RepAt.mk λi y hy=>?_⟩;have:=h (i+1) y (by simpa using hy)
  rwa [show o+(i+1)=o+1+i by omega]at this
theorem RepAt.drop{μ:Mu}{F:AP}{w:World}{g:Nat}{xs:Ad}{o:Nat}(h:RepAt μ F w g xs o)(k:Nat):RepAt μ F w g (xs.drop k) (o+k):=
 RepAt.mk λi x hx=>by
  have:=h.get (i:=k+i) (x:=x) (by simpa[Axw]using hx)
  rwa [←AwA]at this
theorem RepRows.get{μ:Mu}{F:AP}{w:World}{g e:Nat}:∀{xs:List Ad} {o:Nat},RepRows μ F w g e xs o->∀{i:Nat} {x:Ad},xs[i]? = some x->x.length=e/\RepAt μ F w g x (o+i*e)
 |[],o,h,i,x,hi=>by simp at hi
 |y::r,o,h,i,x,hi=>by
  simp only[RepRows]at h
  cases i with
  |zero=>simp at hi;subst hi;simpa using ⟨h.1,h.2.1⟩
  |succ i=>
   have:=RepRows.get h.2.2 (i:=i) (x:=x) (by simpa using hi)
   rwa [show o+e+i*e=o+(i+1)*e by rw[Axf];omega]at this
theorem RepRows.mk{μ:Mu}{F:AP}{w:World}{g e:Nat}:∀{xs:List Ad} {o:Nat},(∀(i:Nat) (x:Ad),xs[i]? = some x->x.length=e/\RepAt μ F w g x (o+i*e))->RepRows μ F w g e xs o
 |[],o,_=>by simp only[RepRows]
 |x::r,o,h=>by
  simp only[RepRows];have h0:=h 0 x rfl;refine⟨h0.1,by simpa using h0.2,RepRows.mk λi y hy=>?_⟩;have:=h (i+1) y (by simpa using hy)
  rwa [show o+(i+1)*e=o+e+i*e by rw[Axf];omega]at this
structure ABlk where
 cells:Ad
 st:Bool
 ex:Bool
def ABlk.owns(k:ABlk)(room i:Nat):Prop:=(i<k.cells.length/\k.st=true)\/(k.cells.length<=i/\i<room/\k.ex=true)
structure BRep (μ:Mu) (F:AP) (w:World) (p:Pl) (k:ABlk):Prop where
 cell:∀ i x,k.cells[i]? = some x->∃ u,w.cell? ⟨p.g,p.o+i,none⟩=some u/\Rep μ F w x u
 room:k.cells.length<=p.room
 there:∀ i,i<p.room->(∃ u,w.cell? ⟨p.g,p.o+i,none⟩=some u)/\w.frozen? ⟨p.g,p.o+i,none⟩=false
 kept:k.st=false->∀ i,i<k.cells.length->F p.g (p.o+i)
 free:∀ i,k.owns p.room i->¬ F p.g (p.o+i)
 pure:k.ex=true->A4 k.cells=true
structure HRep (μ:Mu) (F:AP) (w:World) (H:Nat->Option ABlk):Prop where
 blk:∀ b k,H b=some k->∃ p,μ b=some p/\BRep μ F w p k
 apart:∀ b b' k k' p p',b≠b'->H b=some k->H b'=some k'->μ b=some p->μ b'=some p'->∀ i i',k.owns p.room i->k'.owns p'.room i'->(p.g,p.o+i)≠(p'.g,p'.o+i')
 prot:∀ g o,F g o->g<w.heap.size
def ObjStep(F:Nat->Prop):Obj->Obj->Prop
 |.cells c e f,o'=>∃ c',o'=Obj.cells c' e f/\c'.size=c.size/\∀ j,F j->c'[j]? = c[j]?
 |o,o'=>o'=o
structure WStep (F:AP) (w w':World):Prop where
 os:w'.os=w.os
 tape:w'.tape=w.tape
 output:w'.output=w.output
 size:w.heap.size<=w'.heap.size
 obj:∀ g o,w.heap[g]? = some o->∃ o',w'.heap[g]? = some o'/\ObjStep (F g) o o'
theorem ObjStep.refl(F:Nat->Prop):∀ o,ObjStep F o o
 |.cells c _ _=>⟨c,rfl,rfl,λ_ _=>rfl⟩
 |.pending ..=>rfl
 |.view ..=>rfl
 |.number ..=>rfl
 |.map ..=>rfl
 |.chan ..=>rfl
 |.stringIter ..=>rfl
 |.mapIter ..=>rfl
 |.loop ..=>rfl
 |.deferred ..=>rfl
 |.coro ..=>rfl
 |.finalizers ..=>rfl
theorem ObjStep.trans{F G:Nat->Prop}(hs:∀ j,F j->G j):∀{o o1 o2:Obj},ObjStep F o o1->ObjStep G o1 o2->ObjStep F o o2
 |.cells c e f,o1,o2,h,k=>by
  obtain⟨c1,rfl,h2,h3⟩:=h;obtain⟨c2,rfl,k2,k3⟩:=k;exact⟨c2,rfl,k2.trans h2,λj hj=>(k3 j (hs j hj)).trans (h3 j hj)⟩
 |.pending ..,_,_,h,k=>by subst h;exact k
 |.view ..,_,_,h,k=>by subst h;exact k
 |.number ..,_,_,h,k=>by subst h;exact k
 |.map ..,_,_,h,k=>by subst h;exact k
 |.chan ..,_,_,h,k=>by subst h;exact k
 |.stringIter ..,_,_,h,k=>by subst h;exact k
 |.mapIter ..,_,_,h,k=>by subst h;exact k
 |.loop ..,_,_,h,k=>by subst h;exact k
 |.deferred ..,_,_,h,k=>by subst h;exact k
 |.coro ..,_,_,h,k=>by subst h;exact k
 |.finalizers ..,_,_,h,k=>by subst h;exact k
theorem WStep.refl(F:AP)(w:World):WStep F w w:=⟨rfl,rfl,rfl,ω _,λ_ o h=>⟨o,h,ObjStep.refl _ o⟩⟩
theorem WStep.trans{F G:AP}{w w1 w2:World}(hs:∀ g o,F g o->G g o)(h:WStep F w w1)(k:WStep G w1 w2):WStep F w w2:=by
 refine⟨k.os.trans h.os,k.tape.trans h.tape,k.output.trans h.output,Aw6 h.size k.size,λg o hg=>?_⟩;obtain⟨o1,h1,h2⟩:=h.obj g o hg;obtain⟨o2,k1,k2⟩:=k.obj g o1 h1;exact⟨o2,k1,h2.trans (hs g) k2⟩
theorem WStep.less{F G:AP}{w w1:World}(hs:∀ g o,F g o->G g o)(h:WStep G w w1):WStep F w w1:=by
 have:=WStep.trans (F:=F) (G:=G) hs (WStep.refl F w) h;exact this
theorem WStep.cell{F:AP}{w w':World}(h:WStep F w w'){g o:Nat}(hF:F g o)(hg:g<w.heap.size):w'.cell? ⟨g,o,none⟩=w.cell? ⟨g,o,none⟩:=by
 obtain⟨ob,hob⟩:∃ ob,w.heap[g]? = some ob:=⟨_,AwF hg⟩;obtain⟨ob',h1,h2⟩:=h.obj g ob hob;unfold World.cell?;simp only[hob,h1]
 cases ob<;>simp only[ObjStep]at h2
 case cells c e f=>
  obtain⟨c',rfl,_,h3⟩:=h2;simp[h3 o hF]
 all_goals (subst h2;rfl)
theorem WStep.frozen{F:AP}{w w':World}(h:WStep F w w'){a:Addr}(hg:a.block<w.heap.size):w'.frozen? a=w.frozen? a:=by
 obtain⟨ob,hob⟩:∃ ob,w.heap[a.block]? = some ob:=⟨_,AwF hg⟩;obtain⟨ob',h1,h2⟩:=h.obj a.block ob hob;unfold World.frozen?;simp only[hob,h1]
 cases ob<;>simp only[ObjStep]at h2
 case cells c e f=>
  obtain⟨c',rfl,_,h3⟩:=h2;rfl
 all_goals (subst h2;rfl)
theorem WStep.some_cell{F:AP}{w w':World}(h:WStep F w w'){g o:Nat}{u:Value}(hc:w.cell? ⟨g,o,none⟩=some u):∃ u',w'.cell? ⟨g,o,none⟩=some u':=by
 unfold World.cell? at hc ⊢
 cases ho:w.heap[g]? with
 |none=>simp[ho]at hc
 |some ob=>
  obtain⟨ob',h1,h2⟩:=h.obj g ob ho;simp only[ho]at hc;simp only[h1]
  cases ob<;>simp only[ObjStep]at h2<;>simp at hc
  case cells c e f=>
   obtain⟨c',rfl,hs,h3⟩:=h2;have:o<c.size:=(Aw9.1 hc).1;exact⟨c'[o]'(by omega),by simp[hs,this]⟩
theorem WStep.below{F:AP}{w w':World}{B:Nat}(h:WStep F w w')(hs:B<=w.heap.size)(hB:∀ g o,g<B->F g o):Below B w w':=by
 refine⟨h.os,h.tape,h.output,h.size,λk hk=>?_⟩
 cases ho:w.heap[k]? with
 |none=>
  have h1:w.heap.size<=k:=Array.getElem?_eq_none_iff.1 ho;omega
 |some ob=>
  obtain⟨ob',h1,h2⟩:=h.obj k ob ho;rw[h1]
  cases ob<;>simp only[ObjStep]at h2
  case cells c e f=>
   obtain⟨c',rfl,hs,h3⟩:=h2;have:c'=c:=Array.ext_getElem? λj=>h3 j (hB k j hk)
   rw[this]
  all_goals rw[h2]
structure AH where
 bs:List (Nat × ABlk)
 next:Nat
 top:Option Nat
def look(b:Nat):List (Nat × ABlk)->Option ABlk
 |[]=>none
 |(c,k)::r=>if c=b then some k else look b r
def Mw(b:Nat):List (Nat × ABlk)->List (Nat × ABlk)
 |[]=>[]
 |(c,k)::r=>if c=b then Mw b r else(c,k)::Mw b r
def AH.get(H:AH)(b:Nat):Option ABlk:=look b H.bs
theorem UK(b c:Nat):∀ l,look c (Mw b l)=if c=b then none else look c l
 |[]=>by simp[look,Mw]
 |(d,k)::r=>by
  have ih:=UK b c r;unfold Mw
  by_cases h:d=b
  .grind [look]
  .grind [look]
def AH.put(H:AH)(b:Nat)(k:ABlk):AH:={ H with bs:=(b,k)::Mw b H.bs }
def AH.del(H:AH)(b:Nat):AH:={ H with bs:=Mw b H.bs }
theorem AH.get_put(H:AH)(b c:Nat)(k:ABlk):(H.put b k).get c=if c=b then some k else H.get c:=by
 grind [AH.get,AH.put,look,UK]
theorem AH.get_del(H:AH)(b c:Nat):(H.del b).get c=if c=b then none else H.get c:=by
 grind [AH.del,AH.get,UK]
def AH.below(H:AH)(b:Nat):Prop:=∀ t,H.top=some t->b<t
def AH.wf(H:AH):Prop:=∀ b,H.next<=b->H.below b->H.get b=none
structure Foot where
 rd:Aj
 wr:Aj
def AM(α:Type):=AH->Option (α × AH × Foot)
namespace AM
variable {α β:Type}
def ret(a:α):AM α:=λH=>some (a,H,⟨[],[]⟩)
def fail:AM α:=λ_=>none
def bind(m:AM α)(f:α->AM β):AM β:=λH=>match m H with
 |none=>none
 |some (a,H1,f1)=>match f a H1 with
  |none=>none
  |some (b,H2,f2)=>some (b,H2,⟨f1.rd++f2.rd,f1.wr++f2.wr⟩)
def opt:Option α->AM α
 |some a=>ret a
 |none=>fail
def getB(b:Nat):AM ABlk:=λH=>match H.get b with
 |some k=>some (k,H,⟨[b],[]⟩)
 |none=>none
def setB(b:Nat)(k:ABlk):AM Unit:=λH=>match H.get b with
 |some _=>some ((),H.put b k,⟨[],[b]⟩)
 |none=>none
def delB(b:Nat):AM Unit:=λH=>match H.get b with
 |some _=>some ((),H.del b,⟨[],[b]⟩)
 |none=>none
def newB(k:ABlk):AM Nat:=λH=>match H.top with
 |none=>some (H.next,⟨(H.next,k)::H.bs,H.next+1,H.top⟩,⟨[],[H.next]⟩)
 |some t=>if H.next<t then some (H.next,⟨(H.next,k)::H.bs,H.next+1,H.top⟩,⟨[],[H.next]⟩) else none
end AM
theorem FH{k:ABlk}{H:AH}{r:Nat × AH × Foot}(h:AM.newB k H=some r):H.below H.next/\r=(H.next,⟨(H.next,k)::H.bs,H.next+1,H.top⟩,⟨[],[H.next]⟩):=by
 grind [AH.below,AM.newB]
theorem Aks{k:ABlk}{H:AH}(h:H.below H.next):AM.newB k H=some (H.next,⟨(H.next,k)::H.bs,H.next+1,H.top⟩,⟨[],[H.next]⟩):=by
 unfold AM.newB
 cases ht:H.top with
 |none=>rfl
 |some t=>simp only;rw[Ac (h t ht)]
structure LocAt {α:Type} (m:AM α) (H:AH) (a:α) (H':AH) (ft:Foot):Prop where
 next:H.next<=H'.next
 top:H'.top=H.top
 fit:∀ b,b<H'.next->H.next<=b->H.below b
 wf:H'.wf
 new:∀ b,H.next<=b->b<H'.next->b∈ft.wr
 bound:∀ b,b∈ft.rd\/b∈ft.wr->H'.next<=b->¬ H.below b
 same:∀ b,b∉ft.wr->H'.get b=H.get b
 move:∀ K:AH,K.next=H.next->(∀ b,H.next<=b->b<H'.next->K.below b)->(∀ b,b∈ft.rd\/b∈ft.wr->(b<H.next\/H'.next<=b)->K.get b=H.get b)->
  ∃ K',m K=some (a,K',ft)/\K'.next=H'.next/\K'.top=K.top/\∀ b,K'.get b=if b∈ft.wr then H'.get b else K.get b
def Loc{α:Type}(m:AM α):Prop:=∀ H a H' ft,H.wf->m H=some (a,H',ft)->LocAt m H a H' ft
section
variable {α β:Type}
theorem Loc.ret(a:α):Loc (AM.ret a):=λH a' H' ft hw h=>by
 simp only[AM.ret,δ,Prod.mk.injEq]at h;obtain⟨rfl,rfl,rfl⟩:=h;refine⟨ω _,rfl,λb h1 h2=>by omega,hw,λb h1 h2=>by omega,λb hb=>by simp at hb,λ_ _=>rfl,λK hn _ _=>⟨K,rfl,hn,rfl,λb=>by simp⟩⟩
theorem Loc.fail:Loc (AM.fail:AM α):=λH a' H' ft _ h=>by simp[AM.fail]at h
theorem Loc.opt:∀ o:Option α,Loc (AM.opt o)
 |some a=>Loc.ret a
 |none=>Loc.fail
theorem Loc.bind{m:AM α}{f:α->AM β}(hm:Loc m)(hf:∀ a,Loc (f a)):Loc (m.bind f):=λH b H2 ft hw h=>by
 unfold AM.bind at h
 cases e1:m H with
 |none=>simp[e1]at h
 |some r1=>
  obtain⟨a,H1,f1⟩:=r1;simp only[e1]at h
  cases e2:f a H1 with
  |none=>simp[e2]at h
  |some r2=>
   obtain⟨b',H2',f2⟩:=r2;simp only[e2,δ,Prod.mk.injEq]at h;obtain⟨rfl,rfl,rfl⟩:=h;have L1:=hm H a H1 f1 hw e1;have L2:=hf a H1 b' H2' f2 L1.wf e2;have hbel:∀ b,H1.below b ↔ H.below b:=λb=>by unfold AH.below;rw[L1.top]
   refine⟨Aw6 L1.next L2.next,L2.top.trans L1.top,λb h1 h2=>?_,L2.wf,λb h1 h2=>?_,λb hb hn=>?_,λb hb=>?_,λK hn hfit hag=>?_⟩
   .rcases AwM b H1.next with h3|h3
    .exact L1.fit b h3 h2
    .exact(hbel b).1 (L2.fit b h1 h3)
   .simp only[Aw1]
    rcases AwM b H1.next with h3|h3
    .exact .inl (L1.new b h1 h3)
    .exact .inr (L2.new b h3 h2)
   .simp only[Aw1]at hb
    have:(b∈f1.rd\/b∈f1.wr)\/(b∈f2.rd\/b∈f2.wr):=by rcases hb with (h|h) | (h|h)<;>simp[h]
    rcases this with h|h
    .exact L1.bound b h (Aw6 L2.next hn)
    .rw[←hbel];exact L2.bound b h hn
   .simp only[Aw1,not_or]at hb
    rw[L2.same b hb.2,L1.same b hb.1]
   .have hL:=L1.next
    have hR:=L2.next;obtain⟨K1,k1,k2,k3,k4⟩:=L1.move K hn (λb h1 h2=>hfit b h1 (by omega)) (λb hb hr=>by
     refine hag b (by simp only[Aw1];rcases hb with h|h<;>simp[h]) ?_;rcases hr with h|h
     .exact .inl h
     .rcases AwM b H2'.next with h3|h3
      .exact absurd (L2.fit b h3 h) (by rw[hbel];exact L1.bound b hb h)
      .exact .inr h3)
    obtain⟨K2,j1,j2,j3,j4⟩:=L2.move K1 k2 (λb h1 h2=>by unfold AH.below;rw[k3];exact hfit b (by omega) h2) (λb hb hr=>by
     rw[k4]
     by_cases hw1:b∈f1.wr
     .rw[Ac hw1]
     .rw[Ab hw1,L1.same b hw1]
      refine hag b (by simp only[Aw1];rcases hb with h|h<;>simp[h]) ?_;rcases hr with h|h
      .rcases AwM b H.next with h3|h3
       .exact .inl h3
       .exact absurd (L1.new b h3 h) hw1
      .exact .inr h)
    refine⟨K2,?_,j2,j3.trans k3,λb=>?_⟩
    .grind [AM.bind]
    .rw[j4,k4]
     simp only[Aw1]
     by_cases h2:b∈f2.wr
     .simp[h2]
     .by_cases h1:b∈f1.wr
      .simp[h1,h2,L2.same b h2]
      .simp[h1,h2]
theorem Loc.getB(b:Nat):Loc (AM.getB b):=λH a H' ft hw h=>by
 unfold AM.getB at h
 cases e:H.get b with
 |none=>simp[e]at h
 |some k=>
  simp only[e,δ,Prod.mk.injEq]at h;obtain⟨rfl,rfl,rfl⟩:=h;refine⟨ω _,rfl,λb h1 h2=>by omega,hw,λb h1 h2=>by omega,λc hb hn hbl=>?_,λ_ _=>rfl,λK hn _ hag=>⟨K,?_,hn,rfl,λb=>by simp⟩⟩
  .simp at hb
   subst hb;rw[hw c hn hbl]at e
   cases e
  .grind [AM.getB]
theorem Loc.setB(b:Nat)(k:ABlk):Loc (AM.setB b k):=λH a H' ft hw h=>by
 unfold AM.setB at h
 cases e:H.get b with
 |none=>simp[e]at h
 |some k0=>
  simp only[e,δ,Prod.mk.injEq]at h;obtain⟨_,rfl,rfl⟩:=h;have hb:H.next<=b->H.below b->False:=λh1 h2=>by rw[hw b h1 h2]at e;cases e
  refine⟨ω _,rfl,λb h1 h2=>by have:(H.put b k).next=H.next:=rfl;have:b<H.next:=h1;omega,λc h1 h2=>?_,λc h1 h2=>?_,λc hc hn hbl=>?_,λc hc=>?_,λK hn _ hag=>⟨K.put b k,?_,hn,rfl,λc=>?_⟩⟩
  .rw[AH.get_put]
   by_cases hcb:c=b
   .subst hcb;exact absurd h2 (λh=>hb h1 h)
   .rw[Ab hcb];exact hw c h1 h2
  .have:c<H.next:=h2
   omega
  .simp at hc;subst hc;exact hb hn hbl
  .simp_all [AH.get_put,Ab]
  .unfold AM.setB
   have:K.get b=some k0:=by
    rw[hag b (by simp) (by have:(H.put b k).next=H.next:=rfl;omega)];exact e
   rw[this]
  .grind [AH.get_put]
theorem Loc.delB(b:Nat):Loc (AM.delB b):=λH a H' ft hw h=>by
 unfold AM.delB at h
 cases e:H.get b with
 |none=>simp[e]at h
 |some k0=>
  simp only[e,δ,Prod.mk.injEq]at h;obtain⟨_,rfl,rfl⟩:=h;have hb:H.next<=b->H.below b->False:=λh1 h2=>by rw[hw b h1 h2]at e;cases e
  refine⟨ω _,rfl,λb h1 h2=>by have:b<H.next:=h1;omega,λc h1 h2=>?_,λc h1 h2=>?_,λc hc hn hbl=>?_,λc hc=>?_,λK hn _ hag=>⟨K.del b,?_,hn,rfl,λc=>?_⟩⟩
  .rw[AH.get_del]
   by_cases hcb:c=b
   .rw[Ac hcb]
   .rw[Ab hcb];exact hw c h1 h2
  .have:c<H.next:=h2
   omega
  .simp at hc;subst hc;exact hb hn hbl
  .simp_all [AH.get_del,Ab]
  .unfold AM.delB
   have:K.get b=some k0:=by
    rw[hag b (by simp) (by have:(H.del b).next=H.next:=rfl;omega)];exact e
   rw[this]
  .grind [AH.get_del]
theorem FA(c:Nat)(k:ABlk)(H:AH)(n:Nat)(t:Option Nat)(b:Nat):AH.get ⟨(c,k)::H.bs,n,t⟩ b=if b=c then some k else H.get b:=by
 grind [AH.get,look]
theorem Loc.newB(k:ABlk):Loc (AM.newB k):=λH a H' ft hw h=>by
 obtain⟨hb,hr⟩:=FH h;simp only[Prod.mk.injEq]at hr;obtain⟨rfl,rfl,rfl⟩:=hr;refine⟨Nat.le_succ _,rfl,λb h1 h2=>?_,λc h1 h2=>?_,λc h1 h2=>?_,λc hc hn=>?_,λc hc=>?_,λK hn hfit hag=>?_⟩
 .grind
 .have h1':H.next+1<=c:=h1
  rw[FA,Ab (by omega)];exact hw c (by omega) h2
 .grind
 .grind
 .simp_all [FA,Ab]
 .simp_all [ω,Nat.lt_succ_self,FA,Aks]
theorem Loc.ite{c:Prop}[Decidable c]{m m':AM α}(h:Loc m)(h':Loc m'):Loc (if c then m else m'):=by
 split
 .exact h
 .exact h'
end
def Az{α:Type}(P:Program):Sem α->Option α
 |.pure a=>some a
 |.program k=>Az P (k P)
 |_=>none
theorem J7{α:Type}{P:Program}:∀(s:Sem α) {a:α},Az P s=some a->∀ w,s.run P w=.ok a w
 |.pure a,_,h,w=>by simp only[Az,δ]at h;subst h;rfl
 |.program k,_,h,w=>by simp only[Az]at h;exact J7 (k P) h w
 |.load ..,_,h,_=>by simp[Az]at h
 |.store ..,_,h,_=>by simp[Az]at h
 |.new ..,_,h,_=>by simp[Az]at h
 |.shape ..,_,h,_=>by simp[Az]at h
 |.freeze ..,_,h,_=>by simp[Az]at h
 |.frozen ..,_,h,_=>by simp[Az]at h
 |.getObj ..,_,h,_=>by simp[Az]at h
 |.setObj ..,_,h,_=>by simp[Az]at h
 |.choose ..,_,h,_=>by simp[Az]at h
 |.sys ..,_,h,_=>by simp[Az]at h
 |.mark ..,_,h,_=>by simp[Az]at h
 |.halt ..,_,h,_=>by simp[Az]at h
def AV.undef:AV:=.v Go.undef
def FI:Value->AV
 |.agg cs=>if cs.toList.all OG=true then .agg (cs.toList.map .v) else .any
 |x=>.v x
def AV.val:AV->Option Value
 |.v x=>some x
 |_=>none
def Jx:Ad->Option (AI)
 |[]=>some []
 |.v x::r=>match Jx r with
  |some l=>some (x::l)
  |none=>none
 |_::_=>none
def AV.toVal:AV->Option Value
 |.v x=>some x
 |.agg cs=>match Jx cs with
  |some l=>some (.agg l.toArray)
  |none=>none
 |_=>none
def AV.cells:AV->Ad
 |.agg cs=>cs
 |x=>[x]
def AV.one:AV->Bool
 |.agg _=>false
 |.tup _=>false
 |.any=>false
 |.v x=>x.oneCell'
 |_=>true
def Jn:AV->Bool
 |.tup _=>true
 |.any=>true
 |_=>false
def Bq(l:Ad)(o:Nat)(xs:Ad):Ad:=l.take o++xs++l.drop (o+xs.length)
section
variable (P:Program)
def Eg(t:TypeId):Option Nat:=(P.info? t).map (·.size)
def Agk(d:TypeDesc):Bool:=match d with
 |.struct _=>true
 |.array _ _=>true
 |_=>false
def Cs(t:TypeId):Option Bool:=(P.underlying t).map Agk
def Dq(t:TypeId):Option Value:=match P.info? t with
 |some i=>(match i.zero with
  |some z=>if z.cells.toList.all OG=true then some z else none
  |none=>none)
 |none=>none
def rdAt(a:AV)(n:Nat):AM Ad:=match a with
 |.ptr b o=>(AM.getB b).bind λk=>if o+n<=k.cells.length then AM.ret ((k.cells.drop o).take n) else AM.fail
 |.lp cs=>if n<=cs.length then AM.ret (cs.take n) else AM.fail
 |_=>AM.fail
def ZI:Ad->Option AV
 |[x]=>some x
 |_=>none
def loadA(t:TypeId)(a:AV):AM AV:=match Cs P t,Eg P t with
 |some true,some n=>(rdAt a n).bind λcs=>AM.ret (.agg cs)
 |some false,_=>(rdAt a 1).bind λcs=>AM.opt (ZI cs)
 |_,_=>AM.fail
def storeA(t:TypeId)(a x:AV):AM AV:=match a,Eg P t with
 |.ptr b o,some n=>
  if x.cells.length=n/\x.cells.all AV.one=true then
   (AM.getB b).bind λk=>if k.st=true/\o+n<=k.cells.length/\(!k.ex||A4 x.cells)=true then(AM.setB b { k with cells:=Bq k.cells o x.cells }).bind λ_=>AM.ret AV.undef else AM.fail
  else AM.fail
 |_,_=>AM.fail
def allocA(t:TypeId):AM AV:=match Dq P t with
 |some z=>(AM.newB ⟨z.cells.toList.map .v,true,false⟩).bind λb=>AM.ret (.ptr b 0)
 |none=>AM.fail
def boxA(x:AV):AM AV:=if Jn x=true then AM.fail else(AM.newB ⟨x.cells,true,false⟩).bind λb=>AM.ret (.ptr b 0)
def MR(x:AV)(i:Nat):Option AV:=match x with
 |.tup vs=>vs[i]?
 |_=>none
def Tl(t:TypeId)(cs:Ad)(off:Nat):Option AV:=match Cs P t,Eg P t with
 |some true,some n=>some (.agg ((cs.drop off).take n))
 |some false,_=>cs[off]?
 |_,_=>none
def C6(t:TypeId):Option (Array Field):=match P.underlying t with
 |some (.struct fs)=>some fs
 |_=>none
def Cz(t:TypeId):Option TypeId:=match P.underlying t with
 |some (.slice e)=>some e
 |_=>none
def Qn(t:TypeId)(x:AV)(f:Nat):Option AV:=match x,C6 P t with
 |.agg cs,some fs=>match fs[f]? with
  |some fd=>Tl P fd.type cs fd.offset
  |none=>none
 |_,_=>none
def QU(a:AV)(n:Nat):Option AV:=match a with
 |.ptr b o=>some (.ptr b (o+n))
 |.lp cs=>some (.lp (cs.drop n))
 |_=>none
def IS(t:TypeId)(a:AV)(f:Nat):Option AV:=match C6 P t with
 |some fs=>match fs[f]? with
  |some fd=>match Eg P fd.type with
   |some (_+1)=>QU a fd.offset
   |_=>none
  |none=>none
 |none=>none
def AV.idx:AV->Option Nat
 |.v (.int _ (.ofNat i))=>some i
 |_=>none
def Er(t:TypeId)(x ix:AV):Option AV:=match x,ix.idx,Cz P t with
 |.sl b o n e,some i,some et=>if i<n/\Eg P et=some e then some (.ptr b (o+i*e)) else none
 |.ls xs,some i,some et=>match xs[i]? with
  |some cs=>if Eg P et=some cs.length then some (.lp cs) else none
  |none=>none
 |_,_,_=>none
def Fh(n:Nat):Option AV->Option Nat
 |some x=>x.idx
 |none=>some n
def Mq(t:TypeId)(x:AV)(lo hi:Option AV):Option AV:=match x,Cz P t with
 |.sl b o n e,some et=>match Fh 0 lo,Fh n hi with
  |some l,some h=>if l<=h/\h<=n/\Eg P et=some e then some (.sl b (o+l*e) (h-l) e) else none
  |_,_=>none
 |.ls xs,some et=>match Fh 0 lo,Fh xs.length hi with
  |some l,some h=>if l<=h/\h<=xs.length/\(Eg P et).isSome=true/\(xs.all λcs=>Eg P et == some cs.length)=true then some (.ls ((xs.take h).drop l)) else none
  |_,_=>none
 |_,_=>none
def Aif(off:Nat)(cells:Ad)(vs:Ad):Ad:=vs.zipIdx.foldl (λcs p=>cs.set (off+p.2) p.1) cells
def Gw(place:Nat->Option (Nat × Nat))(cells:Ad):List (Nat × AV)->Option Ad
 |[]=>some cells
 |(i,v)::rest=>match place i with
  |none=>none
  |some (off,size)=>if v.cells.length≠size\/off+v.cells.length > cells.length then none else Gw place (Aif off cells v.cells) rest
def KY(fs:List Field):Option (List (Nat × Nat)):=fs.mapM (λf=>(P.info? f.type).map λi=>(f.offset,i.size))
def PA(t:TypeId)(ps:List (Nat × AV)):Option AV:=match Dq P t,C6 P t with
 |some z,some fs=>match KY P fs.toList with
  |some pl=>if ps.any (λp=>Jn p.2) then none else(Gw (pl[·]?) (z.cells.toList.map .v) ps).map .agg
  |none=>none
 |_,_=>none
def P6(t:TypeId):Option TypeId:=match P.underlying t with
 |some (.array _ e)=>some e
 |_=>none
def Pz(t:TypeId)(ps:List (Nat × AV)):Option AV:=match Dq P t,P6 P t with
 |some z,some et=>match Eg P et with
  |some e=>if ps.any (λp=>Jn p.2) then none else(Gw (λi=>some (i*e,e)) (z.cells.toList.map .v) ps).map .agg
  |none=>none
 |_,_=>none
def LQ(t:TypeId)(ps:List (Nat × AV)):Option AV:=match C6 P t with
 |some _=>PA P t ps
 |none=>Pz P t ps
def Cx(z:Ad)(n:Nat):Ad:=(List.range n).map λi=>(z[i % z.length]?).getD (.v default)
def buildSliceA(t:TypeId)(n:Nat)(ps:List (Nat × AV)):AM AV:=match Cz P t with
 |some et=>match Eg P et,Dq P et with
  |some e,some z=>
   if n*e<=16777216/\n<=maxLen/\ps.any (λp=>Jn p.2)=false then
    match Gw (λi=>some (i*e,e)) (Cx (z.cells.toList.map .v) (n*e)) ps with
    |some cs=>if A4 cs=true then(AM.newB ⟨cs,true,true⟩).bind λb=>AM.ret (.sl b 0 n e) else(AM.newB ⟨cs,true,false⟩).bind λb=>AM.ret (.sl b 0 n e)
    |none=>AM.fail
   else AM.fail
  |_,_=>AM.fail
 |none=>AM.fail
def Aj6(x:AV):Option AV:=match x with
 |.sl _ _ n _=>some (.v (.int .i64 n))
 |.ls xs=>some (.v (.int .i64 xs.length))
 |_=>none
end
theorem Rep.one{μ:Mu}{F:AP}{w:World}:∀{x:AV} {u:Value},Rep μ F w x u->x.one=true->u.oneCell'=true
 |.v y,u,h,h1=>by simp only[Rep]at h;rw[h.1];exact h1
 |.ptr b o,u,h,_=>by simp only[Rep]at h;obtain⟨p,_,rfl⟩:=h;rfl
 |.sl b o n e,u,h,_=>by
  simp only[Rep]at h;obtain⟨p,_,⟨_,rfl⟩|⟨q,c,rfl,_⟩⟩:=h
  .rfl
  .rfl
 |.ls xs,u,h,_=>by simp only[Rep]at h;obtain⟨_,A,c,rfl,_⟩:=h;rfl
 |.lp cs,u,h,_=>by simp only[Rep]at h;obtain⟨_,g,o,rfl,_⟩:=h;rfl
 |.agg cs,u,_,h1=>by simp[AV.one]at h1
 |.tup cs,u,_,h1=>by simp[AV.one]at h1
 |.any,u,_,h1=>by simp[AV.one]at h1
 |.fn f a c,u,h,_=>by simp only[Rep]at h;obtain⟨ua,uc,rfl,_⟩:=h;rfl
theorem Rep.cells{μ:Mu}{F:AP}{w:World}:∀{x:AV} {u:Value},Rep μ F w x u->Jn x=false->RepList μ F w x.cells u.cells.toList
 |.v y,u,h,_=>by
  have h':=h;simp only[Rep]at h;obtain⟨rfl,hf⟩:=h
  cases u<;>simp only[OG,Awx]at hf<;>exact RepList.mk rfl λi x hx=>by
   cases i with
   |zero=>simp[AV.cells]at hx;subst hx;exact⟨_,rfl,h'⟩
   |succ i=>simp[AV.cells]at hx
 |.ptr b o,u,h,_=>by
  have h':=h;simp only[Rep]at h;obtain⟨p,_,rfl⟩:=h;exact RepList.mk rfl λi x hx=>by
   cases i with
   |zero=>simp[AV.cells]at hx;subst hx;exact⟨_,rfl,h'⟩
   |succ i=>simp[AV.cells]at hx
 |.sl b o n e,u,h,_=>by
  have h':=h;simp only[Rep]at h;obtain⟨p,_,⟨_,rfl⟩|⟨q,c,rfl,_⟩⟩:=h
  .exact RepList.mk rfl λi x hx=>by
    cases i with
    |zero=>simp[AV.cells]at hx;subst hx;exact⟨_,rfl,h'⟩
    |succ i=>simp[AV.cells]at hx
  .exact RepList.mk rfl λi x hx=>by
    cases i with
    |zero=>simp[AV.cells]at hx;subst hx;exact⟨_,rfl,h'⟩
    |succ i=>simp[AV.cells]at hx
 |.ls xs,u,h,_=>by
  have h':=h;simp only[Rep]at h;obtain⟨_,A,c,rfl,_⟩:=h;exact RepList.mk rfl λi x hx=>by
   cases i with
   |zero=>simp[AV.cells]at hx;subst hx;exact⟨_,rfl,h'⟩
   |succ i=>simp[AV.cells]at hx
 |.lp cs,u,h,_=>by
  have h':=h;simp only[Rep]at h;obtain⟨_,g,o,rfl,_⟩:=h;exact RepList.mk rfl λi x hx=>by
   cases i with
   |zero=>simp[AV.cells]at hx;subst hx;exact⟨_,rfl,h'⟩
   |succ i=>simp[AV.cells]at hx
 |.agg cs,u,h,_=>by
  simp only[Rep]at h;obtain⟨us,rfl,h2⟩:=h;exact h2
 |.tup cs,u,_,h1=>by simp[Jn]at h1
 |.any,u,_,h1=>by simp[Jn]at h1
 |.fn f a c,u,h,_=>by
  have h':=h;simp only[Rep]at h;obtain⟨ua,uc,rfl,_⟩:=h;exact RepList.mk rfl λi x hx=>by
   cases i with
   |zero=>simp[AV.cells]at hx;subst hx;exact⟨_,rfl,h'⟩
   |succ i=>simp[AV.cells]at hx
section
variable {μ μ':Mu} {F F':AP} {w w':World} {p:Pl} {k:ABlk}
theorem BRep.lt(h:BRep μ F w p k){i:Nat}(hi:i<p.room):p.g<w.heap.size:=by
 obtain⟨⟨u,hu⟩,_⟩:=h.there i hi;rcases AwM p.g w.heap.size with h|h
 .exact h
 .simp[World.cell?,Axr h]at hu
theorem BRep.step(h:BRep μ F w p k)(hl:Later μ μ' F F' w w')(hs:WStep F w w')
  (hc:∀ i,i<k.cells.length->¬ F p.g (p.o+i)->w'.cell? ⟨p.g,p.o+i,none⟩=w.cell? ⟨p.g,p.o+i,none⟩)
  (hf:∀ i,k.owns p.room i->¬ F' p.g (p.o+i)):BRep μ' F' w' p k:=by
 refine⟨λi x hx=>?_,h.room,λi hi=>?_,λhst i hi=>(hl.prot _ _ (h.kept hst i hi)).1,hf,h.pure⟩
 .obtain⟨u,h1,h2⟩:=h.cell i x hx
  have hi:i<k.cells.length:=(AwQ.1 hx).1;refine⟨u,?_,Rep.later hl x u h2⟩
  by_cases hF:F p.g (p.o+i)
  .rw[(hl.prot _ _ hF).2];exact h1
  .rw[hc i hi hF];exact h1
 .obtain⟨⟨u,hu⟩,h2⟩:=h.there i hi
  exact⟨hs.some_cell hu,by rw[hs.frozen (h.lt hi)];exact h2⟩
theorem En{g o:Nat}{u:Value}(h:w.cell? ⟨g,o,none⟩=some u):g<w.heap.size:=by
 rcases AwM g w.heap.size with h' | h'
 .exact h'
 .simp[World.cell?,Axr h']at h
theorem WStep.alloc(F:AP)(w:World)(o:Obj):WStep F w (w.alloc o):=by
 refine⟨rfl,rfl,rfl,by rw[World.size_alloc];omega,λg ob hg=>⟨ob,?_,ObjStep.refl _ _⟩⟩;have hlt:g<w.heap.size:=(Aw9.1 hg).1;rw[Below.heap_alloc w o g hlt];exact hg
theorem P4(w:World)(o:Obj){g i:Nat}(h:g<w.heap.size):(w.alloc o).cell? ⟨g,i,none⟩=w.cell? ⟨g,i,none⟩:=by
 unfold World.cell?;rw[Below.heap_alloc w o g h]
theorem Xb(w:World)(cs:Array Value)(t:TypeId)(fr:Nat × Nat)(i:Nat):(w.alloc (.cells cs t fr)).cell? ⟨w.heap.size,i,none⟩=cs[i]?:=by
 unfold World.cell?;rw[heap_alloc_new];simp
def Mu.set(μ:Mu)(b:Nat)(p:Pl):Mu:=λc=>if c=b then some p else μ c
theorem WC{H:Nat->Option ABlk}(h:HRep μ F w H){b:Nat}(hb:μ b=none)(cells:Ad)(arr:Array Value)(t:TypeId)(fr:Nat × Nat)(ex:Bool)(hfr:arr.size<=fr.1\/fr.2=0)
  (hlen:cells.length<=arr.size) (hc:RepList μ F w cells (arr.toList.take cells.length)) (hpu:ex=true->A4 cells=true) :
  HRep (μ.set b ⟨w.heap.size,0,arr.size⟩) F (w.alloc (.cells arr t fr)) (λc=>if c=b then some ⟨cells,true,ex⟩ else H c)/\Later μ (μ.set b ⟨w.heap.size,0,arr.size⟩) F F w (w.alloc (.cells arr t fr)):=by
 have hH:H b=none:=by
  cases e:H b with
  |none=>rfl
  |some k=>obtain⟨p,hp,_⟩:=h.blk b k e;rw[hb]at hp;cases hp
 have hl:Later μ (μ.set b ⟨w.heap.size,0,arr.size⟩) F F w (w.alloc (.cells arr t fr)):=by
  refine⟨λc p hp=>?_,λg o hF=>⟨hF,P4 _ _ (h.prot g o hF)⟩⟩;unfold Mu.set
  by_cases e:c=b
  .grind
  .rw[Ab e];exact hp
 have hnew:∀ i,¬ F w.heap.size i:=λi hF=>by have:=h.prot _ _ hF;omega
 refine⟨⟨λc k hk=>?_,λc c' k k' p p' hne hk hk' hp hp' i i' ho ho'=>?_,λg o hF=>?_⟩,hl⟩
 .by_cases e:c=b
  .subst e
   rw[Ac rfl]at hk;simp only[δ]at hk;subst hk;refine⟨⟨w.heap.size,0,arr.size⟩,by simp[Mu.set],⟨λi x hx=>?_,hlen,λi hi=>⟨?_,?_⟩,λhst=>(by simp at hst),λi _=>(by simpa using hnew i),hpu⟩⟩
   .obtain⟨u,h1,h2⟩:=hc.get hx
    have hi:i<cells.length:=(AwQ.1 hx).1;refine⟨u,?_,Rep.later hl x u h2⟩;simp only[AwJ];rw[Xb];rw[List.getElem?_take_of_lt hi]at h1;simpa using h1
   .simp_all [AwJ,Xb]
   .unfold World.frozen?
    simp only[AwJ];rw[heap_alloc_new];simp only[Bool.and_eq_false_iff,decide_eq_false_iff_not];have hi':i<arr.size:=hi;omega
  .rw[Ab e]at hk
   obtain⟨p,hp,hB⟩:=h.blk c k hk;refine⟨p,hl.mu _ _ hp,hB.step hl (WStep.alloc _ _ _) (λi hi _=>?_) hB.free⟩;exact P4 _ _ (hB.lt (Axs hi hB.room))
 .have key:∀{c:Nat} {k:ABlk} {p:Pl},c≠b->(if c=b then some (⟨cells,true,ex⟩:ABlk) else H c)=some k->(μ.set b ⟨w.heap.size,0,arr.size⟩) c=some p->H c=some k/\μ c=some p:=by
   grind [Mu.set]
  have kb:∀{k:ABlk} {p:Pl},(μ.set b ⟨w.heap.size,0,arr.size⟩) b=some p->p=⟨w.heap.size,0,arr.size⟩:=by
   intro k p h2;unfold Mu.set at h2;rw[Ac rfl]at h2;exact(Option.some.inj h2).symm
  have low:∀{c:Nat} {k:ABlk} {p:Pl} {i:Nat},H c=some k->μ c=some p->k.owns p.room i->p.g<w.heap.size:=by
   intro c k p i h1 h2 ho;obtain⟨q,hq,hB⟩:=h.blk c k h1;rw[h2]at hq
   cases hq
   refine hB.lt (i:=i) ?_;rcases ho with⟨h,_⟩|⟨_,h,_⟩
   .exact Axs h hB.room
   .exact h
  by_cases e:c=b
  .subst e
   have:=kb (k:=k) hp;subst this;obtain⟨k1,k2⟩:=key (λe=>hne e.symm) hk' hp';have:=low k1 k2 ho';intro he;simp only[Prod.mk.injEq]at he;omega
  .obtain⟨k1,k2⟩:=key e hk hp
   by_cases e':c'=b
   .subst e'
    have:=kb (k:=k') hp';subst this;have:=low k1 k2 ho;intro he;simp only[Prod.mk.injEq]at he;omega
   .obtain⟨j1,j2⟩:=key e' hk' hp'
    exact h.apart c c' k k' p p' hne k1 j1 k2 j2 i i' ho ho'
 .have:=h.prot g o hF
  rw[World.size_alloc];omega
theorem Z0(l:Ad)(o:Nat)(xs:Ad)(h:o+xs.length<=l.length)(i:Nat):(Bq l o xs)[i]? = if o<=i/\i<o+xs.length then xs[i-o]? else l[i]?:=by
 unfold Bq;rw[Awr]
 by_cases h1:i<o
 .grind
 .grind
theorem Hy(l:Ad)(o:Nat)(xs:Ad)(h:o+xs.length<=l.length):(Bq l o xs).length=l.length:=by
 unfold Bq;simp;omega
theorem Vb(g:Nat)(vs:AI):∀(o:Nat) (w:World) (k:Nat) (ob:Obj),w.heap[k]? = some ob->∃ ob',(w.setCells g o vs).heap[k]? = some ob'/\ObjStep (λj=>k=g->j<o\/o+vs.length<=j) ob ob':=by
 induction vs with
 |nil=>exact λo w k ob h=>⟨ob,h,ObjStep.refl _ _⟩
 |cons v r ih=>
  intro o w k ob h;have h1:∃ ob1,(w.setCell ⟨g,o,none⟩ v).heap[k]? = some ob1/\ObjStep (λj=>k=g->j<o\/o+(v::r).length<=j) ob ob1:=by
   by_cases e:k=g
   .subst e
    have hk:(w.setCell ⟨k,o,none⟩ v).heap[k]? = some (match ob with | .cells c e f=>.cells (c.setIfInBounds o v) e f|x=>x):=by
     simp only[World.setCell,Array.getElem?_modify,if_true,h,AwE]
     cases ob<;>simp
    refine⟨_,hk,?_⟩
    cases ob<;>simp only[ObjStep]
    case cells c e f=>
     refine⟨_,rfl,by simp,λj hj=>?_⟩;have:=hj trivial;simp only[π]at this;rw[Array.getElem?_setIfInBounds,Ab (by omega)]
   .grind [Below.heap_setCell,ObjStep.refl]
  obtain⟨ob1,k1,k2⟩:=h1;obtain⟨ob2,j1,j2⟩:=ih (o+1) (w.setCell ⟨g,o,none⟩ v) k ob1 k1;refine⟨ob2,j1,k2.trans (λj hj he=>?_) j2⟩;have:=hj he;simp only[π]at this;omega
theorem Fw(g:Nat):∀(vs:AI) (o:Nat) (w:World),(w.setCells g o vs).heap.size=w.heap.size
 |[],_,_=>rfl
 |v::r,o,w=>by rw[World.setCells,Fw g r];simp[World.setCell]
theorem LC(g:Nat):∀(vs:AI) (o:Nat) (w:World),(w.setCells g o vs).os=w.os/\(w.setCells g o vs).tape=w.tape/\(w.setCells g o vs).output=w.output
 |[],_,_=>⟨rfl,rfl,rfl⟩
 |v::r,o,w=>by rw[World.setCells];exact LC g r _ _
theorem WStep.setCells{w:World}{g o:Nat}{vs:AI}(hF:∀ j,j<vs.length->¬ F g (o+j)):WStep F w (w.setCells g o vs):=by
 obtain⟨h1,h2,h3⟩:=LC g vs o w;refine⟨h1,h2,h3,by rw[Fw];exact ω _,λk ob hk=>?_⟩;obtain⟨ob',k1,k2⟩:=Vb g vs o w k ob hk;refine⟨ob',k1,?_⟩;have:=ObjStep.trans (F:=F k) (λj (hj:F k j)=>(λ(he:k=g)=>by
  subst he;rcases AwM j o with h|h
  .exact .inl h
  .rcases AwM j (o+vs.length) with h' | h'
   .exact absurd hj (by have:=hF (j-o) (by omega);rwa [show o+(j-o)=j by omega]at this)
   .exact .inr h':k=g->j<o\/o+vs.length<=j)) (ObjStep.refl (F k) ob) k2
 exact this
theorem US{l xs:Ad}(h1:A4 l=true)(h2:A4 xs=true)(o:Nat):A4 (Bq l o xs)=true:=by
 rw[BN]at *;simp only[Awu]at *;intro x hx;unfold Bq at hx;simp only[Aw1]at hx;rcases hx with (hx|hx) | hx
 .exact h1 x (AxK hx)
 .exact h2 x hx
 .exact h1 x (Axq hx)
theorem QB{H:Nat->Option ABlk}(h:HRep μ F w H){b:Nat}{k:ABlk}{p:Pl}(hk:H b=some k)(hp:μ b=some p)(hst:k.st=true)(o:Nat)(xs:Ad)(us:AI)
  (hlen:o+xs.length<=k.cells.length) (hr:RepList μ F w xs us) (hpu:k.ex=true->A4 xs=true) :
  HRep μ F (w.setCells p.g (p.o+o) us) (λc=>if c=b then some { k with cells:=Bq k.cells o xs } else H c)/\Later μ μ F F w (w.setCells p.g (p.o+o) us)/\WStep F w (w.setCells p.g (p.o+o) us):=by
 have hul:=hr.length;obtain⟨p',hp',hB⟩:=h.blk b k hk;rw[hp]at hp'
 cases hp'
 have hown:∀ j,j<us.length->k.owns p.room (o+j):=λj hj=>.inl ⟨by omega,hst⟩
 have hnF:∀ j,j<us.length->¬ F p.g (p.o+o+j):=λj hj=>by rw[AwA];exact hB.free _ (hown j hj)
 have hs:WStep F w (w.setCells p.g (p.o+o) us):=WStep.setCells hnF;have hl:Later μ μ F F w (w.setCells p.g (p.o+o) us):=⟨λ_ _ h=>h,λg i hF=>⟨hF,by
  refine World.cell?_setCells_out p.g us (p.o+o) w ⟨g,i,none⟩ λe _=>?_
  simp only at e;subst e;rcases AwM i (p.o+o) with h|h
  .exact .inl h
  .rcases AwM i (p.o+o+us.length) with h' | h'
   .exact absurd hF (by have:=hnF (i-(p.o+o)) (by omega);rwa [show p.o+o+(i-(p.o+o))=i by omega]at this)
   .exact .inr h'⟩⟩
 refine⟨⟨λc k' hk'=>?_,λc c' k1 k2 p1 p2 hne h1 h2 q1 q2 i i' o1 o2=>?_,λg i hF=>?_⟩,hl,hs⟩
 .by_cases e:c=b
  .subst e
   rw[Ac rfl]at hk';simp only[δ]at hk';subst hk';refine⟨p,hp,⟨λi x hx=>?_,?_,λi hi=>?_,λhf=>?_,λi hi=>?_,λhx=>US (hB.pure hx) (hpu hx) o⟩⟩
   .simp only at hx
    rw[Z0 _ _ _ hlen]at hx;split at hx
    .rename_i hi
     obtain⟨u,h1,h2⟩:=hr.get hx;refine⟨u,?_,Rep.later hl x u h2⟩;have hj:i-o<us.length:=by omega
     have:=World.cell?_setCells_in p.g us (p.o+o) w (λj hj=>by
      obtain⟨⟨v,hv⟩,_⟩:=hB.there (o+j) (by have:=hB.room;omega);rw[←AwA]at hv;rw[hv];rfl) (i-o) hj
     rw[show p.o+o+(i-o)=p.o+i by omega]at this;rw[this];rw[Ψ hj]at h1;exact h1
    .rename_i hi
     obtain⟨u,h1,h2⟩:=hB.cell i x hx;refine⟨u,?_,Rep.later hl x u h2⟩;rw[World.cell?_setCells_out p.g us (p.o+o) w ⟨p.g,p.o+i,none⟩ λ_ _=>by simp only;omega];exact h1
   .simp only
    rw[Hy _ _ _ hlen];exact hB.room
   .obtain⟨⟨u,hu⟩,h2⟩:=hB.there i hi
    exact⟨hs.some_cell hu,by rw[World.frozen?_setCells];exact h2⟩
   .grind
   .refine hB.free i ?_
    unfold ABlk.owns at hi ⊢;simp only[Hy _ _ _ hlen]at hi;exact hi
  .rw[Ab e]at hk'
   obtain⟨p',hp',hB'⟩:=h.blk c k' hk';refine⟨p',hp',hB'.step hl hs (λi hi hF=>?_) hB'.free⟩;have ho':k'.owns p'.room i:=by
    cases hst':k'.st with
    |true=>exact .inl ⟨hi,hst'⟩
    |false=>exact absurd (hB'.kept hst' i hi) hF
   refine World.cell?_setCells_out p.g us (p.o+o) w ⟨p'.g,p'.o+i,none⟩ λe1 _=>?_
   simp only at e1 ⊢;rcases AwM (p'.o+i) (p.o+o) with h3|h3
   .exact .inl h3
   .rcases AwM (p'.o+i) (p.o+o+us.length) with h4|h4
    .have:=h.apart b c k k' p p' (λe2=>e e2.symm) hk hk' hp hp' (o+(p'.o+i-(p.o+o))) i (hown _ (by omega)) ho'
     exact absurd (by rw[e1];simp only[Prod.mk.injEq,true_and];omega) this
    .exact .inr h4
 .have key:∀{c:Nat} {k':ABlk} {q:Pl} {i:Nat},(if c=b then some ({ k with cells:=Bq k.cells o xs }:ABlk) else H c)=some k'->μ c=some q->k'.owns q.room i->∃ k0,H c=some k0/\k0.owns q.room i:=by
   intro c k' q i h1 _ h3
   by_cases e:c=b
   .subst e
    rw[Ac rfl]at h1;simp only[δ]at h1;subst h1;refine⟨k,hk,?_⟩;unfold ABlk.owns at h3 ⊢;simp only[Hy _ _ _ hlen]at h3;exact h3
   .grind
  obtain⟨j1,a1,a2⟩:=key h1 q1 o1;obtain⟨j2,b1,b2⟩:=key h2 q2 o2;exact h.apart c c' j1 j2 p1 p2 hne a1 b1 q1 q2 i i' a2 b2
 .rw[Fw];exact h.prot g i hF
theorem SM{H:Nat->Option ABlk}(h:HRep μ F w H){b:Nat}{k:ABlk}{p:Pl}(hk:H b=some k)(hp:μ b=some p) :
  HRep μ (λg o=>F g o\/(g=p.g/\p.o<=o/\o<p.o+k.cells.length)) w (λc=>if c=b then some { k with st:=false } else H c)/\Later μ μ F (λg o=>F g o\/(g=p.g/\p.o<=o/\o<p.o+k.cells.length)) w w:=by
 obtain⟨p',hp',hB⟩:=h.blk b k hk;rw[hp]at hp'
 cases hp'
 have hl:Later μ μ F (λg o=>F g o\/(g=p.g/\p.o<=o/\o<p.o+k.cells.length)) w w:=⟨λ_ _ h=>h,λg i hF=>⟨.inl hF,rfl⟩⟩;have own:∀{c:Nat} {k':ABlk} {q:Pl} {i:Nat},(if c=b then some ({ k with st:=false }:ABlk) else H c)=some k'->k'.owns q.room i->∃ k0,H c=some k0/\k0.owns q.room i/\(c=b->k.cells.length<=i):=by
  intro c k' q i h1 h3
  by_cases e:c=b
  .subst e
   rw[Ac rfl]at h1;simp only[δ]at h1;subst h1;rcases h3 with⟨_,h4⟩|⟨h4,h5,h6⟩
   .simp at h4
   .exact⟨k,hk,.inr ⟨h4,h5,h6⟩,λ_=>h4⟩
  .grind
 refine⟨⟨λc k' hk'=>?_,λc c' k1 k2 p1 p2 hne h1 h2 q1 q2 i i' o1 o2=>?_,λg i hF=>?_⟩,hl⟩
 .by_cases e:c=b
  .subst e
   have hk2:=hk';rw[Ac rfl]at hk';simp only[δ]at hk';subst hk';refine⟨p,hp,⟨λi x hx=>?_,hB.room,hB.there,λ_ i hi=>.inr ⟨rfl,by omega,by simp only at hi;omega⟩,λi hi hF=>?_,hB.pure⟩⟩
   .obtain⟨u,h1,h2⟩:=hB.cell i x hx
    exact⟨u,h1,Rep.later hl x u h2⟩
   .obtain⟨k0,h1,h2,h3⟩:=own hk2 hi
    rw[hk]at h1
    cases h1
    rcases hF with hF|⟨_,_,hF⟩
    .exact hB.free i h2 hF
    .have:=h3 rfl;omega
  .have hk2:=hk'
   rw[Ab e]at hk';obtain⟨p',hp',hB'⟩:=h.blk c k' hk';refine⟨p',hp',hB'.step hl (WStep.refl _ _) (λ_ _ _=>rfl) λi hi hF=>?_⟩;rcases hF with hF|⟨h1,h2,h3⟩
   .exact hB'.free i hi hF
   .cases hst:k.st with
    |false=>exact hB'.free i hi (by rw[h1,show p'.o+i=p.o+(p'.o+i-p.o) by omega];exact hB.kept hst _ (by omega))
    |true=>
     exact h.apart b c k k' p p' (λe'=>e e'.symm) hk hk' hp hp' (p'.o+i-p.o) i (.inl ⟨by omega,hst⟩) hi (by
      rw[h1];simp only[Prod.mk.injEq,true_and];omega)
 .obtain⟨j1,a1,a2,_⟩:=own h1 o1
  obtain⟨j2,b1,b2,_⟩:=own h2 o2;exact h.apart c c' j1 j2 p1 p2 hne a1 b1 q1 q2 i i' a2 b2
 .rcases hF with hF|⟨h1,h2,h3⟩
  .exact h.prot g i hF
  .rw[h1];exact hB.lt (i:=0) (by have:=hB.room;omega)
theorem HRep.less{H H':Nat->Option ABlk}(h:HRep μ F w H)(hs:∀ b k,H' b=some k->H b=some k):HRep μ F w H':=
 ⟨λb k hk=>h.blk b k (hs b k hk),λb b' k k' p p' hne h1 h2 q1 q2=>h.apart b b' k k' p p' hne (hs _ _ h1) (hs _ _ h2) q1 q2,h.prot⟩
end
section
variable {μ μ':Mu} {F F':AP} {w w':World} {p:Pl} {k:ABlk}
theorem HRep.drew{H:Nat->Option ABlk}(h:HRep μ F w H):HRep μ F w.drew H/\Later μ μ F F w w.drew/\WStep F w w.drew:=by
 have hl:Later μ μ F F w w.drew:=⟨λ_ _ h=>h,λ_ _ h=>⟨h,rfl⟩⟩;refine⟨⟨λb k hk=>?_,h.apart,h.prot⟩,hl,⟨rfl,rfl,rfl,ω _,λg o hg=>⟨o,hg,ObjStep.refl _ _⟩⟩⟩;obtain⟨p,hp,hB⟩:=h.blk b k hk;exact⟨p,hp,⟨λi x hx=>(by obtain⟨u,h1,h2⟩:=hB.cell i x hx;exact⟨u,h1,Rep.later hl x u h2⟩),hB.room,hB.there,hB.kept,hB.free,hB.pure⟩⟩
theorem AcI{H:Nat->Option ABlk}(h:HRep μ F w H){b b':Nat}{k:ABlk}{p:Pl}(hk:H b=some k)(hp:μ b=some p)(hb':μ b'=none)(hex:k.ex=true)(o l:Nat)(hol:o<=l)(hl:l<=k.cells.length)(hfull:k.st=true\/l=k.cells.length) :
  HRep (μ.set b' ⟨p.g,p.o+o,p.room-o⟩) F w (λc=>if c=b' then some ⟨(k.cells.take l).drop o,k.st,true⟩ else if c=b then(if k.st then none else some { k with ex:=false }) else H c)/\Later μ (μ.set b' ⟨p.g,p.o+o,p.room-o⟩) F F w w:=by
 obtain⟨p',hp',hB⟩:=h.blk b k hk;rw[hp]at hp'
 cases hp'
 have hbb:b≠b':=by rintro rfl;rw[hp]at hb';cases hb'
 have hL:Later μ (μ.set b' ⟨p.g,p.o+o,p.room-o⟩) F F w w:=by
  refine⟨λc q hq=>?_,λg i hF=>⟨hF,rfl⟩⟩;unfold Mu.set
  by_cases e:c=b'
  .grind
  .rw[Ab e];exact hq
 have hroom:=hB.room;have hlen:((k.cells.take l).drop o).length=l-o:=by simp;omega
 have own':∀ i,(⟨(k.cells.take l).drop o,k.st,true⟩:ABlk).owns (p.room-o) i->k.owns p.room (o+i):=by
  grind [ABlk.owns]
 have split:∀{c:Nat} {k':ABlk} {q:Pl} {i:Nat},(if c=b' then some (⟨(k.cells.take l).drop o,k.st,true⟩:ABlk) else if c=b then(if k.st then none else some { k with ex:=false }) else H c)=some k'->(μ.set b' ⟨p.g,p.o+o,p.room-o⟩) c=some q->k'.owns q.room i->
   (c=b'/\q.g=p.g/\q.o=p.o+o/\k.owns p.room (o+i))\/(c≠b'/\c≠b/\H c=some k'/\μ c=some q):=by
  intro c k' q i h1 h2 h3
  by_cases e:c=b'
  .subst e
   rw[Ac rfl]at h1;simp only[δ]at h1;subst h1;unfold Mu.set at h2;rw[Ac rfl]at h2;simp only[δ]at h2;subst h2;exact .inl ⟨rfl,rfl,rfl,own' i h3⟩
  .rw[Ab e]at h1
   unfold Mu.set at h2;rw[Ab e]at h2
   by_cases e2:c=b
   .rw[Ac e2]at h1
    cases hst:k.st with
    |true=>rw[hst]at h1;simp at h1
    |false=>
     rw[hst]at h1;simp only[Awx,if_false,δ]at h1;subst h1;rcases h3 with⟨_,h4⟩|⟨_,_,h4⟩
     .simp at h4
     .simp at h4
   .grind
 refine⟨⟨λc k' hk'=>?_,λc c' k1 k2 p1 p2 hne h1 h2 q1 q2 i i' o1 o2=>?_,h.prot⟩,hL⟩
 .by_cases e:c=b'
  .subst e
   rw[Ac rfl]at hk';simp only[δ]at hk';subst hk';refine⟨⟨p.g,p.o+o,p.room-o⟩,by simp[Mu.set],⟨λi x hx=>?_,by simp only[hlen];omega,λi hi=>?_,λhf i hi=>?_,λi hi=>?_,λ_=>?_⟩⟩
   rotate_right
   .have:=hB.pure hex
    rw[BN]at this ⊢;simp only[Awu]at this ⊢;exact λx hx=>this x (AxK (Axq hx))
   .simp only[Axw,Aw8]at hx
    split at hx
    .obtain⟨u,h1,h2⟩:=hB.cell (o+i) x hx
     exact⟨u,by simpa[AwA]using h1,Rep.later hL x u h2⟩
    .cases hx
   .have:=hB.there (o+i) (by simp only at hi;omega)
    simpa[AwA]using this
   .simp only[hlen]at hi hf
    have:=hB.kept hf (o+i) (by omega);simpa[AwA]using this
   .have:=hB.free (o+i) (own' i hi)
    simpa[AwA]using this
  .rw[Ab e]at hk'
   by_cases e2:c=b
   .subst e2
    rw[Ac rfl]at hk'
    cases hst:k.st with
    |true=>rw[hst]at hk';simp at hk'
    |false=>
     rw[hst]at hk';simp only[Awx,if_false,δ]at hk';subst hk';refine⟨p,hL.mu _ _ hp,⟨λi x hx=>?_,hB.room,hB.there,λ_=>hB.kept hst,λi hi=>?_,λhe=>(by simp at he)⟩⟩
     .obtain⟨u,h1,h2⟩:=hB.cell i x hx
      exact⟨u,h1,Rep.later hL x u h2⟩
     .rcases hi with⟨_,h4⟩|⟨_,_,h4⟩
      .simp at h4
      .simp at h4
   .rw[Ab e2]at hk'
    obtain⟨q,hq,hB'⟩:=h.blk c k' hk';exact⟨q,hL.mu _ _ hq,hB'.step hL (WStep.refl _ _) (λ_ _ _=>rfl) hB'.free⟩
 .rcases split h1 q1 o1 with⟨e1,g1,t1,w1⟩|⟨e1,f1,a1,m1⟩
  .rcases split h2 q2 o2 with⟨e2,_,_,_⟩|⟨e2,f2,a2,m2⟩
   .omega
   .have:=h.apart b c' k k2 p p2 (λe=>f2 e.symm) hk a2 hp m2 (o+i) i' w1 o2
    rw[g1,t1,AwA];exact this
  .rcases split h2 q2 o2 with⟨e2,g2,t2,w2⟩|⟨e2,f2,a2,m2⟩
   .have:=h.apart c b k1 k p1 p (λe=>f1 e) a1 hk m1 hp i (o+i') o1 w2
    rw[g2,t2,AwA];exact this
   .exact h.apart c c' k1 k2 p1 p2 hne a1 a2 m1 m2 i i' o1 o2
theorem AcH{H:Nat->Option ABlk}(h:HRep μ F w H){b:Nat}{k:ABlk}{p:Pl}(hk:H b=some k)(hp:μ b=some p)(hex:k.ex=true)(xs:Ad)(us:AI)
  (hlen:k.cells.length+xs.length<=p.room) (hr:RepList μ F w xs us) (hpu:A4 xs=true) :
  ∃ F',HRep μ F' (w.setCells p.g (p.o+k.cells.length) us) (λc=>if c=b then some { k with cells:=k.cells++xs } else H c)/\Later μ μ F F' w (w.setCells p.g (p.o+k.cells.length) us)/\WStep F w (w.setCells p.g (p.o+k.cells.length) us):=by
 have hul:=hr.length;obtain⟨p',hp',hB⟩:=h.blk b k hk;rw[hp]at hp'
 cases hp'
 let R:AP:=λg i=>k.st=false/\g=p.g/\p.o+k.cells.length<=i/\i<p.o+k.cells.length+us.length
 have hown:∀ j,j<us.length->k.owns p.room (k.cells.length+j):=λj hj=>.inr ⟨by omega,by omega,hex⟩
 have hnF:∀ j,j<us.length->¬ F p.g (p.o+k.cells.length+j):=λj hj=>by rw[AwA];exact hB.free _ (hown j hj)
 have hs:WStep F w (w.setCells p.g (p.o+k.cells.length) us):=WStep.setCells hnF;have hl:Later μ μ F (λg i=>F g i\/R g i) w (w.setCells p.g (p.o+k.cells.length) us):=⟨λ_ _ h=>h,λg i hF=>⟨.inl hF,by
  refine World.cell?_setCells_out p.g us (p.o+k.cells.length) w ⟨g,i,none⟩ λe _=>?_
  simp only at e;subst e;rcases AwM i (p.o+k.cells.length) with h|h
  .exact .inl h
  .rcases AwM i (p.o+k.cells.length+us.length) with h' | h'
   .exact absurd hF (by have:=hnF (i-(p.o+k.cells.length)) (by omega);rwa [show p.o+k.cells.length+(i-(p.o+k.cells.length))=i by omega]at this)
   .exact .inr h'⟩⟩
 have hpg:0<us.length->p.g<w.heap.size:=λh0=>hB.lt (i:=k.cells.length) (by omega)
 have own2:∀ i,({ k with cells:=k.cells++xs }:ABlk).owns p.room i->k.owns p.room i/\(k.st=false->k.cells.length+us.length<=i):=by
  grind [ABlk.owns]
 refine⟨λg i=>F g i\/R g i,⟨λc k' hk'=>?_,λc c' k1 k2 p1 p2 hne h1 h2 q1 q2 i i' o1 o2=>?_,λg i hF=>?_⟩,hl,hs⟩
 .by_cases e:c=b
  .subst e
   rw[Ac rfl]at hk';simp only[δ]at hk';subst hk';refine⟨p,hp,⟨λi x hx=>?_,by simp only[ζ];omega,λi hi=>?_,λhf i hi=>?_,λi hi hF=>?_,λ_=>?_⟩⟩
   rotate_right
   .have:=hB.pure hex
    rw[BN]at this hpu ⊢;simp only[List.all_append,this,hpu,Bool.and_self]
   .simp only at hx
    rcases AwM i k.cells.length with hi|hi
    .rw[List.getElem?_append_left hi]at hx
     obtain⟨u,h1,h2⟩:=hB.cell i x hx;refine⟨u,?_,Rep.later hl x u h2⟩;rw[World.cell?_setCells_out p.g us (p.o+k.cells.length) w ⟨p.g,p.o+i,none⟩ λ_ _=>by simp only;omega];exact h1
    .rw[List.getElem?_append_right hi]at hx
     obtain⟨u,h1,h2⟩:=hr.get hx;refine⟨u,?_,Rep.later hl x u h2⟩;have hj:i-k.cells.length<us.length:=(AwQ.1 h1).1;have:=World.cell?_setCells_in p.g us (p.o+k.cells.length) w (λj hj=>by
      obtain⟨⟨v,hv⟩,_⟩:=hB.there (k.cells.length+j) (by omega);rw[←AwA]at hv;rw[hv];rfl) (i-k.cells.length) hj
     rw[show p.o+k.cells.length+(i-k.cells.length)=p.o+i by omega]at this;rw[this];rw[Ψ hj]at h1;exact h1
   .obtain⟨⟨u,hu⟩,h2⟩:=hB.there i hi
    exact⟨hs.some_cell hu,by rw[World.frozen?_setCells];exact h2⟩
   .simp only[ζ]at hf hi
    rcases AwM i k.cells.length with h3|h3
    .exact .inl (hB.kept hf i h3)
    .grind
   .obtain⟨h1,h2⟩:=own2 i hi
    rcases hF with hF|⟨h3,_,_,h4⟩
    .exact hB.free i h1 hF
    .have:=h2 h3;omega
  .rw[Ab e]at hk'
   obtain⟨p',hp',hB'⟩:=h.blk c k' hk';have far:∀ i,k'.owns p'.room i->¬ (p'.g=p.g/\p.o+k.cells.length<=p'.o+i/\p'.o+i<p.o+k.cells.length+us.length):=by
    rintro i ho ⟨e1,h3,h4⟩;have:=h.apart b c k k' p p' (λe2=>e e2.symm) hk hk' hp hp' (k.cells.length+(p'.o+i-(p.o+k.cells.length))) i (hown _ (by omega)) ho;exact absurd (by rw[e1];simp only[Prod.mk.injEq,true_and];omega) this
   refine⟨p',hp',hB'.step hl hs (λi hi hF=>?_) λi hi hF=>?_⟩
   .have ho':k'.owns p'.room i:=by
     cases hst':k'.st with
     |true=>exact .inl ⟨hi,hst'⟩
     |false=>exact absurd (hB'.kept hst' i hi) hF
    have:=far i ho';refine World.cell?_setCells_out p.g us (p.o+k.cells.length) w ⟨p'.g,p'.o+i,none⟩ λe1 _=>?_
    simp only at e1 ⊢;have h5:¬ (p.o+k.cells.length<=p'.o+i/\p'.o+i<p.o+k.cells.length+us.length):=λh=>this ⟨e1,h⟩
    omega
   .rcases hF with hF|⟨_,h1,h2,h3⟩
    .exact hB'.free i hi hF
    .grind
 .have key:∀{c:Nat} {k':ABlk} {i:Nat},(if c=b then some ({ k with cells:=k.cells++xs }:ABlk) else H c)=some k'->μ c=some (if c=b then p else(μ c).getD p)->k'.owns (if c=b then p else(μ c).getD p).room i->∃ k0,H c=some k0/\k0.owns (if c=b then p else(μ c).getD p).room i:=by
   grind
  have fix:∀{c:Nat} {q:Pl},μ c=some q->q=(if c=b then p else(μ c).getD p):=by
   grind
  obtain⟨j1,a1,a2⟩:=key h1 (by rw[←fix q1];exact q1) (by rw[←fix q1];exact o1);obtain⟨j2,b1,b2⟩:=key h2 (by rw[←fix q2];exact q2) (by rw[←fix q2];exact o2);rw[←fix q1]at a2;rw[←fix q2]at b2;exact h.apart c c' j1 j2 p1 p2 hne a1 b1 q1 q2 i i' a2 b2
 .rw[Fw]
  rcases hF with hF|⟨_,h1,h2,h3⟩
  .exact h.prot g i hF
  .omega
end
section
variable (P:Program)
def RW(t:TypeId):Option (Nat × TypeId):=match P.underlying t with
 |some (.array n e)=>some (n,e)
 |_=>none
def MA(t:TypeId)(x ix:AV):Option AV:=match RW P t,ix.idx with
 |some (n,et),some i=>match Eg P et with
  |some e=>if i<n then QU x (i*e) else none
  |none=>none
 |_,_=>none
def JO(t:TypeId)(x ix:AV):Option AV:=match x,RW P t,ix.idx with
 |.agg cs,some (n,et),some i=>match Eg P et with
  |some e=>if i<n then Tl P et cs (i*e) else none
  |none=>none
 |_,_,_=>none
def LR(c:UInt8):AV:=.v (.int .u8 c.toNat)
def newsA(e:Nat)(x:AV):AM (Nat × Ad):=match x with
 |.sl b o n e'=>if e'=e then(AM.getB b).bind λk=>if o+n*e<=k.cells.length/\(k.ex||A4 ((k.cells.drop o).take (n*e)))=true then AM.ret (n,(k.cells.drop o).take (n*e)) else AM.fail else AM.fail
 |.ls xs=>if(xs.all λcs=>cs.length == e)=true then AM.ret (xs.length,xs.flatten) else AM.fail
 |.v (.slice none 0 0)=>AM.ret (0,[])
 |.v (.string s)=>if e=1 then AM.ret (s.size,s.data.toList.map LR) else AM.fail
 |_=>AM.fail
def Hw(t:TypeId):Bool:=match P.underlying t with
 |some (.slice _)=>true
 |some .string=>true
 |_=>false
def R3:AV->Bool
 |.sl ..=>true
 |.ls _=>true
 |.v (.slice none 0 0)=>true
 |_=>false
def N4:Value->Bool
 |.slice none 0 0=>true
 |_=>false
theorem KU{z:Value}(h:N4 z=true):z=.slice none 0 0:=by
 unfold N4 at h;split at h
 .rfl
 .cases h
def N3(t:TypeId):Bool:=match P.underlying t with
 |some (.int _)=>true
 |_=>false
def newsZ(z:Value)(e:Nat)(x:AV):AM (Nat × Ad):=match x.idx with
 |some m=>if m<9223372036854775808/\z.cells.toList.all OG=true then AM.ret (m,Cx (z.cells.toList.map .v) (m*e)) else AM.fail
 |none=>AM.fail
def newsU(u:TypeId)(z:Value)(e:Nat)(x:AV):AM (Nat × Ad):=match Hw P u with
 |true=>newsA e x
 |false=>(match N3 P u with
  |true=>newsZ z e x
  |false=>AM.fail)
def appendA (ts:List TypeId) (s x:AV):AM AV:=match ts with
 | [t, u] => match Cz P t with
  |some et=>match P.info? et with
   |some i=>match i.zero with
    |some z=>if z.cells.size=i.size/\0<i.size then
      (newsU P u z i.size x).bind λr=>
       if r.1=0 then(if R3 s=true then AM.ret s else AM.fail)
       else if r.2.all AV.one=true then(match s with
        |.v z'=>if N4 z'=true/\r.1*i.bytes<=140737488355328/\r.1<=maxLen then(AM.newB ⟨r.2,true,true⟩).bind λb=>AM.ret (.sl b 0 r.1 i.size) else AM.fail
        |.sl b o n e=>if e=i.size/\(n+r.1)*i.bytes<=140737488355328/\n+r.1<=maxLen then
          (AM.getB b).bind λk=>
           if k.ex=true/\o+n*e<=k.cells.length/\(k.st=true\/o+n*e=k.cells.length) then
            (if k.st=true then AM.delB b else AM.setB b { k with ex:=false }).bind λ_=>
             (AM.newB ⟨(k.cells.take (o+n*e)).drop o++r.2,k.st,true⟩).bind λb'=>AM.ret (.sl b' 0 (n+r.1) e)
           else AM.fail
         else AM.fail
        |_=>AM.fail)
       else AM.fail
     else AM.fail
    |none=>AM.fail
   |none=>AM.fail
  |none=>AM.fail
 |_=>AM.fail
def makeSliceA(t:TypeId)(l c:AV):AM AV:=match Cz P t,l.idx,c.idx with
 |some et,some n,some m=>match P.info? et with
  |some i=>match Dq P et with
   |some z=>if n<=m/\m*i.bytes<=140737488355328/\m<=maxLen/\z.cells.size=i.size/\0<i.size then
     (AM.newB ⟨Cx (z.cells.toList.map .v) (n*i.size),true,true⟩).bind λb=>AM.ret (.sl b 0 n i.size)
    else AM.fail
   |none=>AM.fail
  |none=>AM.fail
 |_,_,_=>AM.fail
def copyA(ts:List TypeId)(d x:AV):AM AV:=match ts with
 |[t,_]=>match Cz P t,d with
  |some et,.sl b o n e=>if Eg P et=some e then
    (newsA e x).bind λr=>
     let m:=Axm r.1 n
     if(r.2.take (m*e)).all AV.one=true then
      (AM.getB b).bind λk=>if k.st=true/\o+n*e<=k.cells.length then
       (AM.setB b { k with cells:=Bq k.cells o (r.2.take (m*e)) }).bind λ_=>AM.ret (.v (.int .i64 m))
      else AM.fail
     else AM.fail
   else AM.fail
  |_,_=>AM.fail
 |_=>AM.fail
def clearA(ts:List TypeId)(x:AV):AM AV:=match ts with
 |[t]=>match Cz P t,x with
  |some et,.sl b o n e=>match Dq P et with
   |some z=>if Eg P et=some e/\z.cells.size=e/\0<e/\(z.cells.toList.map AV.v).all AV.one=true then
     (AM.getB b).bind λk=>if k.st=true/\o+n*e<=k.cells.length then
      (AM.setB b { k with cells:=Bq k.cells o (Cx (z.cells.toList.map .v) (n*e)) }).bind λ_=>AM.ret (.tup [])
     else AM.fail
    else AM.fail
   |none=>AM.fail
  |_,_=>AM.fail
 |_=>AM.fail
def Ej(t:TypeId):Bool:=match Cz P t with
 |some e=>(match P.underlying e with
  |some (.int .u8)=>true
  |_=>false)
 |none=>false
def B8(t:TypeId):Bool:=match P.underlying t with
 |some .string=>true
 |_=>false
def Uc:AV->Option UInt8
 |.v (.int .u8 n)=>if((UInt8.ofNat n.toNat).toNat:Int)=n then some (UInt8.ofNat n.toNat) else none
 |_=>none
def bytesOf:Ad->Option (List UInt8)
 |[]=>some []
 |x::r=>match Uc x,bytesOf r with
  |some c,some l=>some (c::l)
  |_,_=>none
def He(t:TypeId)(x y:AV):Bool:=match x,y,P.underlying t with
 |.ptr ..,.v (.pointer none),some (.pointer _)=>true
 |.lp ..,.v (.pointer none),some (.pointer _)=>true
 |.v (.pointer none),.ptr ..,some (.pointer _)=>true
 |.v (.pointer none),.lp ..,some (.pointer _)=>true
 |.sl _ _ (_+1) _,.v (.slice none _ _),some (.slice _)=>true
 |.fn ..,.v .nilFunc,some (.func ..)=>true
 |_,_,_=>false
def B9(ρ:Operand->AV)(x:Operand):Value:=((ρ x).toVal).getD Go.undef
def AoB:Next->Option AV
 |.value y=>some (FI y)
 |.skip=>some AV.undef
 |_=>none
def Co:Op->Bool
 |.select ..=>false
 |_=>true
def C7(o:Oper)(ρ:Operand->AV):Option AV:=
 if(Co o.op&&o.op.operands.toList.all λx=>(ρ x).toVal.isSome)=true then(Az P (execOp (B9 ρ) o)).bind AoB else none
def H9(f:FuncId):Bool:=match P.funcs[f]? with
 |some fn=>fn.name != "runtime.NumGoroutine"&&fn.body.isSome
 |none=>false
def AaB(g:FuncId)(args:Ad):Option AV:=match Jx args,P.funcs[g]? with
 |some us,some fn=>if(fn.name != "runtime.NumGoroutine"&&fn.body.isNone)=true then(match Extern.findNext fn,Extern.find fn with
   |none,some e=>(Az P (e us.toArray)).map FI
   |_,_=>none) else none
 |_,_=>none
def DA(t:TypeId):Bool:=match P.underlying t with
 |some (.slice _)=>true
 |_=>false
def aop(Γ:FuncId->Ad->AM AV)(o:Oper)(ρ:Operand->AV):AM AV:=match o.op with
 |.move x=>AM.ret (ρ x)
 |.assign x=>AM.ret (ρ x)
 |.pick c a b=>(match ρ c with
  |.v (.bool t)=>AM.ret (if t then ρ a else ρ b)
  |_=>AM.fail)
 |.alloc t=>allocA P t
 |.box _ x=>boxA (ρ x)
 |.build t ps=>AM.opt (LQ P t (ps.toList.map λp=>(p.1,ρ p.2)))
 |.buildSlice t n ps=>buildSliceA P t n (ps.toList.map λp=>(p.1,ρ p.2))
 |.load t a=>loadA P t (ρ a)
 |.store t a x=>storeA P t (ρ a) (ρ x)
 |.nilCheck x=>(match ρ x with
  |.ptr b o=>AM.ret (.ptr b o)
  |.lp cs=>AM.ret (.lp cs)
  |.fn (.func f) a c=>AM.ret (.fn (.func f) a c)
  |_=>AM.fail)
 |.binOp b t x y _=>if He P t (ρ x) (ρ y)=true then(match b with
   |.eql=>AM.ret (.v (.bool false))
   |.neq=>AM.ret (.v (.bool true))
   |_=>AM.fail) else AM.opt (C7 P o ρ)
 |.makeFunc fn a c=>AM.ret (.fn fn (a.toList.map ρ) (c.toList.map ρ))
 |.slice t x lo hi mx=>(match mx with
  |none=>(match Mq P t (ρ x) (lo.map ρ) (hi.map ρ) with
   |some r=>AM.ret r
   |none=>AM.opt (C7 P o ρ))
  |some _=>AM.fail)
 |.fieldAddr t a f=>AM.opt (IS P t (ρ a) f)
 |.field t x f=>AM.opt (Qn P t (ρ x) f)
 |.indexAddr t x i=>(match Er P t (ρ x) (ρ i) with
  |some r=>AM.ret r
  |none=>AM.opt (MA P t (ρ x) (ρ i)))
 |.index t x i=>(match JO P t (ρ x) (ρ i) with
  |some r=>AM.ret r
  |none=>AM.opt (C7 P o ρ))
 |.extract t i=>AM.opt (MR (ρ t) i)
 |.convert s d x=>if Ej P s=true/\B8 P d=true/\R3 (ρ x)=true then(newsA 1 (ρ x)).bind λr=>AM.opt ((bytesOf r.2).map λl=>.v (.string ⟨l.toArray⟩)) else
   (match B8 P s&&Ej P d,ρ x with
    |true,.v (.string s)=>if s.size<=maxLen then(AM.newB ⟨s.data.toList.map LR,true,true⟩).bind λb=>AM.ret (.sl b 0 s.size 1) else AM.fail
    |_,_=>AM.opt (C7 P o ρ))
 |.makeSlice t l c=>makeSliceA P t (ρ l) (ρ c)
 |.call c=>(match c.callee with
  |.builtin .append=>(match c.args.toList with
   |[s,x]=>appendA P c.argTypes.toList (ρ s) (ρ x)
   |_=>AM.fail)
  |.builtin .copy=>(match c.args.toList with
   |[s,x]=>copyA P c.argTypes.toList (ρ s) (ρ x)
   |_=>AM.fail)
  |.builtin .clear=>(match c.args.toList with
   |[x]=>clearA P c.argTypes.toList (ρ x)
   |_=>AM.fail)
  |.builtin .len=>(match c.args.toList,c.argTypes.toList with
   |[x],[t]=>if DA P t=true then(match Aj6 (ρ x) with
     |some r=>AM.ret r
     |none=>AM.opt (C7 P o ρ)) else AM.opt (C7 P o ρ)
   |_,_=>AM.fail)
  |.builtin _=>AM.opt (C7 P o ρ)
  |.value f=>(match ρ f with
   |.fn (.func g) a cs=>if H9 P g=true then Γ g (a++c.args.toList.map ρ++cs) else AM.opt (AaB P g (a++c.args.toList.map ρ++cs))
   |_=>AM.fail)
  |.invoke ..=>AM.fail)
 |_=>AM.opt (C7 P o ρ)
end
section
variable {P:Program}
theorem Loc.rdAt(a:AV)(n:Nat):Loc (rdAt a n):=by
 cases a<;>simp only[Go.Proofs.YtlmhajfbpplpoaaGreat.rdAt]<;>first
  |exact Loc.fail
  |exact Loc.bind (Loc.getB _) λk=>Loc.ite (Loc.ret _) Loc.fail
  |exact Loc.ite (Loc.ret _) Loc.fail
theorem Loc.loadA(t:TypeId)(a:AV):Loc (loadA P t a):=by
 grind [Go.Proofs.YtlmhajfbpplpoaaGreat.loadA,Loc.bind,Loc.fail,Loc.opt,Loc.rdAt,Loc.ret]
theorem Loc.storeA(t:TypeId)(a x:AV):Loc (storeA P t a x):=by
 unfold Go.Proofs.YtlmhajfbpplpoaaGreat.storeA;split
 .exact Loc.ite (Loc.bind (Loc.getB _) λk=>Loc.ite (Loc.bind (Loc.setB _ _) λ_=>Loc.ret _) Loc.fail) Loc.fail
 .exact Loc.fail
theorem Loc.newsA(e:Nat)(x:AV):Loc (newsA e x):=by
 unfold Go.Proofs.YtlmhajfbpplpoaaGreat.newsA;split
 .exact Loc.ite (Loc.bind (Loc.getB _) λk=>Loc.ite (Loc.ret _) Loc.fail) Loc.fail
 .exact Loc.ite (Loc.ret _) Loc.fail
 .exact Loc.ret _
 .exact Loc.ite (Loc.ret _) Loc.fail
 .exact Loc.fail
theorem Loc.newsU(u:TypeId)(z:Value)(e:Nat)(x:AV):Loc (newsU P u z e x):=by
 unfold Go.Proofs.YtlmhajfbpplpoaaGreat.newsU Go.Proofs.YtlmhajfbpplpoaaGreat.newsZ;split
 .exact Loc.newsA _ _
 .split
  .split
   .exact Loc.ite (Loc.ret _) Loc.fail
   .exact Loc.fail
  .exact Loc.fail
theorem Loc.appendA(ts:List TypeId)(s x:AV):Loc (appendA P ts s x):=by
 unfold Go.Proofs.YtlmhajfbpplpoaaGreat.appendA
 repeat' split
 all_goals first
  |exact Loc.fail
  |refine Loc.bind (Loc.newsU _ _ _ _) λr=>?_
 repeat' split
 all_goals first
  |exact Loc.fail
  |exact Loc.ret _
  |exact Loc.bind (Loc.newB _) λ_=>Loc.ret _
  |refine Loc.bind (Loc.getB _) λk=>?_
 all_goals exact Loc.ite (Loc.bind (Loc.ite (Loc.delB _) (Loc.setB _ _)) λ_=>Loc.bind (Loc.newB _) λ_=>Loc.ret _) Loc.fail
theorem Loc.copyA(ts:List TypeId)(s x:AV):Loc (copyA P ts s x):=by
 unfold Go.Proofs.YtlmhajfbpplpoaaGreat.copyA
 repeat' split
 all_goals first
  |exact Loc.fail
  |refine Loc.bind (Loc.newsA _ _) λr=>?_
 exact Loc.ite (Loc.bind (Loc.getB _) λk=>Loc.ite (Loc.bind (Loc.setB _ _) λ_=>Loc.ret _) Loc.fail) Loc.fail
theorem Loc.clearA(ts:List TypeId)(x:AV):Loc (clearA P ts x):=by
 unfold Go.Proofs.YtlmhajfbpplpoaaGreat.clearA
 repeat' split
 all_goals first
  |exact Loc.fail
  |exact Loc.bind (Loc.getB _) λk=>Loc.ite (Loc.bind (Loc.setB _ _) λ_=>Loc.ret _) Loc.fail
theorem Loc.makeSliceA(t:TypeId)(l c:AV):Loc (makeSliceA P t l c):=by
 unfold Go.Proofs.YtlmhajfbpplpoaaGreat.makeSliceA
 repeat' split
 all_goals first
  |exact Loc.fail
  |exact Loc.bind (Loc.newB _) λ_=>Loc.ret _
theorem Loc.buildSliceA(t:TypeId)(n:Nat)(ps:List (Nat × AV)):Loc (buildSliceA P t n ps):=by
 unfold Go.Proofs.YtlmhajfbpplpoaaGreat.buildSliceA
 repeat' split
 all_goals first
  |exact Loc.fail
  |exact Loc.bind (Loc.newB _) λ_=>Loc.ret _
theorem Loc.allocA(t:TypeId):Loc (allocA P t):=by
 grind [Go.Proofs.YtlmhajfbpplpoaaGreat.allocA,Loc.bind,Loc.fail,Loc.newB,Loc.ret]
theorem Loc.boxA(x:AV):Loc (boxA x):=by
 grind [Go.Proofs.YtlmhajfbpplpoaaGreat.boxA,Loc.bind,Loc.fail,Loc.newB,Loc.ret]
theorem Loc.aop{Γ:FuncId->Ad->AM AV}(hΓ:∀ f args,Loc (Γ f args))(o:Oper)(ρ:Operand->AV):Loc (aop P Γ o ρ):=by
 unfold Go.Proofs.YtlmhajfbpplpoaaGreat.aop;split
 all_goals repeat' split
 all_goals first
  |exact Loc.fail
  |exact Loc.ret _
  |exact Loc.opt _
  |exact Loc.allocA _
  |exact Loc.boxA _
  |exact Loc.buildSliceA _ _ _
  |exact Loc.loadA _ _
  |exact Loc.storeA _ _ _
  |exact Loc.makeSliceA _ _ _
  |exact Loc.appendA _ _ _
  |exact Loc.copyA _ _ _
  |exact Loc.clearA _ _
  |exact hΓ _ _
  |exact Loc.bind (Loc.newsA _ _) λ_=>Loc.opt _
  |exact Loc.bind (Loc.newB _) λ_=>Loc.ret _
end
def Post(μ:Mu)(F:AP)(w:World)(H:AH)(r:AV)(H':AH)(u:Value)(w':World):Prop:=
 ∃ μ' F',Rep μ' F' w' r u/\HRep μ' F' w' H'.get/\Later μ μ' F F' w w'/\WStep F w w'/\∀ b,(b<H.next\/H'.next<=b)->μ' b=μ b
def B5(μ:Mu)(H:AH):Prop:=∀ b,H.next<=b->H.below b->μ b=none
def RS(P:Program)(s:Sem Next)(m:AM AV)(μ:Mu)(F:AP)(w:World)(H:AH):Prop:=
 ∀ r H' ft,m H=some (r,H',ft)->∃ n u w',s.run P w=.ok n w'/\(n=.value u\/(n=.skip/\u=Go.undef))/\Post μ F w H r H' u w'
def ValS(P:Program)(s:Sem Value)(m:AM AV)(μ:Mu)(F:AP)(w:World)(H:AH):Prop:=
 ∀ r H' ft,m H=some (r,H',ft)->∃ u w',s.run P w=.ok u w'/\Post μ F w H r H' u w'
section
variable {P:Program} {μ:Mu} {F:AP} {w:World} {H:AH}
theorem bind_some{α β:Type}{m:AM α}{f:α->AM β}{H:AH}{b:β}{H':AH}{ft:Foot}(h:m.bind f H=some (b,H',ft)) :
  ∃ a H1 f1 f2,m H=some (a,H1,f1)/\f a H1=some (b,H',f2):=by
 unfold AM.bind at h
 cases e1:m H with
 |none=>simp[e1]at h
 |some r1=>
  obtain⟨a,H1,f1⟩:=r1;simp only[e1]at h
  cases e2:f a H1 with
  |none=>simp[e2]at h
  |some r2=>
   obtain⟨b',H2',f2⟩:=r2;simp only[e2,δ,Prod.mk.injEq]at h;obtain⟨rfl,rfl,rfl⟩:=h;exact⟨a,H1,f1,f2,rfl,e2⟩
theorem At{α:Type}{a b:α}{H H':AH}{ft:Foot}(h:AM.ret a H=some (b,H',ft)):b=a/\H'=H:=by
 grind [AM.ret]
theorem Aq{α:Type}{b:α}{H H':AH}{ft:Foot}(h:(AM.fail:AM α) H=some (b,H',ft)):False:=by simp[AM.fail]at h
theorem Ek{α:Type}{o:Option α}{b:α}{H H':AH}{ft:Foot}(h:AM.opt o H=some (b,H',ft)):o=some b/\H'=H:=by
 cases o with
 |none=>simp[AM.opt,AM.fail]at h
 |some a=>obtain⟨rfl,rfl⟩:=At h;exact⟨rfl,rfl⟩
theorem B0{b:Nat}{k:ABlk}{H H':AH}{ft:Foot}(h:AM.getB b H=some (k,H',ft)):H.get b=some k/\H'=H:=by
 grind [AM.getB]
theorem Ix{b:Nat}{k:ABlk}{u:Unit}{H H':AH}{ft:Foot}(h:AM.setB b k H=some (u,H',ft)):H'=H.put b k:=by
 grind [AM.setB]
theorem Su{b:Nat}{u:Unit}{H H':AH}{ft:Foot}(h:AM.delB b H=some (u,H',ft)):H'=H.del b:=by
 grind [AM.delB]
theorem Bz{α:Type}{c:Prop}[Decidable c]{m m':AM α}{H:AH}{r:α × AH × Foot}(h:(if c then m else m') H=some r):(c/\m H=some r)\/(¬ c/\m' H=some r):=by
 grind
theorem ED{r:AV}{u:Value}(hr:Rep μ F w r u)(hH:HRep μ F w H.get):Post μ F w H r H u w:=
 ⟨μ,F,hr,hH,Later.refl _ _ _,WStep.refl _ _,λ_ _=>rfl⟩
theorem DM{s:Sem Next}{r:AV}{u:Value}(hrun:s.run P w=.ok (.value u) w)(hr:Rep μ F w r u)(hH:HRep μ F w H.get):RS P s (AM.ret r) μ F w H:=λr' H' ft h=>by
 grind [ED,At]
theorem ValS.next{s:Sem Value}{m:AM AV}(h:ValS P s m μ F w H):RS P (do pure (.value (←s))) m μ F w H:=λr H' ft hm=>by
 obtain⟨u,w',h1,h2⟩:=h r H' ft hm;exact⟨.value u,u,w',by simp[h1],.inl rfl,h2⟩
theorem Gn{s:Sem Value}{m:AM AV}(hH:HRep μ F w H.get)(h:∀ r H' ft,m H=some (r,H',ft)->H'=H/\∃ u,s.run P w=.ok u w/\Rep μ F w r u):ValS P s m μ F w H:=λr H' ft hm=>by
 grind [ED]
theorem Iq(μ:Mu)(F:AP)(w:World):Rep μ F w AV.undef Go.undef:=by
 simp only[AV.undef,Rep];exact⟨trivial,rfl⟩
theorem Fk(μ:Mu)(F:AP)(w:World):∀(l:AI),l.all OG=true->RepList μ F w (l.map .v) l
 |[],_=>by simp only[List.map_nil,RepList]
 |x::r,h=>by
  simp only[Axn,η]at h;simp only[AwP,RepList];exact⟨x,r,rfl,by simp only[Rep];exact⟨trivial,h.1⟩,Fk μ F w r h.2⟩
theorem Od(μ:Mu)(F:AP)(w:World)(x:Value):Rep μ F w (FI x) x:=by
 cases x<;>simp only[FI]
 case agg cs=>
  split
  .rename_i h
   simp only[Rep];exact⟨cs,rfl,Fk μ F w _ h⟩
  .simp only[Rep]
 all_goals (simp only[Rep];exact⟨trivial,rfl⟩)
theorem AbS{xs:Ad}:∀{l:AI} {us:AI},Jx xs=some l->RepList μ F w xs us->us=l:=by
 induction xs with
 |nil=>intro l us h hr;simp only[Jx,δ]at h;simp only[RepList]at hr;rw[hr,h]
 |cons x r ih=>
  intro l us h hr
  cases x<;>simp only[Jx]at h<;>try (cases h;done)
  case v y=>
   split at h
   .rename_i l' hl
    simp only[δ]at h;subst h;simp only[RepList]at hr;obtain⟨u,t,rfl,h1,h2⟩:=hr;simp only[Rep]at h1;rw[ih hl h2,h1.1]
   .cases h
theorem AiC{x:AV}{y u:Value}(h:x.toVal=some y)(hr:Rep μ F w x u):u=y:=by
 cases x<;>simp only[AV.toVal]at h<;>try (cases h;done)
 case v z=>
  simp only[δ]at h;subst h;simp only[Rep]at hr;exact hr.1
 case agg cs=>
  split at h
  .rename_i l hl
   simp only[δ]at h;subst h;simp only[Rep]at hr;obtain⟨us,rfl,h2⟩:=hr;rw[←AbS hl h2]
  .cases h
theorem Y1{o:Oper}{ρ:Operand->AV}{a:Act}(hρ:∀ x∈o.op.operands,Rep μ F w (ρ x) (a.eval x))(hH:HRep μ F w H.get):RS P (execOp a.eval o) (AM.opt (C7 P o ρ)) μ F w H:=λr H' ft h=>by
 obtain⟨hg,rfl⟩:=Ek h;clear h;have h:=hg;clear hg;unfold C7 at h;split at h
 .rename_i hc
  simp only[η,Awu]at hc;obtain⟨hns,hall⟩:=hc
  cases hp:Az P (execOp (B9 ρ) o) with
  |none=>rw[hp]at h;simp at h
  |some n=>
   rw[hp]at h;simp only[Option.bind_some]at h;have he:execOp a.eval o=execOp (B9 ρ) o:=execOp_congr o (λcs b e=>by rw[e]at hns;simp[Co]at hns) λx hx=>by
    have:=hall x (by simpa using hx);obtain⟨y,hy⟩:=Option.isSome_iff_exists.1 this;unfold B9;rw[hy];exact AiC hy (hρ x hx)
   have hrun:=J7 _ hp w;rw[←he]at hrun
   cases n<;>simp only[AoB]at h<;>try (cases h;done)
   all_goals (simp only[δ]at h;subst h)
   case value y=>exact⟨_,y,w,hrun,.inl rfl,ED (Od _ _ _ _) hH⟩
   case skip=>exact⟨_,Go.undef,w,hrun,.inr ⟨rfl,rfl⟩,ED (Iq _ _ _) hH⟩
 .cases h
theorem D8{g:Nat}:∀{cs:Ad} {o:Nat},(∀ i x,cs[i]? = some x->∃ u,w.cell? ⟨g,o+i,none⟩=some u/\Rep μ F w x u)->∃ us:AI,RepList μ F w cs us/\∀ j v,us[j]? = some v->w.cell? ⟨g,o+j,none⟩=some v
 |[],o,_=>⟨[],by simp only[RepList],λj v h=>by simp at h⟩
 |x::r,o,h=>by
  obtain⟨u,h1,h2⟩:=h 0 x rfl;obtain⟨us,h3,h4⟩:=D8 (cs:=r) (o:=o+1) λi y hy=>by
   have:=h (i+1) y (by simpa using hy)
   rwa [show o+(i+1)=o+1+i by omega]at this
  refine⟨u::us,by simp only[RepList];exact⟨u,us,rfl,h2,h3⟩,λj v hj=>?_⟩
  cases j with
  |zero=>simp at hj;subst hj;exact h1
  |succ j=>
   have:=h4 j v (by simpa using hj)
   rwa [show o+1+j=o+(j+1) by omega]at this
theorem Rb{a:AV}{u:Value}{n:Nat}{cs:Ad}{H':AH}{ft:Foot}(hr:Rep μ F w a u)(hH:HRep μ F w H.get)(h:rdAt a n H=some (cs,H',ft)) :
  H'=H/\cs.length=n/\∃ g o,u=.pointer (some ⟨g,o,none⟩)/\∃ us:AI,RepList μ F w cs us/\∀ j v,us[j]? = some v->w.cell? ⟨g,o+j,none⟩=some v:=by
 cases a<;>simp only[rdAt]at h<;>try exact(Aq h).elim
 case ptr b o=>
  obtain⟨k,H1,f1,f2,h1,h2⟩:=bind_some h;obtain⟨hk,rfl⟩:=B0 h1;rcases Bz h2 with⟨hc,h2⟩|⟨_,h2⟩
  .obtain⟨rfl,rfl⟩:=At h2
   simp only[Rep]at hr;obtain⟨p,hp,rfl⟩:=hr;obtain⟨p',hp',hB⟩:=hH.blk b k hk;rw[hp]at hp'
   cases hp'
   refine⟨rfl,by simp;omega,p.g,p.o+o,rfl,D8 λi x hx=>?_⟩;simp only[Aw8,Axw]at hx;split at hx
   .obtain⟨u,h1,h2⟩:=hB.cell (o+i) x hx
    exact⟨u,by rwa [AwA],h2⟩
   .cases hx
  .exact(Aq h2).elim
 case lp l=>
  rcases Bz h with⟨hc,h2⟩|⟨_,h2⟩
  .obtain⟨rfl,rfl⟩:=At h2
   simp only[Rep]at hr;obtain⟨_,g,o,rfl,hat⟩:=hr;refine⟨rfl,by simp;omega,g,o,rfl,D8 λi x hx=>?_⟩;simp only[Aw8]at hx;split at hx
   .exact(hat.get hx).2
   .cases hx
  .exact(Aq h2).elim
theorem Dl{t:TypeId}{n:Nat}(h:Eg P t=some n):∃ i,P.info? t=some i/\i.size=n:=by
 unfold Eg at h
 cases e:P.info? t with
 |none=>simp[e]at h
 |some i=>simp[e]at h;exact⟨i,rfl,h⟩
theorem K4{t:TypeId}{b:Bool}(h:Cs P t=some b):(isAgg t).run P w=.ok b w:=by
 unfold Cs at h
 cases e:P.underlying t with
 |none=>simp[e]at h
 |some d=>
  simp only[e,AwE,δ]at h;unfold isAgg;rw[Sem.run_bind,run_underlying e w]
  cases d<;>simp_all [Agk]
theorem Md{t:TypeId}{a:AV}{u:Value}(hr:Rep μ F w a u)(hH:HRep μ F w H.get){r:AV}{H':AH}{ft:Foot}(h:loadA P t a H=some (r,H',ft)):H'=H/\(∃ u',(Instr.loadAt t u).run P w=.ok u' w/\Rep μ F w r u')/\∃ p,u=.pointer (some p):=by
 unfold loadA at h;rcases h1:Cs P t with _|_|_<;>rw[h1]at h
 .exact(Aq h).elim
 rotate_left
 .rcases h2:Eg P t with _|n<;>rw[h2]at h
  .exact(Aq h).elim
  simp only at h;obtain⟨cs,H1,f1,f2,h3,h4⟩:=bind_some h;obtain⟨rfl,hn,g,o,rfl,us,hl,hc⟩:=Rb hr hH h3;obtain⟨rfl,rfl⟩:=At h4;obtain⟨i,hi,hsz⟩:=Dl h2;refine⟨rfl,⟨.agg us.toArray,?_,by simp only[Rep];exact⟨us.toArray,rfl,by simpa using hl⟩⟩,_,rfl⟩;have:=run_loadCells_list (P:=P) w ⟨g,o,none⟩ us (λj v hv=>by rw[Addr.add_mid];exact hc j v hv);rw[hl.length,hn]at this;simp[Instr.loadAt,Instr.sureAddr,loadVar,Sem.run_bind,K4 h1,sizeOf,typeInfo,hi,hsz,this]
 .simp only at h
  obtain⟨cs,H1,f1,f2,h3,h4⟩:=bind_some h;obtain⟨rfl,hn,g,o,rfl,us,hl,hc⟩:=Rb hr hH h3;obtain⟨h5,rfl⟩:=Ek h4
  match cs,hn,h5 with
  |[x],_,h5=>
   simp only[ZI,δ]at h5;subst h5;simp only[RepList]at hl;obtain⟨v,l,rfl,hx,_⟩:=hl;refine⟨rfl,⟨v,?_,hx⟩,_,rfl⟩;have:=hc 0 v rfl;simp[Instr.loadAt,Instr.sureAddr,loadVar,Sem.run_bind,K4 h1];rw[Axg]at this;simp[this]
theorem WS{t:TypeId}{a:AV}{u:Value}(hr:Rep μ F w a u)(hH:HRep μ F w H.get):ValS P (Instr.loadAt t u) (loadA P t a) μ F w H:=Gn hH λ_ _ _ h=>⟨(Md hr hH h).1,(Md hr hH h).2.1⟩
end
section
variable {P:Program} {μ:Mu} {F:AP} {w:World} {H:AH}
theorem G9(H:AH)(b:Nat)(k:ABlk):(H.put b k).get=λc=>if c=b then some k else H.get c:=funext λc=>AH.get_put H b c k
theorem IU(H:AH)(b:Nat)(k:ABlk)(n:Nat)(t:Option Nat):AH.get ⟨(b,k)::H.bs,n,t⟩=λc=>if c=b then some k else H.get c:=funext λc=>FA b k H n t c
theorem Vh{t:TypeId}{a x:AV}{u v:Value}(hr:Rep μ F w a u)(hx:Rep μ F w x v)(hH:HRep μ F w H.get):RS P (do (Instr.storeAt t u v);pure .skip) (storeA P t a x) μ F w H:=λr H' ft h=>by
 unfold storeA at h
 cases a<;>try (exact(Aq h).elim)
 case ptr b o=>
  rcases h2:Eg P t with _|n<;>rw[h2]at h
  .exact(Aq h).elim
  simp only at h;rcases Bz h with⟨⟨hn,hone⟩,h⟩|⟨_,h⟩
  rotate_left
  .exact(Aq h).elim
  obtain⟨k,H1,f1,f2,h3,h4⟩:=bind_some h;obtain⟨hk,rfl⟩:=B0 h3;rcases Bz h4 with⟨⟨hst,hlen,hpu⟩,h4⟩|⟨_,h4⟩
  rotate_left
  .exact(Aq h4).elim
  obtain⟨_,H2,f3,f4,h5,h6⟩:=bind_some h4;have:=Ix h5;subst this;obtain⟨rfl,rfl⟩:=At h6;simp only[Rep]at hr;obtain⟨p,hp,rfl⟩:=hr;have htup:Jn x=false:=by
   cases x<;>simp only[Jn]<;>simp[AV.cells,AV.one]at hone
  have hcl:=hx.cells htup;obtain⟨q1,q2,q3⟩:=QB hH hk hp hst o x.cells v.cells.toList (by omega) hcl (λhx=>by simpa[hx]using hpu);obtain⟨i,hi,hsz⟩:=Dl h2;have hlen2:=hcl.length;have hB:BRep μ F w p k:=by
   obtain⟨p',hp',hB⟩:=hH.blk b k hk;rw[hp]at hp';cases hp';exact hB
  have hrun:=run_storeCells_cells (P:=P) p.g (p.o+o) v.cells.toList 0 w (λj hj=>by
    obtain⟨⟨y,hy⟩,_⟩:=hB.there (o+j) (by have:=hB.room;omega);rw[←AwA]at hy;rw[Axg,hy];rfl) (λj hj=>by
    have:=(hB.there (o+j) (by have:=hB.room;omega)).2;rw[←AwA]at this;rw[Axg];exact this) (λy hy=>by
    obtain⟨j,hj,rfl⟩:=AxF hy;have hj2:j<x.cells.length:=by omega
    obtain⟨u,h1,h2⟩:=hcl.get (Ψ hj2);rw[Ψ hj]at h1
    cases h1
    exact h2.one (Awu.1 hone _ (Awy hj2)))
  refine⟨.skip,Go.undef,w.setCells p.g (p.o+o) v.cells.toList,?_,.inr ⟨rfl,rfl⟩,?_⟩
  .simp_all [Instr.storeAt,Instr.sureAddr,sizeOf,storeVar,typeInfo]
  .refine⟨μ,F,Iq _ _ _,?_,q2,q3,λ_ _=>rfl⟩
   rw[G9];exact q1
theorem PO{p:Pl}{b c:Nat}(h:c≠b):(Mu.set μ b p) c=μ c:=by unfold Mu.set;rw[Ab h]
theorem Adf{k:Ad}{arr:Array Value}{t:TypeId}{fr:Nat × Nat}{ex:Bool}{b:Nat}{H1:AH}{ft:Foot}(hH:HRep μ F w H.get)(hf:B5 μ H)(h:AM.newB ⟨k,true,ex⟩ H=some (b,H1,ft))
  (hfr:arr.size<=fr.1\/fr.2=0) (hlen:k.length<=arr.size) (hc:RepList μ F w k (arr.toList.take k.length)) (hpu:ex=true->A4 k=true) :
  b=H.next/\H1.next=H.next+1/\HRep (μ.set b ⟨w.heap.size,0,arr.size⟩) F (w.alloc (.cells arr t fr)) H1.get/\Later μ (μ.set b ⟨w.heap.size,0,arr.size⟩) F F w (w.alloc (.cells arr t fr)):=by
 obtain⟨hb,hr⟩:=FH h;simp only[Prod.mk.injEq]at hr;obtain⟨rfl,rfl,rfl⟩:=hr;obtain⟨q1,q2⟩:=WC hH (hf _ (ω _) hb) k arr t fr ex hfr hlen hc hpu;refine⟨rfl,rfl,?_,q2⟩;rw[IU];exact q1
theorem J6{k:Ad}{arr:Array Value}{t:TypeId}{fr:Nat × Nat}{ex:Bool}{b:Nat}{H1:AH}{ft:Foot}{r:AV}{u:Value}(hH:HRep μ F w H.get)(hf:B5 μ H)(h:AM.newB ⟨k,true,ex⟩ H=some (b,H1,ft))
  (hfr:arr.size<=fr.1\/fr.2=0) (hlen:k.length<=arr.size) (hc:RepList μ F w k (arr.toList.take k.length)) (hpu:ex=true->A4 k=true) (hr:Rep (μ.set b ⟨w.heap.size,0,arr.size⟩) F (w.alloc (.cells arr t fr)) r u):Post μ F w H r H1 u (w.alloc (.cells arr t fr)):=by
 obtain⟨rfl,hn,q1,q2⟩:=Adf (t:=t) (fr:=fr) hH hf h hfr hlen hc hpu;exact⟨_,F,hr,q1,q2,WStep.alloc _ _ _,λc hc=>PO (by omega)⟩
theorem Ez{t:TypeId}{z:Value}(h:Dq P t=some z):∃ i,P.info? t=some i/\i.zero=some z/\z.cells.toList.all OG=true:=by
 unfold Dq at h
 cases e:P.info? t with
 |none=>simp[e]at h
 |some i=>
  simp only[e]at h
  cases e2:i.zero with
  |none=>simp[e2]at h
  |some z'=>
   simp only[e2]at h;split at h
   .grind
   .cases h
theorem TY{t:TypeId}(hH:HRep μ F w H.get)(hf:B5 μ H):ValS P (Instr.alloc t true (.tuple #[])) (allocA P t) μ F w H:=λr H' ft h=>by
 unfold allocA at h;rcases hz:Dq P t with _|z<;>rw[hz]at h
 .exact(Aq h).elim
 simp only at h;obtain⟨b,H1,f1,f2,h1,h2⟩:=bind_some h;obtain⟨rfl,rfl⟩:=At h2;obtain⟨i,hi,hz2,hfl⟩:=Ez hz;refine⟨.pointer (some ⟨w.heap.size,0,none⟩),w.alloc (.cells z.cells t),?_,J6 (t:=t) (fr:=(0,0)) hH hf h1 (.inr rfl) (by simp) (by rw[Aw0,AxD];exact Fk μ F w _ hfl) (λh=>by cases h) ?_⟩
 .simp_all [Instr.alloc,newRow,newVar,typeInfo,zeroValue]
 .simp only[Rep]
  exact⟨_,by unfold Mu.set;rw[Ac rfl],by simp⟩
theorem Yn{t:TypeId}{x:AV}{v:Value}(hx:Rep μ F w x v)(hH:HRep μ F w H.get)(hf:B5 μ H):ValS P (Instr.box t v) (boxA x) μ F w H:=λr H' ft h=>by
 unfold boxA at h;rcases Bz h with⟨_,h⟩|⟨hnt,h⟩
 .exact(Aq h).elim
 obtain⟨b,H1,f1,f2,h1,h2⟩:=bind_some h;obtain⟨rfl,rfl⟩:=At h2;have hcl:=hx.cells (by simpa using hnt);have hl:=hcl.length;refine⟨.pointer (some ⟨w.heap.size,0,none⟩),w.alloc (.cells v.cells t),?_,J6 (t:=t) (fr:=(0,0)) hH hf h1 (.inr rfl) (by rw[←hl,Axe];exact ω _) (by rw[←hl,AxD];exact hcl) (λh=>by cases h) ?_⟩
 .simp[Instr.box,newVar,newRow]
 .simp only[Rep]
  exact⟨_,by unfold Mu.set;rw[Ac rfl],by simp⟩
theorem Qm{x:AV}{v:Value}{i:Nat}(hx:Rep μ F w x v)(hH:HRep μ F w H.get):ValS P (Instr.extract v i) (AM.opt (MR x i)) μ F w H:=Gn hH λr H' ft h=>by
 obtain⟨hg,rfl⟩:=Ek h;clear h;have h:=hg;clear hg;unfold MR at h
 cases x<;>try (cases h;done)
 case tup vs=>
  simp only[Rep]at hx;obtain⟨us,rfl,hl⟩:=hx;obtain⟨u,h1,h2⟩:=hl.get h;refine⟨rfl,u,?_,h2⟩;simp only[Ax3]at h1;simp[Instr.extract,h1]
theorem RepList.sub{xs:Ad}{us:AI}(h:RepList μ F w xs us)(o n:Nat):RepList μ F w ((xs.drop o).take n) ((us.drop o).take n):=by
 have hl:=h.length;refine RepList.mk (by simp[hl]) λi x hx=>?_
 simp only[Aw8,Axw]at hx ⊢;split at hx
 .rename_i hi
  obtain⟨u,h1,h2⟩:=h.get hx;exact⟨u,by rw[Ac hi];exact h1,h2⟩
 .cases hx
theorem OV{t:TypeId}{cs:Ad}{us:Array Value}{off:Nat}{r:AV}(hl:RepList μ F w cs us.toList)(h:Tl P t cs off=some r):∃ u,(part t us off).run P w=.ok u w/\Rep μ F w r u:=by
 unfold Tl at h;rcases h1:Cs P t with _|_|_<;>rw[h1]at h
 .cases h
 .simp only at h
  obtain⟨u,h2,h3⟩:=hl.get h;simp only[Ax3]at h2;exact⟨u,by simp[part,Sem.run_bind,K4 h1,h2],h3⟩
 .rcases h2:Eg P t with _|n<;>rw[h2]at h
  .cases h
  simp only[δ]at h;subst h;obtain⟨i,hi,hsz⟩:=Dl h2;refine⟨.agg (us.extract off (off+n)),by simp[part,Sem.run_bind,K4 h1,sizeOf,typeInfo,hi,hsz],?_⟩;simp only[Rep];refine⟨_,rfl,?_⟩;rw[Az2,Az0,Nat.add_sub_cancel_left];exact hl.sub off n
theorem IT{t:TypeId}{fs:Array Field}(h:C6 P t=some fs):P.underlying t=some (.struct fs):=by
 grind [C6]
theorem CQ{t e:TypeId}(h:Cz P t=some e):P.underlying t=some (.slice e):=by
 grind [Cz]
theorem Si{t e:TypeId}{n:Nat}(h:RW P t=some (n,e)):P.underlying t=some (.array n e):=by
 grind [RW]
theorem Uu{t:TypeId}{x:AV}{v:Value}{f:Nat}(hx:Rep μ F w x v)(hH:HRep μ F w H.get):ValS P (Instr.field t v f) (AM.opt (Qn P t x f)) μ F w H:=Gn hH λr H' ft h=>by
 obtain⟨hg,rfl⟩:=Ek h;clear h;have h:=hg;clear hg;unfold Qn at h
 cases x<;>try (cases h;done)
 case agg cs=>
  rcases h1:C6 P t with _|fs<;>rw[h1]at h
  .cases h
  simp only at h;rcases h2:fs[f]? with _|fd<;>rw[h2]at h
  .cases h
  simp only at h;simp only[Rep]at hx;obtain⟨us,rfl,hl⟩:=hx;obtain⟨u,h3,h4⟩:=OV (off:=fd.offset) hl h;refine⟨rfl,u,?_,h4⟩;simp[Instr.field,run_underlying (IT h1),h2,asAgg,h3]
theorem OS{x r:AV}{v:Value}{n:Nat}(hx:Rep μ F w x v)(h:QU x n=some r):∃ g o,v=.pointer (some ⟨g,o,none⟩)/\Rep μ F w r (.pointer (some ⟨g,o+n,none⟩)):=by
 unfold QU at h
 cases x<;>try (cases h;done)
 case ptr b o=>
  simp only[δ]at h;subst h;simp only[Rep]at hx ⊢;obtain⟨p,hp,rfl⟩:=hx;exact⟨p.g,p.o+o,rfl,p,hp,by rw[AwA]⟩
 case lp cs=>
  simp only[δ]at h;subst h;simp only[Rep]at hx ⊢;obtain⟨h0,g,o,rfl,hat⟩:=hx;refine⟨g,o,rfl,?_,g,o+n,rfl,hat.drop n⟩;rw[BN]at h0 ⊢;simp only[Awu]at h0 ⊢;exact λx hx=>h0 x (Axq hx)
theorem NV{t:TypeId}{x:AV}{v:Value}{f:Nat}(hx:Rep μ F w x v)(hH:HRep μ F w H.get):ValS P (Instr.fieldAt t v f) (AM.opt (IS P t x f)) μ F w H:=Gn hH λr H' ft h=>by
 obtain⟨hg,rfl⟩:=Ek h;clear h;have h:=hg;clear hg;unfold IS at h;rcases h1:C6 P t with _|fs<;>rw[h1]at h
 .cases h
 simp only at h;rcases h2:fs[f]? with _|fd<;>rw[h2]at h
 .cases h
 simp only at h;rcases h3:Eg P fd.type with _|_|n<;>rw[h3]at h
 .cases h
 .cases h
 simp only at h;obtain⟨g,o,rfl,hr⟩:=OS hx h;obtain⟨i,hi,hsz⟩:=Dl h3;refine⟨rfl,_,?_,hr⟩;simp[Instr.fieldAt,run_underlying (IT h1),h2,Instr.sureAddr,fieldPlace,sizeOf,typeInfo,hi,hsz,Addr.add_mid]
theorem FE{x:AV}{v:Value}{i:Nat}(hx:Rep μ F w x v)(h:x.idx=some i):∃ k,v=.int k (i:Int):=by
 unfold AV.idx at h;split at h
 .grind [Rep]
 .cases h
theorem NZ{t:TypeId}{x ix:AV}{v y:Value}{r:AV}(hx:Rep μ F w x v)(hy:Rep μ F w ix y)(h:Er P t x ix=some r):∃ u,(Instr.indexAt t v y).run P w=.ok u w/\Rep μ F w r u:=by
 unfold Er at h;rcases h1:ix.idx with _|i<;>rw[h1]at h
 .cases x<;>simp at h
 rcases h2:Cz P t with _|et<;>rw[h2]at h
 .cases x<;>simp at h
 obtain⟨k,rfl⟩:=FE hy h1;have hu:=CQ h2
 cases x<;>try (cases h;done)
 case sl b o n e=>
  simp only at h;split at h
  .rename_i hc
   obtain⟨hin,hse⟩:=hc;simp only[δ]at h;subst h;simp only[Rep]at hx;obtain⟨p,hp,⟨hn0,_⟩|⟨q,c,rfl,hq,hnc,hcm,hroom⟩⟩:=hx
   .omega
   obtain⟨inf,hinf,hsz⟩:=Dl hse;have hq':=hq (by omega);refine⟨.pointer (some ⟨p.g,p.o+(o+i*e),none⟩),?_,by simp only[Rep];exact⟨p,hp,rfl⟩⟩;simp[Instr.indexAt,asIntOf,run_underlying hu,hin,sizeOf,typeInfo,hinf,hsz,Addr.add_mid,hq',AwA]
  .cases h
 case ls xs=>
  simp only at h;rcases h3:xs[i]? with _|cs<;>rw[h3]at h
  .cases h
  simp only at h;split at h
  .rename_i hse
   simp only[δ]at h;subst h;simp only[Rep]at hx;obtain⟨h0,A,c,rfl,hnc,hcm,hne⟩:=hx;have h0':A4 cs=true:=Awu.1 h0 cs (List.mem_of_getElem? h3);have hil:i<xs.length:=(AwQ.1 h3).1;obtain⟨g,o,e,rfl,hrows⟩:=hne (by rintro rfl;simp at hil);obtain⟨hce,hat⟩:=hrows.get h3;obtain⟨inf,hinf,hsz⟩:=Dl hse;refine⟨.pointer (some ⟨g,o+i*e,none⟩),?_,by simp only[Rep];exact⟨h0',g,_,rfl,hat⟩⟩;simp[Instr.indexAt,asIntOf,run_underlying hu,hil,sizeOf,typeInfo,hinf,hsz,hce,Addr.add_mid]
  .cases h
theorem P5{t:TypeId}{x ix:AV}{v y:Value}{r:AV}(hx:Rep μ F w x v)(hy:Rep μ F w ix y)(h:MA P t x ix=some r):∃ u,(Instr.indexAt t v y).run P w=.ok u w/\Rep μ F w r u:=by
 unfold MA at h;rcases h2:RW P t with _|⟨n,et⟩<;>rw[h2]at h
 .cases h
 rcases h1:ix.idx with _|i<;>rw[h1]at h
 .cases h
 simp only at h;rcases h3:Eg P et with _|e<;>rw[h3]at h
 .cases h
 simp only at h;split at h
 .rename_i hin
  obtain⟨k,rfl⟩:=FE hy h1;obtain⟨g,o,rfl,hr⟩:=OS hx h;obtain⟨inf,hinf,hsz⟩:=Dl h3;refine⟨_,?_,hr⟩;simp[Instr.indexAt,asIntOf,run_underlying (Si h2),Instr.sureAddr,hin,sizeOf,typeInfo,hinf,hsz,Addr.add_mid]
 .cases h
theorem Uz{t:TypeId}{x ix:AV}{v y:Value}{r:AV}(hx:Rep μ F w x v)(hy:Rep μ F w ix y)(h:JO P t x ix=some r):∃ u,(Instr.index t v y).run P w=.ok u w/\Rep μ F w r u:=by
 unfold JO at h
 cases x<;>try (cases h;done)
 case agg cs=>
  rcases h2:RW P t with _|⟨n,et⟩<;>rw[h2]at h
  .cases h
  rcases h1:ix.idx with _|i<;>rw[h1]at h
  .cases h
  simp only at h;rcases h3:Eg P et with _|e<;>rw[h3]at h
  .cases h
  simp only at h;split at h
  .rename_i hin
   obtain⟨k,rfl⟩:=FE hy h1;simp only[Rep]at hx;obtain⟨us,rfl,hl⟩:=hx;obtain⟨u,h4,h5⟩:=OV (off:=i*e) hl h;obtain⟨inf,hinf,hsz⟩:=Dl h3;refine⟨u,?_,h5⟩;simp[Instr.index,asIntOf,run_underlying (Si h2),hin,sizeOf,typeInfo,hinf,hsz,h4]
  .cases h
end
section
variable {P:Program} {μ:Mu} {F:AP} {w:World} {H:AH}
theorem RepList.set{xs:Ad}{us:AI}(h:RepList μ F w xs us){x:AV}{u:Value}(hx:Rep μ F w x u)(i:Nat):RepList μ F w (xs.set i x) (us.set i u):=by
 refine RepList.mk (by simp[h.length]) λj y hy=>?_
 rw[List.getElem?_set]at hy ⊢
 by_cases e:i=j
 .subst e
  rw[Ac rfl]at hy ⊢;rw[h.length];split at hy
  .grind
  .cases hy
 .rw[Ab e]at hy ⊢
  exact h.get hy
theorem No(off:Nat):∀(vs:Ad) (us:AI) (k:Nat) (cs:Ad) (arr:Array Value),RepList μ F w vs us->RepList μ F w cs arr.toList->
  RepList μ F w ((vs.zipIdx k).foldl (λcs p=>cs.set (off+p.2) p.1) cs) ((us.zipIdx k).foldl (λ(cs:Array Value) p=>cs.setIfInBounds (off+p.2) p.1) arr).toList
 |[],us,k,cs,arr,h,hc=>by simp only[RepList]at h;subst h;exact hc
 |x::r,us,k,cs,arr,h,hc=>by
  simp only[RepList]at h;obtain⟨u,t,rfl,h1,h2⟩:=h;simp only[List.zipIdx_cons,Aye];refine No off r t (k+1) _ _ h2 ?_;rw[Array.toList_setIfInBounds];exact hc.set h1 _
def Jy(μ:Mu)(F:AP)(w:World):List (Nat × AV)->List (Nat × Value)->Prop
 |[],vs=>vs=[]
 |(i,x)::r,vs=>∃ v t,vs=(i,v)::t/\Rep μ F w x v/\Jy μ F w r t
theorem G6{place:Nat->Option (Nat × Nat)}:∀(ps:List (Nat × AV)) (vs:List (Nat × Value)) (cs:Ad) (arr:Array Value) {out:Ad},Jy μ F w ps vs->ps.any (λp=>Jn p.2)=false->RepList μ F w cs arr.toList->
  Gw place cs ps=some out->∃ arr',Instr.fill place arr vs=some arr'/\RepList μ F w out arr'.toList
 |[],vs,cs,arr,out,hp,_,hc,h=>by
  simp only[Jy]at hp;subst hp;simp only[Gw,δ]at h;subst h;exact⟨arr,rfl,hc⟩
 | (i,x)::r,vs,cs,arr,out,hp,ht,hc,h=>by
  simp only[Jy]at hp;obtain⟨v,t,rfl,h1,h2⟩:=hp;simp only[List.any_cons,Bool.or_eq_false_iff]at ht;have hcl:=h1.cells ht.1;have hl:=hcl.length;rw[Axe]at hl;have hl2:=hc.length;rw[Axe]at hl2;simp only[Gw]at h;simp only[Instr.fill]
  cases e:place i with
  |none=>rw[e]at h;cases h
  |some q=>
   obtain⟨off,size⟩:=q;rw[e]at h;simp only at h ⊢;split at h
   .cases h
   .rename_i hn
    rw[Ab (by simp only[Bool.or_eq_true,decide_eq_true_eq];omega)];have:=No (w:=w) off x.cells v.cells.toList 0 cs arr hcl hc;refine G6 r t _ _ h2 ht.2 ?_ h;rw[←Array.foldl_toList,Array.toList_zipIdx];exact this
theorem RZ{t:TypeId}{ps:List (Nat × AV)}{vs:Array (Nat × Value)}(hp:Jy μ F w ps vs.toList)(hH:HRep μ F w H.get):ValS P (Instr.build t vs) (AM.opt (PA P t ps)) μ F w H:=Gn hH λr H' ft h=>by
 obtain⟨hg,rfl⟩:=Ek h;unfold PA at hg;rcases h1:Dq P t with _|z<;>rw[h1]at hg
 .cases hg
 rcases h2:C6 P t with _|fs<;>rw[h2]at hg
 .cases hg
 simp only at hg;rcases h3:KY P fs.toList with _|pl<;>rw[h3]at hg
 .cases hg
 simp only at hg;split at hg
 .cases hg
 .rename_i ht
  rcases h4:Gw (λx=>pl[x]?) (z.cells.toList.map .v) ps with _|out<;>rw[h4]at hg
  .cases hg
  simp only[AwE,δ]at hg;subst hg;obtain⟨i,hi,hz,hfl⟩:=Ez h1;obtain⟨arr',h5,h6⟩:=G6 ps vs.toList _ z.cells hp (by simpa using ht) (Fk μ F w _ hfl) h4;refine⟨rfl,.agg arr',?_,by simp only[Rep];exact⟨arr',rfl,h6⟩⟩;refine run_build w t vs arr' ?_;unfold Program.built;unfold KY at h3;simp only[hi,IT h2,hz,h3];simpa using h5
theorem Yj{t e:TypeId}(h:P6 P t=some e):∃ n,P.underlying t=some (.array n e):=by
 grind [P6]
theorem RY{t:TypeId}{ps:List (Nat × AV)}{vs:Array (Nat × Value)}(hp:Jy μ F w ps vs.toList)(hH:HRep μ F w H.get):ValS P (Instr.build t vs) (AM.opt (Pz P t ps)) μ F w H:=Gn hH λr H' ft h=>by
 obtain⟨hg,rfl⟩:=Ek h;unfold Pz at hg;rcases h1:Dq P t with _|z<;>rw[h1]at hg
 .cases hg
 rcases h2:P6 P t with _|et<;>rw[h2]at hg
 .cases hg
 simp only at hg;rcases h3:Eg P et with _|e<;>rw[h3]at hg
 .cases hg
 simp only at hg;split at hg
 .cases hg
 .rename_i ht
  rcases h4:Gw (λi=>some (i*e,e)) (z.cells.toList.map .v) ps with _|out<;>rw[h4]at hg
  .cases hg
  simp only[AwE,δ]at hg;subst hg;obtain⟨i,hi,hz,hfl⟩:=Ez h1;obtain⟨n,hu⟩:=Yj h2;obtain⟨ie,hie,hsz⟩:=Dl h3;subst hsz;obtain⟨arr',h5,h6⟩:=G6 ps vs.toList _ z.cells hp (by simpa using ht) (Fk μ F w _ hfl) h4;refine⟨rfl,.agg arr',?_,by simp only[Rep];exact⟨arr',rfl,h6⟩⟩;refine run_build w t vs arr' ?_;unfold Program.built;simp only[hi,hu,hz,hie];exact h5
theorem Ub{t:TypeId}{ps:List (Nat × AV)}{vs:Array (Nat × Value)}(hp:Jy μ F w ps vs.toList)(hH:HRep μ F w H.get):ValS P (Instr.build t vs) (AM.opt (LQ P t ps)) μ F w H:=by
 grind [LQ,RY,RZ]
theorem Hm(z:Array Value)(n:Nat)(hz:z.toList.all OG=true):RepList μ F w (Cx (z.toList.map .v) n) ((Ayg n).map (λi=>z[i % z.size]!)).toList:=by
 unfold Cx;refine RepList.mk (by rw[Axe,Az3,Array.size_range,Aw0,AyA]) λi x hx=>?_
 have hi:i<n:=by have:=(AwQ.1 hx).1;simpa using this
 simp only[Axo,List.getElem?_range hi,AwE,δ,Aw0,Axe]at hx;refine⟨z[i % z.size]!,by simp[hi],?_⟩;subst hx
 by_cases h:i % z.size<z.size
 .grind [Rep]
 .rw[Ax3,Axr (by omega)]
  simp only[AyL,Option.getD_none,Rep];exact⟨by simp[h],rfl⟩
theorem J0(z:AI)(n:Nat):A4 (Cx (z.map .v) n)=true:=by
 rw[BN,Awu];intro x hx;unfold Cx at hx;simp only[AxU,Aw0,Axo]at hx;obtain⟨i,_,rfl⟩:=hx
 cases z[i % z.length]?<;>rfl
theorem MI{t:TypeId}{n:Nat}{ps:List (Nat × AV)}{vs:Array (Nat × Value)}(hp:Jy μ F w ps vs.toList)(hH:HRep μ F w H.get)(hf:B5 μ H):ValS P (Instr.buildSlice t n vs) (buildSliceA P t n ps) μ F w H:=λr H' ft h=>by
 unfold buildSliceA at h;rcases h1:Cz P t with _|et<;>rw[h1]at h
 .exact(Aq h).elim
 simp only at h;rcases h2:Eg P et with _|e<;>rw[h2]at h
 .exact(Aq h).elim
 rcases h3:Dq P et with _|z<;>rw[h3]at h
 .exact(Aq h).elim
 simp only at h;rcases Bz h with⟨⟨c1,c2,c3⟩,h⟩|⟨_,h⟩
 rotate_left
 .exact(Aq h).elim
 rcases h4:Gw (λi=>some (i*e,e)) (Cx (z.cells.toList.map .v) (n*e)) ps with _|cs<;>rw[h4]at h
 .exact(Aq h).elim
 simp only at h;obtain⟨ex,hpu,h⟩:∃ ex:Bool,(ex=true->A4 cs=true)/\((AM.newB ⟨cs,true,ex⟩).bind λb=>AM.ret (.sl b 0 n e)) H=some (r,H',ft):=by
  grind
 obtain⟨b,H1,f1,f2,h5,h6⟩:=bind_some h;obtain⟨rfl,rfl⟩:=At h6;obtain⟨i,hi,hz,hfl⟩:=Ez h3;obtain⟨i',hi',hsz⟩:=Dl h2;rw[hi]at hi'
 cases hi'
 obtain⟨arr',h7,h8⟩:=G6 ps vs.toList _ _ hp c3 (Hm z.cells (n*e) hfl) h4;have hl:=h8.length;rw[Axe]at hl;have hlen:∀(ps:List (Nat × AV)) (cs out:Ad),Gw (λi=>some (i*e,e)) cs ps=some out->out.length=cs.length:=by
  intro ps
  induction ps with
  |nil=>intro cs out h;simp only[Gw,δ]at h;rw[h]
  |cons p r ih=>
   intro cs out h;obtain⟨j,x⟩:=p;simp only[Gw]at h;split at h
   .cases h
   .have:=ih _ _ h
    rw[this];unfold Aif;have gen:∀(l:List (AV × Nat)) (cs:Ad),(l.foldl (λcs p=>cs.set (j*e+p.2) p.1) cs).length=cs.length:=by
     intro l
     induction l with
     |nil=>intro cs;rfl
     |cons q l ih=>intro cs;simp only[Aye];rw[ih];simp
    exact gen _ _
 have hcs:=hlen _ _ _ h4;have hcs2:cs.length=n*e:=by rw[hcs];unfold Cx;rw[Aw0,AyA]
 refine⟨.slice (some ⟨w.heap.size,0,none⟩) n n,w.alloc (.cells arr' et),?_,J6 (t:=et) (fr:=(0,0)) hH hf h5 (.inr rfl) (by omega) (by rw[←Axe,h8.length]at hl;rw[←h8.length,AxD];exact h8) hpu ?_⟩
 .have hbig:¬ (n*i.size > 2 ^ 24):=by rw[hsz];omega
  subst hsz
  by_cases h0:n*i.size=0
  .simp[Instr.buildSlice,run_underlying (CQ h1),sizeOf,typeInfo,hi,h0,newRow]
   have:Instr.fill (λj=>some (j*i.size,i.size)) #[] vs.toList=some arr':=by
    grind
   rw[show (Array.map (λ_=>(default:Value)) (Ayg 0))=#[] from by rw[Array.range_zero'];simp,this];rfl
  .simp[Instr.buildSlice,run_underlying (CQ h1),sizeOf,typeInfo,zeroValue,hi,hz,h0,newRow]
   rw[Ab (by omega)];rw[h7];rfl
 .simp only[Rep]
  exact⟨_,by unfold Mu.set;rw[Ac rfl],.inr ⟨0,n,rfl,λ_=>rfl,ω _,c2,by simp only;omega⟩⟩
theorem Oa{t:TypeId}{l c:AV}{vl vc:Value}(hl:Rep μ F w l vl)(hc:Rep μ F w c vc)(hH:HRep μ F w H.get)(hf:B5 μ H):ValS P (Instr.makeSlice t vl vc) (makeSliceA P t l c) μ F w H:=λr H' ft h=>by
 unfold makeSliceA at h;rcases h1:Cz P t with _|et<;>rw[h1]at h
 .exact(Aq h).elim
 rcases h2:l.idx with _|n<;>rw[h2]at h
 .exact(Aq h).elim
 rcases h3:c.idx with _|m<;>rw[h3]at h
 .exact(Aq h).elim
 simp only at h;rcases h4:P.info? et with _|i<;>rw[h4]at h
 .exact(Aq h).elim
 simp only at h;rcases h5:Dq P et with _|z<;>rw[h5]at h
 .exact(Aq h).elim
 simp only at h;rcases Bz h with⟨⟨c1,c2,c3,c4,c5⟩,h⟩|⟨_,h⟩
 rotate_left
 .exact(Aq h).elim
 obtain⟨b,H1,f1,f2,h6,h7⟩:=bind_some h;obtain⟨rfl,rfl⟩:=At h7;obtain⟨k1,rfl⟩:=FE hl h2;obtain⟨k2,rfl⟩:=FE hc h3;obtain⟨i',hi',hz,hfl⟩:=Ez h5;rw[h4]at hi'
 cases hi'
 have hm63:(m:Int)<=9223372036854775807:=by have:=c3;simp only[maxLen]at this;omega
 have hrun:=run_make (P:=P) w t et i z (CQ h1) h4 hz k1 k2 (n:Int) (m:Int) (by omega) (by omega) (by
  have:i.bytes*m<=281474976710656:=by rw[Nat.mul_comm];omega
  have h9:=Int.ofNat_le.2 this;rw[Int.natCast_mul]at h9;exact h9) hm63
 simp only[Int.toNat_natCast]at hrun;have hle:n*i.size<=m*i.size:=Axd _ c1;refine⟨_,_,hrun,J6 (t:=et) (fr:=(0,0)) hH hf h6 (.inr rfl) (by rw[size_madeCells];unfold Cx;rw[Aw0,AyA];exact hle) ?_ (λ_=>J0 _ _) ?_⟩
 .have:=Hm (μ:=μ) (F:=F) (w:=w) z.cells (m*i.size) hfl
  have h9:=this.sub 0 (n*i.size);simp only[κ]at h9;have hlz:(Cx (z.cells.toList.map .v) (n*i.size)).length=n*i.size:=by unfold Cx;rw[Aw0,AyA]
  rw[hlz];have e1:(Cx (z.cells.toList.map .v) (m*i.size)).take (n*i.size)=Cx (z.cells.toList.map .v) (n*i.size):=by
   unfold Cx;rw[←AzO,List.take_range,Nat.min_eq_left hle]
  rw[e1]at h9;exact h9
 .simp only[Rep]
  exact⟨_,by unfold Mu.set;rw[Ac rfl],.inr ⟨0,m,rfl,λ_=>rfl,c1,c3,by simp only[size_madeCells];omega⟩⟩
theorem AoC{n i:Nat}{o:Option AV}{v:Option Value}(hr:match o,v with|some x,some y=>Rep μ F w x y|none,none=>True|_,_=>False)(h:Fh n o=some i) :
  (o=none/\v=none/\i=n)\/(∃ k,v=some (.int k (i:Int))/\o.isSome=true):=by
 cases o with
 |none=>
  cases v with
  |none=>simp only[Fh,δ]at h;exact .inl ⟨rfl,rfl,h.symm⟩
  |some y=>exact hr.elim
 |some x=>
  cases v with
  |none=>exact hr.elim
  |some y=>
   obtain⟨k,rfl⟩:=FE hr h;exact .inr ⟨k,rfl,rfl⟩
theorem RepRows.sub{g e:Nat}{xs:List Ad}{o:Nat}(h:RepRows μ F w g e xs o)(l k:Nat):RepRows μ F w g e ((xs.take k).drop l) (o+l*e):=
 RepRows.mk λi x hx=>by
  simp only[Axw,Aw8]at hx;split at hx
  .have:=h.get hx
   rwa [Axf,←AwA]at this
  .cases hx
theorem ES{v:Value}{k:IntKind}{i n:Nat}{c:BoundsCode}(hv:v=.int k (i:Int))(h:i<=n):(Instr.sliceBound v n c).run P w=.ok i w:=by
 simp_all [Instr.sliceBound,asIntOf]
def Ai8(μ:Mu)(F:AP)(w:World):Option AV->Option Value->Prop
 |none,none=>True
 |some x,some y=>Rep μ F w x y
 |_,_=>False
theorem D7{n i:Nat}{o:Option AV}{v:Option Value}(hr:Ai8 μ F w o v)(h:Fh n o=some i) :
  (v=none/\i=n)\/(∃ k,v=some (.int k (i:Int))):=by
 cases o with
 |none=>
  cases v with
  |none=>simp only[Fh,δ]at h;exact .inl ⟨rfl,h.symm⟩
  |some y=>exact hr.elim
 |some x=>
  cases v with
  |none=>exact hr.elim
  |some y=>
   obtain⟨k,rfl⟩:=FE hr h;exact .inr ⟨k,rfl⟩
theorem Mn{len cap l h:Nat}{lo hi:Option Value}(hlo:(lo=none/\l=0)\/∃ k,lo=some (.int k (l:Int)))(hhi:(hi=none/\h=len)\/∃ k,hi=some (.int k (h:Int)))(h1:l<=h)(h2:h<=cap) :
  (Instr.sliceBounds true len cap lo hi none).run P w=.ok (l,h,cap) w:=by
 rcases hlo with⟨rfl,rfl⟩|⟨k,rfl⟩<;>rcases hhi with⟨rfl,rfl⟩|⟨k',rfl⟩
 .simp[Instr.sliceBounds]
 .simp[Instr.sliceBounds,ES rfl h2]
 .simp[Instr.sliceBounds,ES rfl h1]
 .simp[Instr.sliceBounds,ES rfl h1,ES rfl h2]
theorem Vd{t:TypeId}{x:AV}{v:Value}{lo hi:Option AV}{vlo vhi:Option Value}{r:AV}(hx:Rep μ F w x v)(hlo:Ai8 μ F w lo vlo)(hhi:Ai8 μ F w hi vhi)(h:Mq P t x lo hi=some r) :
  ∃ u,(Instr.sliceAt t v vlo vhi none).run P w=.ok u w/\Rep μ F w r u:=by
 unfold Mq at h;rcases h1:Cz P t with _|et<;>rw[h1]at h
 .cases x<;>simp at h
 have hu:=CQ h1
 cases x<;>try (cases h;done)
 case sl b o n e=>
  simp only at h;rcases h2:Fh 0 lo with _|l<;>rw[h2]at h
  .cases h
  rcases h3:Fh n hi with _|hh<;>rw[h3]at h
  .cases h
  simp only at h;split at h
  .rename_i hc
   obtain⟨c1,c2,c3⟩:=hc;simp only[δ]at h;subst h;simp only[Rep]at hx;obtain⟨p,hp,⟨hn0,rfl⟩|⟨q,c,rfl,hq,hnc,hcm,hroom⟩⟩:=hx
   .subst hn0
    obtain⟨inf,hinf,hsz⟩:=Dl c3;have hl0:l=0:=by omega
    have hh0:hh=0:=by omega
    subst hl0 hh0;have hb:=Mn (P:=P) (w:=w) (len:=0) (cap:=0) (D7 hlo h2) (D7 hhi h3) c1 (by omega);refine⟨.slice none 0 0,by simp[Instr.sliceAt,Instr.slice,run_underlying hu,hb,sizeOf,typeInfo,hinf],?_⟩;simp only[Rep];exact⟨p,hp,.inl ⟨by simp,trivial⟩⟩
   obtain⟨inf,hinf,hsz⟩:=Dl c3;have hb:=Mn (P:=P) (w:=w) (len:=n) (cap:=c) (D7 hlo h2) (D7 hhi h3) c1 (by omega);refine⟨.slice (some (if c=l then ⟨p.g,q,none⟩ else ⟨p.g,q+l*e,none⟩)) (hh-l) (c-l),?_,?_⟩
   .by_cases hcl:c=l
    .simp_all [Instr.slice,Instr.sliceAt,sizeOf,typeInfo,run_underlying]
    .simp_all [Instr.slice,Instr.sliceAt,sizeOf,typeInfo,Addr.add_mid,run_underlying]
   .simp only[Rep]
    refine⟨p,hp,.inr ⟨if c=l then q else q+l*e,c-l,by split<;>rfl,λhne=>?_,by omega,by omega,?_⟩⟩
    .grind
    .have:(c-l)*e+l*e=c*e:=by rw[←Axf];congr 1;omega
     omega
  .cases h
 case ls xs=>
  simp only at h;rcases h2:Fh 0 lo with _|l<;>rw[h2]at h
  .cases h
  rcases h3:Fh xs.length hi with _|hh<;>rw[h3]at h
  .cases h
  simp only at h;split at h
  .rename_i hc
   obtain⟨c1,c2,c4,c3⟩:=hc;simp only[δ]at h;subst h;simp only[Rep]at hx;obtain⟨h0,A,c,rfl,hnc,hcm,hne⟩:=hx;have hb:=Mn (P:=P) (w:=w) (len:=xs.length) (cap:=c) (D7 hlo h2) (D7 hhi h3) c1 (by omega);have hl2:((xs.take hh).drop l).length=hh-l:=by simp;omega
   cases hin:P.info? et with
   |none=>simp[Eg,hin]at c4
   |some inf=>
   refine⟨.slice (if c=l then A else A.map (·.add (l*inf.size))) (hh-l) (c-l),?_,?_⟩
   .simp_all [Instr.slice,Instr.sliceAt,sizeOf,typeInfo,run_underlying]
   .simp only[Rep,hl2]
    refine⟨Awu.2 λx hx=>Awu.1 h0 x (AxK (Axq hx)),_,c-l,rfl,by omega,by omega,λhne2=>?_⟩;have hpos:0<hh-l:=by rw[←hl2];exact List.length_pos_iff.2 hne2
    obtain⟨g,o,e,rfl,hrows⟩:=hne (by rintro rfl;simp at c2;omega);have he:inf.size=e:=by
     have h0:0<xs.length:=by omega
     have h4:=hrows.get (Ψ h0);have h5:=Awu.1 c3 _ (Awy h0);simp only[Eg,hin,AwE,beq_iff_eq,δ]at h5;rw[h5,h4.1]
    refine⟨g,o+l*e,e,?_,hrows.sub l hh⟩;rw[Ab (by omega),he];simp[Addr.add_mid]
  .cases h
theorem Zm{t:TypeId}{ty:TypeId}{x:AV}{v:Value}{r:AV}(hx:Rep μ F w x v)(ht:DA P t=true)(h:Aj6 x=some r):∃ u,(Builtin.len_ #[t] ty #[v]).run P w=.ok u w/\Rep μ F w r u:=by
 obtain⟨e,hu⟩:∃ e,P.underlying t=some (.slice e):=by
  grind [DA]
 unfold Aj6 at h
 cases x<;>try (cases h;done)
 case sl b o n e'=>
  simp only[δ]at h;subst h;simp only[Rep]at hx;obtain⟨p,hp,⟨rfl,rfl⟩|⟨q,c,rfl,_⟩⟩:=hx
  .exact⟨.int .i64 0,by simp[Builtin.len_,run_underlying hu,goInt],by simp only[Rep];exact⟨rfl,rfl⟩⟩
  .exact⟨.int .i64 n,by simp[Builtin.len_,run_underlying hu,goInt],by simp only[Rep];exact⟨trivial,rfl⟩⟩
 case ls xs=>
  simp only[δ]at h;subst h;simp only[Rep]at hx;obtain⟨_,A,c,rfl,_⟩:=hx;exact⟨.int .i64 xs.length,by simp[Builtin.len_,run_underlying hu,goInt],by simp only[Rep];exact⟨trivial,rfl⟩⟩
end
section
variable {P:Program} {μ:Mu} {F:AP} {w:World} {H:AH}
theorem RepAt.append{g:Nat}:∀{xs ys:Ad} {o:Nat},RepAt μ F w g xs o->RepAt μ F w g ys (o+xs.length)->RepAt μ F w g (xs++ys) o
 |[],ys,o,_,h=>by simpa using h
 |x::r,ys,o,h,h'=>by
  simp only[AwI,RepAt]at h ⊢;exact⟨h.1,RepAt.append h.2 (by rwa [π,show o+(r.length+1)=o+1+r.length by omega]at h')⟩
theorem RepRows.flat{g e:Nat}:∀{xs:List Ad} {o:Nat},RepRows μ F w g e xs o->RepAt μ F w g xs.flatten o/\xs.flatten.length=xs.length*e
 |[],o,_=>⟨by simp only[AzA,RepAt],by simp⟩
 |x::r,o,h=>by
  simp only[RepRows]at h;obtain⟨h1,h2,h3⟩:=h;obtain⟨h4,h5⟩:=RepRows.flat h3;refine⟨?_,?_⟩
  .rw[Axi]
   exact h2.append (by rwa [h1])
  .grind
theorem Aag{e:Nat}:∀{xs:List Ad},(xs.all λcs=>cs.length == e)=true->xs.flatten.length=xs.length*e
 |[],_=>by simp
 |x::r,h=>by
  simp only[Axn,η,beq_iff_eq]at h;rw[Axi,ζ,h.1,Aag h.2,π,Axf];omega
structure News (P:Program) (w:World) (e:Nat) (v:Value) (n:Nat) (us:AI):Prop where
 len:(Builtin.lenOf v).run P w=.ok n w
 size:us.length=n*e
 cells:∀ m W,m<=n->W.heap=w.heap->(Builtin.firstCells e m v).run P W=.ok (us.take (m*e)).toArray W
theorem Acf{W:World}(h:W.heap=w.heap)(a:Addr):W.cell? a=w.cell? a:=by unfold World.cell?;rw[h]
theorem M7{g q e n c:Nat}{us:AI}(hl:us.length=n*e)(hc:∀ j v,us[j]? = some v->w.cell? ⟨g,q+j,none⟩=some v):News P w e (.slice (some ⟨g,q,none⟩) n c) n us:=by
 refine⟨by simp[Builtin.lenOf],hl,λm W hm hW=>?_⟩;simp only[Builtin.firstCells];have hle:m*e<=n*e:=Axd _ hm;have hlen:(us.take (m*e)).length=m*e:=by rw[AwL];omega
 have:=run_loadCells_list (P:=P) W ⟨g,q,none⟩ (us.take (m*e)) (λj v hv=>by
  rw[Addr.add_mid,Acf hW];rw[Aw8]at hv;split at hv
  .exact hc j v hv
  .cases hv)
 rwa [hlen]at this
theorem OT(l:List UInt8):A4 (l.map LR)=true:=by
 rw[BN,Awu];intro x hx;obtain⟨c,_,rfl⟩:=AxU.1 hx;rfl
theorem JZ{e:Nat}{x:AV}{v:Value}{n:Nat}{cs:Ad}{H':AH}{ft:Foot}(hx:Rep μ F w x v)(hH:HRep μ F w H.get)(h:newsA e x H=some ((n,cs),H',ft)) :
  H'=H/\A4 cs=true/\∃ us,RepList μ F w cs us/\News P w e v n us:=by
 unfold newsA at h;split at h
 .rename_i b o n' e'
  rcases Bz h with⟨he,h⟩|⟨_,h⟩
  rotate_left
  .exact(Aq h).elim
  subst he;obtain⟨k,H1,f1,f2,h1,h2⟩:=bind_some h;obtain⟨hk,rfl⟩:=B0 h1;rcases Bz h2 with⟨⟨hc,hex⟩,h2⟩|⟨_,h2⟩
  rotate_left
  .exact(Aq h2).elim
  obtain⟨he,rfl⟩:=At h2;simp only[Prod.mk.injEq]at he;obtain⟨rfl,rfl⟩:=he;simp only[Rep]at hx;obtain⟨p,hp,hvv⟩:=hx;obtain⟨p',hp',hB⟩:=hH.blk b k hk;rw[hp]at hp'
  cases hp'
  have hpu:A4 ((k.cells.drop o).take (n*e'))=true:=by
   rcases hx:k.ex with _|_
   .simpa[hx]using hex
   .have:=hB.pure hx
    rw[BN,Awu]at this ⊢;exact λx hx=>this x (Axq (AxK hx))
  rcases hvv with⟨rfl,rfl⟩|⟨q,c,rfl,hq,hnc,hcm,hroom⟩
  .exact⟨rfl,hpu,[],by simp only[Axz,AzK,RepList],⟨by simp[Builtin.lenOf],by simp,λm W hm _=>by simp[Builtin.firstCells]⟩⟩
  by_cases hn0:n=0
  .subst hn0
   refine⟨rfl,hpu,[],by simp only[Axz,AzK,RepList],M7 (by simp) λj v hv=>by simp at hv⟩
  obtain⟨us,hl,hcell⟩:=D8 (μ:=μ) (F:=F) (w:=w) (g:=p.g) (o:=p.o+o) (cs:=(k.cells.drop o).take (n*e')) λi x hx=>by
   simp only[Aw8,Axw]at hx;split at hx
   .obtain⟨u,h1,h2⟩:=hB.cell (o+i) x hx
    exact⟨u,by rwa [AwA],h2⟩
   .cases hx
  refine⟨rfl,hpu,us,hl,?_⟩;rw[hq (by omega)];refine M7 ?_ hcell;rw[hl.length,AwL,AwR];omega
 .rename_i xs
  rcases Bz h with⟨hall,h⟩|⟨_,h⟩
  rotate_left
  .exact(Aq h).elim
  obtain⟨he,rfl⟩:=At h;simp only[Prod.mk.injEq]at he;obtain⟨rfl,rfl⟩:=he;simp only[Rep]at hx;obtain⟨h0,A,c,rfl,hnc,hcm,hne⟩:=hx;have hpu:A4 xs.flatten=true:=by
   rw[BN,Awu];intro x hx;obtain⟨l,hl,hxl⟩:=List.mem_flatten.1 hx;have:=Awu.1 h0 l hl;rw[BN,Awu]at this;exact this x hxl
  rcases hxs:xs with _|⟨y,ys⟩
  .refine⟨rfl,rfl,[],by simp only[AzA,RepList],?_⟩
   cases A with
   |none=>
    refine⟨by simp[Builtin.lenOf],by simp,λm W hm _=>?_⟩;simp only[Aw4,AzL]at hm;subst hm;simp[Builtin.firstCells]
   |some a=>
    refine⟨by simp[Builtin.lenOf],by simp,λm W hm _=>?_⟩;simp only[Aw4,AzL]at hm;subst hm;simp[Builtin.firstCells,loadCells,loadCellsFrom]
  .rw[←hxs]
   obtain⟨g,o,e',rfl,hrows⟩:=hne (by rw[hxs];simp);obtain⟨hat,_⟩:=hrows.flat;obtain⟨us,hl,hcell⟩:=D8 (μ:=μ) (F:=F) (w:=w) (g:=g) (o:=o) (cs:=xs.flatten) λi x hx=>(hat.get hx).2
   exact⟨rfl,hpu,us,hl,M7 (by rw[hl.length,Aag hall]) hcell⟩
 .obtain⟨he,rfl⟩:=At h
  simp only[Prod.mk.injEq]at he;obtain⟨rfl,rfl⟩:=he;simp only[Rep]at hx;obtain⟨rfl,_⟩:=hx;refine⟨rfl,rfl,[],by simp only[RepList],⟨by simp[Builtin.lenOf],by simp,λm W hm _=>by simp[Builtin.firstCells]⟩⟩
 .rename_i s
  rcases Bz h with⟨he,h⟩|⟨_,h⟩
  rotate_left
  .exact(Aq h).elim
  subst he;obtain⟨he,rfl⟩:=At h;simp only[Prod.mk.injEq]at he;obtain⟨rfl,rfl⟩:=he;simp only[Rep]at hx;obtain⟨rfl,_⟩:=hx;refine⟨rfl,OT _,s.data.toList.map (λb=>.int .u8 b.toNat),?_,⟨by simp[Builtin.lenOf],by simp,λm W hm _=>?_⟩⟩
  .have e1:s.data.toList.map LR=(s.data.toList.map (λb=>Value.int .u8 b.toNat)).map .v:=by
    rw[AyI];rfl
   rw[e1];exact Fk _ _ _ _ (Awu.2 λx hx=>by obtain⟨y,_,rfl⟩:=AxU.1 hx;rfl)
  .simp only[Builtin.firstCells,Sem.run_pure,AyB]
   congr 1
   apply Ax0;rw[Array.toList_map,ByteArray.data_extract,Az2,Az0];simp[AzO]
 .exact(Aq h).elim
theorem Me{u:TypeId}(h:Hw P u=true):(∃ e,P.underlying u=some (.slice e))\/P.underlying u=some .string:=by
 grind [Hw]
section
variable {t u ty e:TypeId} {i:TypeInfo} {z:Value} {n m c:Nat} {x:Value} {us:AI} {A:Option Addr}
theorem Pq(ht:P.underlying t=some (.slice e))(hu:Hw P u=true)(hi:P.info? e=some i)(hx:News P w i.size x m us)(hfit:n+m<=c)
  {w':World} (hst:∀ a,A=some a->(storeCells (a.add (n*i.size)) us).run P w=.ok () w') (hno:A=none->w'=w) :
  (Builtin.append_ #[t,u] ty #[.slice A n c,x]).run P w=.ok (.slice A (n+m) c) w':=by
 have hc:=hx.cells m w (ω _) rfl;rw[←hx.size,AxD]at hc
 cases A with
 |none=>
  have:=hno rfl;subst this;rcases Me hu with⟨e',hd⟩|hd<;>simp[Builtin.append_,run_underlying ht,run_underlying hd,sizeOf,typeInfo,hi,hx.len,hfit,hc]
 |some a=>
  have:=hst a rfl;rcases Me hu with⟨e',hd⟩|hd<;>simp[Builtin.append_,run_underlying ht,run_underlying hd,sizeOf,typeInfo,hi,hx.len,hfit,hc,this]
theorem Oi(ht:P.underlying t=some (.slice e))(hu:Hw P u=true)(hi:P.info? e=some i)(hz:i.zero=some z)(hx:News P w i.size x m us){olds:AI}
  (holds:∀ W:World,W.heap=w.heap->(Builtin.firstCells i.size n (.slice A n c)).run P W=.ok olds.toArray W) (hg:c<n+m) (h63:n+m<=maxLen) (hb:(n+m)*i.bytes<=140737488355328) :
  (Builtin.append_ #[t,u] ty #[.slice A n c,x]).run P w=.ok (.slice (some ⟨w.heap.size,0,none⟩) (n+m) (grownCap w (n+m) c e))
   (w.drew.alloc (.cells (olds.toArray++us.toArray++Builtin.zeroCells z.cells (grownCap w (n+m) c e-(n+m))) e)):=by
 have hc:=hx.cells m w.drew (ω _) rfl;rw[←hx.size,AxD]at hc;have ho:=holds w.drew rfl;have hn:¬ (n+m<=c):=by omega
 have h63':¬ (9223372036854775807<((n:Int)+(m:Int))):=by simp only[maxLen]at h63;omega
 have h48:=growslice_fits (need:=n+m) (old:=c) (bytes:=i.bytes) hg hb;have h48':¬ (281474976710656<Builtin.nextslicecap (n+m) c*i.bytes):=by omega
 have hcat:∀ Z:Array Value,olds.toArray++(us.toArray++Z)=(olds++us).toArray++Z:=λZ=>by apply Ax0;simp[Awr]
 rcases Me hu with⟨e',hd⟩|hd<;>simp[Builtin.append_,run_underlying ht,run_underlying hd,sizeOf,typeInfo,zeroValue,hi,hz,hx.len,hn,h63',h48',Question.forced,ho,hc,newRow,grownCap,hcat]
end
structure AppX (P:Program) (w:World) (t u ty e:TypeId) (i:TypeInfo) (z:Value) (y:Value) (m:Nat) (us:AI):Prop where
 size:us.length=m*i.size
 fits:∀(A:Option Addr) (n c:Nat) (w':World),n+m<=c->m*i.bytes<=140737488355328->(∀ a,A=some a->(storeCells (a.add (n*i.size)) us).run P w=.ok () w')->(A=none->w'=w)->
  (Builtin.append_ #[t,u] ty #[.slice A n c,y]).run P w=.ok (.slice A (n+m) c) w'
 grows:∀(A:Option Addr) (n c:Nat) (olds:AI),(∀ W:World,W.heap=w.heap->(Builtin.firstCells i.size n (.slice A n c)).run P W=.ok olds.toArray W)->c<n+m->n+m<=maxLen->(n+m)*i.bytes<=140737488355328->
  (Builtin.append_ #[t,u] ty #[.slice A n c,y]).run P w=.ok (.slice (some ⟨w.heap.size,0,none⟩) (n+m) (grownCap w (n+m) c e)) (w.drew.alloc (.cells (olds.toArray++us.toArray++Builtin.zeroCells z.cells (grownCap w (n+m) c e-(n+m))) e))
theorem RP(z:Array Value)(m:Nat):Builtin.zeroCells z m=(((Ayg (m*z.size)).map (λi=>z[i % z.size]!)).toList).toArray:=by
 grind [Builtin.zeroCells]
theorem Xc{t u ty et:TypeId}{i:TypeInfo}{z:Value}{x:AV}{v:Value}{m:Nat}{cs:Ad}{H':AH}{ft:Foot}(ht:P.underlying t=some (.slice et))(hi:P.info? et=some i)(hz:i.zero=some z)(hzs:z.cells.size=i.size)(hpos:0<i.size)(hx:Rep μ F w x v)(hH:HRep μ F w H.get)(h:newsU P u z i.size x H=some ((m,cs),H',ft)) :
  H'=H/\A4 cs=true/\∃ us,RepList μ F w cs us/\AppX P w t u ty et i z v m us:=by
 unfold newsU at h;rcases hu:Hw P u with _|_<;>rw[hu]at h<;>simp only at h
 rotate_left
 .obtain⟨e1,e2,us,e3,e4⟩:=JZ hx hH h
  exact⟨e1,e2,us,e3,e4.size,λA n c w' h1 _ h2 h3=>Pq ht hu hi e4 h1 h2 h3,λA n c olds h1 h2 h3 h4=>Oi ht hu hi hz e4 h1 h2 h3 h4⟩
 .rcases hu:N3 P u with _|_<;>rw[hu]at h<;>simp only at h
  rotate_left
  .unfold newsZ at h
   rcases hm:x.idx with _|m1<;>rw[hm]at h<;>simp only at h
   rotate_left
   .rcases Bz h with⟨⟨hm63,hfl⟩,h⟩|⟨_,h⟩
    rotate_left
    .exact(Aq h).elim
    obtain⟨he,rfl⟩:=At h;simp only[Prod.mk.injEq]at he;obtain⟨he1,he2⟩:=he;subst m1 he2;obtain⟨k,rfl⟩:=FE hx hm;obtain⟨kn,hkn⟩:∃ kn,P.underlying u=some (.int kn):=by
     grind [N3]
    have hlen:(((Ayg (m*i.size)).map (λj=>z.cells[j % z.cells.size]!)).toList).length=m*i.size:=by simp
    have hw:IntKind.i64.wrap (m:Int)=m:=by rw[IntKind.wrap_i64];omega
    have hneg:¬ ((m:Int)<0):=by omega
    have hw0:IntKind.i64.wrap 0=0:=by decide
    have hzc:Builtin.zeroCells z.cells m=(((Ayg (m*i.size)).map (λj=>z.cells[j % z.cells.size]!)).toList).toArray:=by rw[RP,hzs]
    refine⟨rfl,J0 _ _,_,Hm (μ:=μ) (F:=F) (w:=w) z.cells (m*i.size) hfl,hlen,λA n c w' h1 hmb h2 h3=>?_,λA n c olds h1 h2 h3 h4=>?_⟩
    .have h48i:¬ (281474976710656<(m:Int)*(i.bytes:Int)):=by
      omega
     revert h2 hzc hlen;generalize ((Ayg (m*i.size)).map (λj=>z.cells[j % z.cells.size]!)).toList=us;intro hlen hzc h2
     by_cases hm0:m=0
     .subst hm0
      have hus:us=[]:=AwN (by rw[hlen,Axz]);subst hus
      cases A with
      |none=>
       have:=h3 rfl;subst this;simp[Builtin.append_,run_underlying ht,run_underlying hkn,sizeOf,typeInfo,hi,asInt,asIntOf,hw0,show n<=c by omega]
      |some a=>
       have:=h2 a rfl;simp[Builtin.append_,run_underlying ht,run_underlying hkn,sizeOf,typeInfo,hi,asInt,asIntOf,hw0,show n<=c by omega,this]
     .have hns:¬ (m*i.size=0):=AyK hm0 (by omega)
      have hns1:¬ (i.size=0):=by omega
      cases A with
      |none=>
       have:=h3 rfl;subst this;simp[Builtin.append_,run_underlying ht,run_underlying hkn,sizeOf,typeInfo,zeroValue,hi,hz,asInt,asIntOf,hw,hneg,h1,hm0,hns1,hns,h48i,hzc]
      |some a=>
       have:=h2 a rfl;simp[Builtin.append_,run_underlying ht,run_underlying hkn,sizeOf,typeInfo,zeroValue,hi,hz,asInt,asIntOf,hw,hneg,h1,hm0,hns1,hns,h48i,hzc,this]
    .have hm0:m≠0\/m=0:=by omega
     have h48i:¬ (281474976710656<(m:Int)*(i.bytes:Int)):=by
      grind
     have ho:=h1 w.drew rfl;have hn:¬ (n+m<=c):=by omega
     have h63':¬ (9223372036854775807<((n:Int)+(m:Int))):=by simp only[maxLen]at h3;omega
     have h48:=growslice_fits (need:=n+m) (old:=c) (bytes:=i.bytes) h2 h4;have h48':¬ (281474976710656<Builtin.nextslicecap (n+m) c*i.bytes):=by omega
     have hns1:¬ (i.size=0):=by omega
     revert hzc hlen;generalize ((Ayg (m*i.size)).map (λj=>z.cells[j % z.cells.size]!)).toList=us;intro hlen hzc;have hcat:∀ Z:Array Value,olds.toArray++(us.toArray++Z)=(olds++us).toArray++Z:=λZ=>by apply Ax0;simp[Awr]
     by_cases hm0:m=0
     .subst hm0
      have hus:us=[]:=AwN (by rw[hlen,Axz]);subst hus;have hn':¬ n<=c:=by omega
      simp[Builtin.append_,run_underlying ht,run_underlying hkn,sizeOf,typeInfo,zeroValue,hi,hz,asInt,asIntOf,hw0,hn',show ¬ (9223372036854775807<(n:Int)) by omega,show ¬ (281474976710656<Builtin.nextslicecap n c*i.bytes) from h48',Question.forced,ho,newRow,grownCap]
     .have hns:¬ (m*i.size=0):=AyK hm0 (by omega)
      simp[Builtin.append_,run_underlying ht,run_underlying hkn,sizeOf,typeInfo,zeroValue,hi,hz,asInt,asIntOf,hw,hneg,hn,h63',h48',hm0,hns1,hns,h48i,Question.forced,ho,newRow,grownCap,hzc,hcat]
   .exact(Aq h).elim
  .exact(Aq h).elim
end
section
variable {P:Program} {μ:Mu} {F:AP} {w:World} {H:AH}
theorem HRep.weaken{H H':Nat->Option ABlk}(h:HRep μ F w H)(hs:∀ b k',H' b=some k'->∃ k,H b=some k/\k'.cells=k.cells/\k'.st=k.st/\(k'.ex=true->k.ex=true)):HRep μ F w H':=by
 have own:∀{k k':ABlk} {r i:Nat},k'.cells=k.cells->k'.st=k.st->(k'.ex=true->k.ex=true)->k'.owns r i->k.owns r i:=by
  grind [ABlk.owns]
 refine⟨λb k' hk=>?_,λb b' k1 k2 p p' hne h1 h2 q1 q2 i i' o1 o2=>?_,h.prot⟩
 .obtain⟨k,h1,h2,h3,h4⟩:=hs b k' hk
  obtain⟨p,hp,hB⟩:=h.blk b k h1;refine⟨p,hp,⟨λi x hx=>hB.cell i x (by rw[←h2];exact hx),by rw[h2];exact hB.room,hB.there,λhf i hi=>hB.kept (by rw[←h3];exact hf) i (by rw[←h2];exact hi),λi hi=>hB.free i (own h2 h3 h4 hi),λhx=>by rw[h2];exact hB.pure (h4 hx)⟩⟩
 .obtain⟨j1,a1,a2,a3,a4⟩:=hs b k1 h1
  obtain⟨j2,b1,b2,b3,b4⟩:=hs b' k2 h2;exact h.apart b b' j1 j2 p p' hne a1 b1 q1 q2 i i' (own a2 a3 a4 o1) (own b2 b3 b4 o2)
theorem V4{olds us:AI}{z:Array Value}{n m cap size:Nat}(ho:olds.length=n*size)(hu:us.length=m*size)(hz:z.size=size)(hc:n+m<=cap) :
  (olds.toArray++us.toArray++Builtin.zeroCells z (cap-(n+m))).size=cap*size/\(olds.toArray++us.toArray++Builtin.zeroCells z (cap-(n+m))).toList.take ((n+m)*size)=olds++us:=by
 refine⟨?_,?_⟩
 .rw[AyY,AyY,size_zeroCells,hz,Azw,Azw,ho,hu,←Axf,←Axf]
  congr 1
  omega
 .grind [Array.toList_append,ζ,List.take_left,Axf]
theorem RepList.append{xs ys:Ad}:∀{us vs:AI},RepList μ F w xs us->RepList μ F w ys vs->RepList μ F w (xs++ys) (us++vs):=by
 induction xs with
 |nil=>intro us vs h h';simp only[RepList]at h;subst h;exact h'
 |cons x r ih=>
  intro us vs h h';simp only[RepList]at h;obtain⟨u,t,rfl,h1,h2⟩:=h;simp only[AwI,RepList];exact⟨u,t++vs,rfl,h1,ih h2 h'⟩
end
set_option maxHeartbeats 1000000 in
theorem RV{P:Program}{μ:Mu}{F:AP}{w:World}{H:AH}{t u ty:TypeId}{s x:AV}{v y:Value}(hs:Rep μ F w s v)(hx:Rep μ F w x y)(hH:HRep μ F w H.get)(hf:B5 μ H) :
  ValS P (Builtin.append_ #[t,u] ty #[v,y]) (appendA P [t,u] s x) μ F w H:=λr H' ft h=>by
 unfold appendA at h;simp only at h;rcases h1:Cz P t with _|et<;>rw[h1]at h
 .exact(Aq h).elim
 simp only at h;rcases h3:P.info? et with _|i<;>rw[h3]at h
 .exact(Aq h).elim
 simp only at h;rcases h4:i.zero with _|z<;>rw[h4]at h
 .exact(Aq h).elim
 simp only at h;rcases Bz h with⟨⟨hzs,hpos⟩,h⟩|⟨_,h⟩
 rotate_left
 .exact(Aq h).elim
 obtain⟨⟨m,news⟩,H1,f1,f2,h5,h⟩:=bind_some h;have ht:=CQ h1;obtain⟨hHH,hpn,us,hul,hnews⟩:=Xc (ty:=ty) ht h3 h4 hzs hpos hx hH h5;have hHH:=hHH.symm;subst hHH;simp only at h;have hnl:news.length=m*i.size:=by rw[←hul.length,hnews.size]
 rcases Bz h with⟨hm,h⟩|⟨hm,h⟩
 .-- nothing is appended
  rcases Bz h with⟨hsl,h⟩|⟨_,h⟩
  rotate_left
  .exact(Aq h).elim
  obtain⟨rfl,rfl⟩:=At h;subst hm;have hus:us=[]:=AwN (by rw[hnews.size,Axz]);subst hus;have fin:∀ A n c,v=.slice A n c->n<=c->∃ u_1 w',(Builtin.append_ #[t,u] ty #[v,y]).run P w=.ok u_1 w'/\Post μ F w H' r H' u_1 w':=by
   intro A n c hv hnc;subst hv;have:=hnews.fits A n c w (by omega) (by omega) (λa _=>rfl) (λ_=>rfl);exact⟨_,_,this,ED hs hH⟩
  unfold R3 at hsl;split at hsl
  .simp only[Rep]at hs
   obtain⟨p,hp,⟨_,rfl⟩|⟨q,c,rfl,hq,hnc,hcm,hroom⟩⟩:=id hs
   .exact fin _ _ _ rfl (ω _)
   exact fin _ _ _ rfl hnc
  .simp only[Rep]at hs
   obtain⟨_,A,c,rfl,hnc,hcm,hne⟩:=id hs;exact fin _ _ _ rfl hnc
  .simp only[Rep]at hs
   obtain⟨rfl,_⟩:=id hs;exact fin _ _ _ rfl (ω _)
  .cases hsl
 .rcases Bz h with⟨hone,h⟩|⟨_,h⟩
  rotate_left
  .exact(Aq h).elim
  have hoc:∀ y∈us,y.oneCell'=true:=λy hy=>by
   obtain⟨j,hj,rfl⟩:=AxF hy;have hj2:j<news.length:=by rw[←hul.length];exact hj
   obtain⟨u,a1,a2⟩:=hul.get (Ψ hj2);rw[Ψ hj]at a1
   cases a1
   exact a2.one (Awu.1 hone _ (Awy hj2))
  have grown:∀(G:AH) (st:Bool) (n c:Nat) (olds:AI) (cs:Ad) (b:Nat) (G1:AH) (ft1:Foot),HRep μ F w G.get->B5 μ G->G.next=H.next->AM.newB ⟨cs++news,st,true⟩ G=some (b,G1,ft1)->
    RepList μ F w cs olds->olds.length=n*i.size->n+m<=maxLen->A4 cs=true->
    Post μ F w H (.sl b 0 (n+m) i.size) G1 (.slice (some ⟨w.heap.size,0,none⟩) (n+m) (grownCap w (n+m) c et)) (w.drew.alloc (.cells (olds.toArray++us.toArray++Builtin.zeroCells z.cells (grownCap w (n+m) c et-(n+m))) et)):=by
   intro G st n c olds cs b G1 ft1 hG hfG hGn hnew hcs hol h63 hpc;have hcap:=grownCap_ge w (n+m) c et;have hcapm:=grownCap_le_maxLen w (n+m) c et h63;obtain⟨hsize,htake⟩:=V4 (z:=z.cells) (cap:=grownCap w (n+m) c et) hol hnews.size hzs hcap;obtain⟨d1,d2,d3⟩:=hG.drew;generalize (olds.toArray++us.toArray++Builtin.zeroCells z.cells (grownCap w (n+m) c et-(n+m)))=arr at *;have hlen:(cs++news).length=(n+m)*i.size:=by rw[ζ,←hcs.length,hol,hnl,Axf]
   have hle:(n+m)*i.size<=arr.size:=by rw[hsize];exact Axd _ hcap
   obtain⟨hb,hr⟩:=FH hnew;simp only[Prod.mk.injEq]at hr;obtain⟨rfl,rfl,rfl⟩:=hr;have hfr:=hfG _ (ω _) hb;obtain⟨q1,q2⟩:=WC d1 hfr (cs++news) arr et (0,0) true (.inr rfl) (by rw[hlen];exact hle) (by
    rw[hlen,htake];exact(RepList.append hcs hul).later' d2) (λ_=>by rw[BN]at hpc hpn ⊢;simp[hpc,hpn])
   have hws:w.drew.heap.size=w.heap.size:=rfl;rw[hws]at q1 q2;have hWS:WStep F w (w.drew.alloc (.cells arr et)):=WStep.trans (λ_ _ h=>h) d3 (WStep.alloc _ _ _);have hLt:=d2.trans q2
   cases st with
   |true=>
    refine⟨_,F,?_,?_,hLt,hWS,λc hc=>PO (by have hc':c<H.next\/G.next+1<=c:=hc;omega)⟩
    .simp only[Rep]
     exact⟨_,by unfold Mu.set;rw[Ac rfl],.inr ⟨0,_,rfl,λ_=>rfl,hcap,hcapm,by simp only;omega⟩⟩
    .rw[IU]
     exact q1
   |false=>
    obtain⟨k1,k2⟩:=SM q1 (b:=G.next) (by rw[Ac rfl]) (by unfold Mu.set;rw[Ac rfl]);refine⟨_,_,?_,?_,hLt.trans k2,hWS,λc hc=>PO (by have hc':c<H.next\/G.next+1<=c:=hc;omega)⟩
    .simp only[Rep]
     exact⟨_,by unfold Mu.set;rw[Ac rfl],.inr ⟨0,_,rfl,λ_=>rfl,hcap,hcapm,by simp only;omega⟩⟩
    .rw[IU]
     refine k1.less λc k hk=>?_
     by_cases e:c=G.next
     .rw[Ac e]at hk ⊢
      exact hk
     .rw[Ab e]at hk ⊢
      rw[Ab e];exact hk
  cases s with
  |v z'=>
   simp only at h;rcases Bz h with⟨⟨c0,c1,c2⟩,hh⟩|⟨_,hh⟩
   rotate_left
   .exact(Aq hh).elim
   have hz':=KU c0;subst hz';obtain⟨b,H2,g1,g2,h6,h7⟩:=bind_some hh;obtain⟨rfl,rfl⟩:=At h7;simp only[Rep]at hs;obtain⟨rfl,_⟩:=hs;have hrun:=hnews.grows none 0 0 [] (λW _=>by simp[Builtin.firstCells]) (by omega) (by omega) (by simpa using c1);refine⟨_,_,hrun,?_⟩;have:=grown H true 0 0 [] [] b H' g1 hH hf rfl (by simpa using h6) (by simp only[RepList]) (by simp) (by omega) rfl;simpa only[AwJ]using this
  |sl b o n e=>
   simp only at h;rcases Bz h with⟨⟨he,c1,c2⟩,h⟩|⟨_,h⟩
   rotate_left
   .exact(Aq h).elim
   subst he;obtain⟨k,H2,g1,g2,h6,hh⟩:=bind_some h;clear h;obtain⟨hk,hHH⟩:=B0 h6;subst hHH;rcases Bz hh with⟨⟨hex,hol,hfull⟩,hh2⟩|⟨_,hh2⟩
   rotate_left
   .exact(Aq hh2).elim
   obtain⟨_,H3,g3,g4,h7,h8⟩:=bind_some hh2;obtain⟨b',H4,g5,g6,h9,h10⟩:=bind_some h8;obtain⟨rfl,hHH⟩:=At h10;subst hHH;have hH3:H3.next=H2.next/\H3.top=H2.top/\∀ c,H3.get c=if c=b then(if k.st=true then none else some { k with ex:=false }) else H2.get c:=by
    rcases Bz h7 with⟨hst,h7⟩|⟨hst,h7⟩
    .have:=Su h7
     subst this;exact⟨rfl,rfl,λc=>by rw[AH.get_del,Ac hst]⟩
    .have:=Ix h7
     subst this;exact⟨rfl,rfl,λc=>by rw[AH.get_put,Ab hst]⟩
   obtain⟨n1,n2,n3⟩:=hH3;simp only[Rep]at hs;obtain⟨p,hp,hvv⟩:=hs;obtain⟨p',hp',hB⟩:=hH.blk b k hk;rw[hp]at hp'
   cases hp'
   obtain⟨hb9,hr9⟩:=FH h9;simp only[Prod.mk.injEq]at hr9;obtain⟨hb',hH4,_⟩:=hr9;have hfr:μ b'=none:=hf b' (by rw[hb',n1];exact ω _) (by
    have:H3.below b':=by rw[hb'];exact hb9
    unfold AH.below at this ⊢
    rwa [n2]at this)
   have hbb:b≠b':=by rintro rfl;rw[hp]at hfr;cases hfr
   have hlen0:((k.cells.take (o+n*i.size)).drop o).length=n*i.size:=by
    rw[AwR,AwL];omega
   have hpk:A4 ((k.cells.take (o+n*i.size)).drop o)=true:=by
    have:=hB.pure hex;rw[BN,Awu]at this ⊢;exact λx hx=>this x (AxK (Axq hx))
   have hweak:HRep μ F w H3.get:=hH.weaken λd k' hk'=>by
    rw[n3]at hk'
    by_cases e1:d=b
    .subst e1
     rw[Ac rfl]at hk';split at hk'
     .cases hk'
     .simp only[δ]at hk'
      subst hk';exact⟨k,hk,rfl,rfl,λh=>by cases h⟩
    .rw[Ab e1]at hk'
     exact⟨k',hk',rfl,rfl,id⟩
   have hfr3:B5 μ H3:=λd hd hbl=>hf d (by rw[←n1];exact hd) (by
    unfold AH.below at hbl ⊢
    rwa [n2]at hbl)
   rcases hvv with⟨hn0,rfl⟩|⟨q,c,rfl,hq,hnc,hcm,hroom⟩
   .subst hn0
    have hnil:((k.cells.take (o+0*i.size)).drop o)=[]:=AwN (by rw[hlen0];simp);have hrun:=hnews.grows none 0 0 [] (λW _=>by simp[Builtin.firstCells]) (by omega) c2 c1;exact⟨_,_,hrun,grown H3 k.st 0 0 [] ((k.cells.take (o+0*i.size)).drop o) b' H' g5 hweak hfr3 n1 h9 (by rw[hnil];simp only[RepList]) (by simp) c2 hpk⟩
   by_cases hfit:n+m<=c
   .have hcl:n*i.size+m*i.size<=c*i.size:=by rw[←Axf];exact Axd _ hfit
    obtain⟨q1,q2⟩:=AcI hH hk hp hfr hex o (o+n*i.size) (by omega) hol hfull;obtain⟨F',s1,s2,s3⟩:=AcH q1 (b:=b') (k:=⟨(k.cells.take (o+n*i.size)).drop o,k.st,true⟩) (p:=⟨p.g,p.o+o,p.room-o⟩) (by rw[Ac rfl]) (by unfold Mu.set;rw[Ac rfl]) rfl news us
     (by simp only[hlen0,hnl];omega) (hul.later' q2) hpn
    simp only[hlen0]at s1 s2 s3;have hqq:q=p.o+o:=hq (by omega);have hul2:us.length=m*i.size:=hnews.size;have hstore:=run_storeCells_cells (P:=P) p.g (p.o+o+n*i.size) us 0 w (λj hj=>by
      obtain⟨⟨y,hy⟩,_⟩:=hB.there (o+n*i.size+j) (by omega);rw[←AwA,←AwA]at hy;rw[Axg,hy];rfl) (λj hj=>by
      have:=(hB.there (o+n*i.size+j) (by omega)).2;rw[←AwA,←AwA]at this;rw[Axg];exact this) hoc
    have hrun:=hnews.fits (some ⟨p.g,q,none⟩) n c (w.setCells p.g (p.o+o+n*i.size) us) hfit (by
     have:m*i.bytes<=(n+m)*i.bytes:=Axd _ (by omega);omega) (λa ha=>by
     cases ha
     rw[hqq,Addr.add_mid];rw[Axg]at hstore;exact hstore) (λh=>by cases h)
    refine⟨_,_,hrun,μ.set b' ⟨p.g,p.o+o,p.room-o⟩,F',?_,?_,q2.trans s2,s3,λd hd=>PO ?_⟩
    .simp only[Rep]
     exact⟨⟨p.g,p.o+o,p.room-o⟩,by unfold Mu.set;rw[Ac rfl],.inr ⟨q,c,rfl,λ_=>hqq,hfit,hcm,by simp only;omega⟩⟩
    .refine s1.less λd k' hk'=>?_
     rw[hH4,←hb',FA,n3]at hk'
     by_cases e1:d=b'
     .rw[Ac e1]at hk' ⊢
      exact hk'
     .rw[Ab e1]at hk' ⊢
      rw[Ab e1];exact hk'
    .rw[hb',n1]
     have hd':d<H2.next\/H3.next+1<=d:=by rw[hH4]at hd;exact hd
     omega
   .-- the row moves
    have holds:∃ olds,RepList μ F w ((k.cells.take (o+n*i.size)).drop o) olds/\olds.length=n*i.size/\∀ W:World,W.heap=w.heap->(Builtin.firstCells i.size n (.slice (some ⟨p.g,q,none⟩) n c)).run P W=.ok olds.toArray W:=by
     by_cases hn0:n=0
     .subst hn0
      refine⟨[],?_,by simp,λW _=>by simp[Builtin.firstCells,loadCells,loadCellsFrom]⟩;have:((k.cells.take (o+0*i.size)).drop o)=[]:=AwN (by rw[hlen0];simp);rw[this];simp only[RepList]
     .obtain⟨us',hl,hcell⟩:=D8 (μ:=μ) (F:=F) (w:=w) (g:=p.g) (o:=p.o+o) (cs:=(k.cells.take (o+n*i.size)).drop o) λj x hx=>by
       simp only[Axw,Aw8]at hx;split at hx
       .obtain⟨u,a1,a2⟩:=hB.cell (o+j) x hx
        exact⟨u,by rwa [AwA],a2⟩
       .cases hx
      have hul':us'.length=n*i.size:=by rw[hl.length,hlen0]
      refine⟨us',hl,hul',λW hW=>?_⟩;rw[hq (by omega)];have:=(M7 (P:=P) (w:=w) (g:=p.g) (q:=p.o+o) (e:=i.size) (n:=n) (c:=c) hul' hcell).cells n W (ω _) hW
      rwa [←hul',AxD]at this
    obtain⟨olds,o1,o2,o3⟩:=holds;have hrun:=hnews.grows (some ⟨p.g,q,none⟩) n c olds o3 (by omega) c2 c1;refine⟨_,_,hrun,?_⟩;refine grown H3 k.st n c olds ((k.cells.take (o+n*i.size)).drop o) b' H' g5 ?_ ?_ n1 h9 o1 o2 c2 (by
     have:=hB.pure hex;rw[BN,Awu]at this ⊢;exact λx hx=>this x (AxK (Axq hx)))
    .refine hH.weaken λd k' hk'=>?_
     rw[n3]at hk'
     by_cases e1:d=b
     .subst e1
      rw[Ac rfl]at hk';split at hk'
      .cases hk'
      .simp only[δ]at hk'
       subst hk';exact⟨k,hk,rfl,rfl,λh=>by cases h⟩
     .rw[Ab e1]at hk'
      exact⟨k',hk',rfl,rfl,id⟩
    .intro d hd hbl
     refine hf d (by rw[←n1];exact hd) ?_;unfold AH.below at hbl ⊢
     rwa [n2]at hbl
  |_=>exact(Aq h).elim
def IH(P:Program)(Γ:FuncId->Ad->AM AV):Prop:=∀(f:FuncId) (args:Ad) (μ:Mu) (F:AP) (w:World) (H:AH) (Jx:Array Value),RepList μ F w args Jx.toList->HRep μ F w H.get->H.wf->B5 μ H->
 ∀ r H' ft,Γ f args H=some (r,H',ft)->Calls P f Jx w λe w'=>∃ u,e=.returned u/\Post μ F w H r H' u w'
def OpS(P:Program)(o:Oper)(a:Act)(m:AM AV)(μ:Mu)(F:AP)(w:World)(H:AH):Prop:=∀ r H' ft,m H=some (r,H',ft)->∀(next:Act->World->Prop) (Q:Exit->Act->World->Prop),
 (∀ u w',Post μ F w H r H' u w'->next (a.put o.dst u) w')->o.wp P a w next Q
theorem OpS.of_run{P:Program}{o:Oper}{a:Act}{m:AM AV}{μ:Mu}{F:AP}{w:World}{H:AH}(h:RS P (execOp a.eval o) m μ F w H):OpS P o a m μ F w H:=λr H' ft hm next Q hn=>by
 obtain⟨n,u,w',h1,h2,h3⟩:=h r H' ft hm;unfold Oper.wp;rw[h1];rcases h2 with rfl|⟨rfl,rfl⟩
 .grind [Oper.upon_value]
 .grind [Oper.upon_skip]
theorem Qd{μ:Mu}{F:AP}{w:World}:∀{cs:Ad} {l:List UInt8} {us:AI},bytesOf cs=some l->RepList μ F w cs us->us=l.map λb=>.int .u8 b.toNat
 |[],l,us,h,hr=>by
  simp only[bytesOf,δ]at h;simp only[RepList]at hr;subst h hr;rfl
 |x::r,l,us,h,hr=>by
  simp only[bytesOf]at h;simp only[RepList]at hr;obtain⟨u,t,rfl,h1,h2⟩:=hr;rcases e1:Uc x with _|c<;>rw[e1]at h
  .cases h
  rcases e2:bytesOf r with _|l'<;>rw[e2]at h
  .cases h
  simp only[δ]at h;subst h;rw[Qd e2 h2,AwP]
  congr 1
  unfold Uc at e1;split at e1
  .grind [Rep]
  .cases e1
theorem Ls{P:Program}{t:TypeId}(h:Ej P t=true):∃ e,P.underlying t=some (.slice e)/\P.underlying e=some (.int .u8):=by
 grind [Cz,Ej]
theorem JR{P:Program}{t:TypeId}(h:B8 P t=true):P.underlying t=some .string:=by
 grind [B8]
theorem Zb{μ:Mu}{F:AP}{w:World}{x:AV}{v:Value}(hx:Rep μ F w x v)(h:R3 x=true):∃ A n c,v=.slice A n c/\(A=none->n=0\/∃ xs,x=.ls xs):=by
 unfold R3 at h;split at h
 .simp only[Rep]at hx
  obtain⟨p,hp,⟨hn,rfl⟩|⟨q,c,rfl,_⟩⟩:=hx
  .grind
  exact⟨_,_,_,rfl,λh=>by cases h⟩
 .simp only[Rep]at hx
  obtain⟨_,A,c,rfl,_⟩:=hx;exact⟨_,_,_,rfl,λ_=>.inr ⟨_,rfl⟩⟩
 .simp only[Rep]at hx
  obtain⟨rfl,_⟩:=hx;exact⟨_,_,_,rfl,λ_=>.inl rfl⟩
 .cases h
theorem R0{P:Program}{μ:Mu}{F:AP}{w:World}{H:AH}{s d:TypeId}{x:AV}{v:Value}(hs:Ej P s=true)(hd:B8 P d=true)(hsl:R3 x=true)(hx:Rep μ F w x v)(hH:HRep μ F w H.get) :
  ValS P (convert s d v) ((newsA 1 x).bind λr=>AM.opt ((bytesOf r.2).map λl=>.v (.string ⟨l.toArray⟩))) μ F w H:=λr H' ft h=>by
 obtain⟨⟨n,cs⟩,H1,f1,f2,h1,h2⟩:=bind_some h;obtain⟨e1,_,us,hul,hnews⟩:=JZ hx hH h1;obtain⟨h3,e2⟩:=Ek h2;rw[e2,e1];rcases hb:bytesOf cs with _|l<;>simp only[hb,AyL,AwE]at h3
 .cases h3
 simp only[δ]at h3;have hus:=Qd hb hul;obtain⟨e,hue,hu8⟩:=Ls hs;obtain⟨A,n',c,rfl,hA⟩:=Zb hx hsl;have hlen:=hnews.len;simp only[Builtin.lenOf,Sem.run_pure,Result.ok.injEq,and_true]at hlen;have hll:l.length=n':=by
  have:=hnews.size;rw[hus,Aw0]at this;omega
 refine⟨.string ⟨l.toArray⟩,w,?_,?_⟩
 .rw[←hll,run_convert_bytes_string w s d e A l.length c hue hu8 (JR hd)]
  cases A with
  |some a=>
   have hc:=hnews.cells n w (ω _) rfl;rw[←hnews.size,AxD,hus]at hc;simp only[Builtin.firstCells,AyB,←hlen,←hll]at hc;have hm:l.map (λb=>Value.int .u8 (b.toNat:Int))=(l.map (λb=>(b.toNat:Int))).map (Value.int .u8):=by rw[AyI];rfl
   rw[hm]at hc;rw[run_bytesToString w a l.length c _ hc,foldl_push_byteCells];simp
  |none=>
   have hl0:l=[]:=by
    have hc:=hnews.cells n w (ω _) rfl;rw[←hnews.size,AxD,hus]at hc;simp only[Builtin.firstCells,Sem.run_pure,Result.ok.injEq,and_true]at hc;have:=congrArg Array.size hc;simp at this;exact AwN this.symm
   subst hl0;simp[Conv.bytesToString];rfl
 .rw[←h3]
  exact ED (by simp only[Rep];exact⟨trivial,rfl⟩) hH
theorem Vi{P:Program}{μ:Mu}{F:AP}{w:World}{H:AH}{s d:TypeId}{str:ByteArray}(hs:B8 P s=true)(hd:Ej P d=true)(hsz:str.size<=maxLen)(hH:HRep μ F w H.get)(hf:B5 μ H) :
  ValS P (convert s d (.string str)) ((AM.newB ⟨str.data.toList.map LR,true,true⟩).bind λb=>AM.ret (.sl b 0 str.size 1)) μ F w H:=λr H' ft h=>by
 obtain⟨b,H1,f1,f2,h1,h2⟩:=bind_some h;obtain⟨e1,e2⟩:=At h2;subst e1 e2;obtain⟨e,hue,hu8⟩:=Ls hd;have hrun:=run_bytes_of_string (P:=P) w s d e str (JR hs) hue hu8;have hcap:=grownCap_ge w str.size 0 e;have hcapm:=grownCap_le_maxLen w str.size 0 e hsz;obtain⟨d1,d2,d3⟩:=hH.drew;have hsize:(bytesRow str (grownCap w str.size 0 e)).size=grownCap w str.size 0 e:=by
  unfold bytesRow;rw[AyY,Az3,Array.size_replicate];have:str.data.size=str.size:=rfl;omega
 have hpost:=J6 (t:=e) (fr:=((bytesRow str (grownCap w str.size 0 e)).size,(bytesRow str (grownCap w str.size 0 e)).size+1)) (arr:=bytesRow str (grownCap w str.size 0 e))
  (r:=.sl b 0 str.size 1) (u:=.slice (some ⟨w.heap.size,0,none⟩) str.size (grownCap w str.size 0 e)) d1 hf h1 (.inl (ω _)) (by
   rw[hsize,Aw0,Axe];exact hcap) (by
   have e3:str.data.toList.map LR=(str.data.toList.map (λb=>Value.int .u8 b.toNat)).map .v:=by rw[AyI];rfl
   have e4:(bytesRow str (grownCap w str.size 0 e)).toList.take (str.data.toList.map LR).length=str.data.toList.map (λb=>Value.int .u8 b.toNat):=by
    simp_all [bytesRow]
   rw[e4,e3];exact Fk _ _ _ _ (Awu.2 λx hx=>by obtain⟨y,_,rfl⟩:=AxU.1 hx;rfl)) (λ_=>OT _) (by
   simp only[Rep];exact⟨_,by unfold Mu.set;rw[Ac rfl],.inr ⟨0,_,rfl,λ_=>rfl,hcap,hcapm,by simp only;omega⟩⟩)
 obtain⟨μ',F',p1,p2,p3,p4,p5⟩:=hpost;exact⟨_,_,hrun,μ',F',p1,p2,d2.trans p3,WStep.trans (λ_ _ h=>h) d3 p4,p5⟩
theorem Np(w:World)(g o:Nat):w.setCells g o []=w:=rfl
theorem VS{P:Program}{μ:Mu}{F:AP}{w:World}{H:AH}{t u ty:TypeId}{s x:AV}{v y:Value}(hs:Rep μ F w s v)(hx:Rep μ F w x y)(hH:HRep μ F w H.get) :
  ValS P (Builtin.copy_ #[t,u] ty #[v,y]) (copyA P [t,u] s x) μ F w H:=λr H' ft h=>by
 unfold copyA at h;simp only at h;rcases h1:Cz P t with _|et<;>rw[h1]at h
 .exact(Aq h).elim
 cases s<;>try (exact(Aq h).elim)
 case sl b o n e=>
  simp only at h;rcases Bz h with⟨hse,ha⟩|⟨_,ha⟩
  rotate_left
  .exact(Aq ha).elim
  clear h;obtain⟨⟨m,news⟩,H1,f1,f2,h5,hb⟩:=bind_some ha;clear ha;obtain⟨hHH,hpn,us,hul,hnews⟩:=JZ hx hH h5;rw[hHH]at hb;simp only at hb;rcases Bz hb with⟨hone,hc⟩|⟨_,hc⟩
  rotate_left
  .exact(Aq hc).elim
  clear hb;obtain⟨k,H2,g1,g2,h6,hd⟩:=bind_some hc;obtain⟨hk,hHH2⟩:=B0 h6;rw[hHH2]at hd;rcases Bz hd with⟨⟨hst,hlen⟩,hd2⟩|⟨_,hd2⟩
  rotate_left
  .grind [Aq]
  obtain⟨_,H3,g3,g4,h7,h8⟩:=bind_some hd2;have hH3:=Ix h7;obtain⟨hr,hH4⟩:=At h8;subst hr hH4 hH3;simp only[Rep]at hs;obtain⟨p,hp,hvv⟩:=hs;obtain⟨inf,hinf,hsz⟩:=Dl hse;obtain⟨p',hp',hB⟩:=hH.blk b k hk;rw[hp]at hp'
  cases hp'
  have hle:Axm m n*e<=m*e:=Axd _ (AzH _ _);have hle2:Axm m n*e<=n*e:=Axd _ (Nat.min_le_right _ _);have hul2:=hul.sub 0 (Axm m n*e);simp only[κ]at hul2;have hlt:(us.take (Axm m n*e)).length=Axm m n*e:=by rw[AwL,hnews.size];omega
  have hlt2:(news.take (Axm m n*e)).length=Axm m n*e:=by rw[←hul2.length,hlt]
  obtain⟨q1,q2,q3⟩:=QB hH hk hp hst o (news.take (Axm m n*e)) (us.take (Axm m n*e)) (by rw[hlt2];omega) hul2 (λ_=>by
   rw[BN,Awu]at hpn ⊢;exact λx hx=>hpn x (AxK hx))
  have hoc:∀ y∈us.take (Axm m n*e),y.oneCell'=true:=λy hy=>by
   obtain⟨j,hj,rfl⟩:=AxF hy;have hj2:j<(news.take (Axm m n*e)).length:=by rw[hlt2,←hlt];exact hj
   obtain⟨u,a1,a2⟩:=hul2.get (Ψ hj2);rw[Ψ hj]at a1
   cases a1
   exact a2.one (Awu.1 hone _ (Awy hj2))
  have hcells:=hnews.cells (Axm m n) w (AzH _ _) rfl;rcases hvv with⟨hn0,rfl⟩|⟨q,c,rfl,hq,hnc,hcm,hroom⟩
  .have h0:us.take (Axm m n*e)=[]:=AwN (by rw[hlt,hn0];simp)
   refine⟨.int .i64 (Axm m n),w.setCells p.g (p.o+o) (us.take (Axm m n*e)),?_,μ,F,by simp only[Rep];exact⟨trivial,rfl⟩,?_,q2,q3,λ_ _=>rfl⟩
   .subst hn0
    simp only[Builtin.copy_,Axk,Axa,AwW];simp[run_underlying (CQ h1),sizeOf,typeInfo,hinf,hsz,goInt];rw[hnews.len];simp only[Result.andThen_ok];rw[show m.min 0=0 from Nat.min_zero m]at hcells;rw[hcells];simp only[Result.andThen_ok,h0];rfl
   .rw[G9]
    exact q1
  have hstore:(storeCells (⟨p.g,q,none⟩:Addr) (us.take (Axm m n*e))).run P w=.ok () (w.setCells p.g (p.o+o) (us.take (Axm m n*e))):=by
   by_cases hn0:n=0
   .have h0:us.take (Axm m n*e)=[]:=AwN (by rw[hlt,hn0];simp)
    rw[h0];rfl
   .rw[hq (by omega)]
    have:=run_storeCells_cells (P:=P) p.g (p.o+o) (us.take (Axm m n*e)) 0 w (λj hj=>by
      obtain⟨⟨y,hy⟩,_⟩:=hB.there (o+j) (by have:=hB.room;omega);rw[←AwA]at hy;rw[Axg,hy];rfl) (λj hj=>by
      have:=(hB.there (o+j) (by have:=hB.room;omega)).2;rw[←AwA]at this;rw[Axg];exact this) hoc
    rw[Axg]at this;exact this
  refine⟨.int .i64 (Axm m n),w.setCells p.g (p.o+o) (us.take (Axm m n*e)),?_,μ,F,by simp only[Rep];exact⟨trivial,rfl⟩,?_,q2,q3,λ_ _=>rfl⟩
  .simp only[Builtin.copy_,Axk,Axa,AwW]
   simp[run_underlying (CQ h1),sizeOf,typeInfo,hinf,hsz,goInt];rw[hnews.len];simp only[Result.andThen_ok];rw[hcells];simp only[Result.andThen_ok];rw[hstore];rfl
  .rw[G9]
   exact q1
theorem Aeh{l:Ad}{n:Nat}(h:l.all AV.one=true)(hl:0<l.length):∀ x∈Cx l n,x.one=true:=by
 intro x hx;unfold Cx at hx;obtain⟨i,_,rfl⟩:=AxU.1 hx;have hi:i % l.length<l.length:=Nat.mod_lt _ hl;rw[Ψ hi,Option.getD_some];exact Awu.1 h _ (Awy hi)
theorem Ug{P:Program}{μ:Mu}{F:AP}{w:World}{H:AH}{t ty:TypeId}{s:AV}{v:Value}(hs:Rep μ F w s v)(hH:HRep μ F w H.get) :
  ValS P (Builtin.clear_ #[t] ty #[v]) (clearA P [t] s) μ F w H:=λr H' ft h=>by
 unfold clearA at h;simp only at h;rcases h1:Cz P t with _|et<;>rw[h1]at h
 .exact(Aq h).elim
 cases s<;>try (exact(Aq h).elim)
 case sl b o n e=>
  simp only at h;rcases h5:Dq P et with _|z<;>rw[h5]at h
  .exact(Aq h).elim
  simp only at h;rcases Bz h with⟨⟨hse,hze,he0,hone⟩,ha⟩|⟨_,ha⟩
  rotate_left
  .exact(Aq ha).elim
  clear h;obtain⟨k,H2,g1,g2,h6,hd⟩:=bind_some ha;obtain⟨hk,hHH2⟩:=B0 h6;rw[hHH2]at hd;rcases Bz hd with⟨⟨hst,hlen⟩,hd2⟩|⟨_,hd2⟩
  rotate_left
  .grind [Aq]
  obtain⟨_,H3,g3,g4,h7,h8⟩:=bind_some hd2;have hH3:=Ix h7;obtain⟨hr,hH4⟩:=At h8;subst hr hH4 hH3;simp only[Rep]at hs;obtain⟨p,hp,hvv⟩:=hs;obtain⟨i',hi',hz,hfl⟩:=Ez h5;obtain⟨p',hp',hB⟩:=hH.blk b k hk;rw[hp]at hp'
  cases hp'
  have hzs:=Hm (μ:=μ) (F:=F) (w:=w) z.cells (n*e) hfl;generalize hus:((Ayg (n*e)).map (λi=>z.cells[i % z.cells.size]!)).toList=us at hzs;have hzl:(Cx (z.cells.toList.map AV.v) (n*e)).length=n*e:=by unfold Cx;rw[Aw0,AyA]
  have hlt:us.length=n*e:=by rw[hzs.length,hzl]
  obtain⟨q1,q2,q3⟩:=QB hH hk hp hst o (Cx (z.cells.toList.map AV.v) (n*e)) us (by rw[hzl];omega) hzs (λ_=>J0 _ _);have hoc:∀ y∈us,y.oneCell'=true:=λy hy=>by
   obtain⟨j,hj,rfl⟩:=AxF hy;have hj2:j<(Cx (z.cells.toList.map AV.v) (n*e)).length:=by rw[hzl,←hlt];exact hj
   obtain⟨u,a1,a2⟩:=hzs.get (Ψ hj2);rw[Ψ hj]at a1
   cases a1
   exact a2.one (Aeh hone (by rw[Aw0,Axe,hze];exact he0) _ (Awy hj2))
  refine⟨.tuple #[],w.setCells p.g (p.o+o) us,?_,μ,F,by simp only[Rep];exact⟨#[],rfl,rfl⟩,?_,q2,q3,λ_ _=>rfl⟩
  .have hzc:(Builtin.zeroCells z.cells n).toList=us:=by
    grind [Builtin.zeroCells]
   rcases hvv with⟨hn0,rfl⟩|⟨q,c,rfl,hq,hnc,hcm,hroom⟩
   .simp_all [Builtin.clear_,AwN,CQ,run_underlying,Np]
   .cases n with
    |zero=>
     have h0:us=[]:=AwN (by rw[hlt];simp);rw[h0,Np];simp[Builtin.clear_,run_underlying (CQ h1)]
    |succ n=>
     have hstore:(storeCells (⟨p.g,q,none⟩:Addr) us).run P w=.ok () (w.setCells p.g (p.o+o) us):=by
      rw[hq (by omega)];have:=run_storeCells_cells (P:=P) p.g (p.o+o) us 0 w (λj hj=>by
        obtain⟨⟨y,hy⟩,_⟩:=hB.there (o+j) (by have:=hB.room;omega);rw[←AwA]at hy;rw[Axg,hy];rfl) (λj hj=>by
        have:=(hB.there (o+j) (by have:=hB.room;omega)).2;rw[←AwA]at this;rw[Axg];exact this) hoc
      rw[Axg]at this;exact this
     simp[Builtin.clear_,run_underlying (CQ h1),zeroValue,typeInfo,hi',hz,hzc,hstore]
  .rw[G9]
   exact q1
section
variable {P:Program} {w:World} {t:TypeId}
theorem AlX(d:Nat){e:TypeId}(hu:P.underlying t=some (.pointer e))(a:Addr):(Op.equalIn (d+1) t (.pointer (some a)) (.pointer none)).run P w=.ok false w:=by
 simp only[Op.equalIn,Sem.run_bind,run_underlying hu,Result.andThen_ok,Sem.run_pure]
theorem AlW(d:Nat){e:TypeId}(hu:P.underlying t=some (.pointer e))(a:Addr):(Op.equalIn (d+1) t (.pointer none) (.pointer (some a))).run P w=.ok false w:=by
 simp only[Op.equalIn,Sem.run_bind,run_underlying hu,Result.andThen_ok,Sem.run_pure,Option.isNone]
theorem Arg(d:Nat){e:TypeId}(hu:P.underlying t=some (.slice e))(a:Addr)(n c n' c':Nat):(Op.equalIn (d+1) t (.slice (some a) n c) (.slice none n' c')).run P w=.ok false w:=by
 simp only[Op.equalIn,Sem.run_bind,run_underlying hu,Result.andThen_ok,Sem.run_pure]
theorem Arf(d:Nat){ps rs:Array TypeId}{vr:Bool}(hu:P.underlying t=some (.func ps rs vr))(f:Fn)(x y:Array Value):(Op.equalIn (d+1) t (.func f x y) .nilFunc).run P w=.ok false w:=by
 simp only[Op.equalIn,Sem.run_bind,run_underlying hu,Result.andThen_ok,Sem.run_pure]
end
theorem Xe{P:Program}{μ:Mu}{F:AP}{w:World}{H:AH}{t yt:TypeId}{x y:Operand}{ρ:Operand->AV}{a:Act}{dst:Option Tmp}{ty:TypeId}{pos:String}{after:Array Edge}{guard:Option (Nat × Bool)}{b:BinOp}
  (hx:Rep μ F w (ρ x) (a.eval x)) (hy:Rep μ F w (ρ y) (a.eval y)) (hH:HRep μ F w H.get) (h:He P t (ρ x) (ρ y)=true) :
  RS P (execOp a.eval ⟨dst,.binOp b t x y yt,ty,pos,after,guard⟩) (match b with
   |.eql=>AM.ret (.v (.bool false))
   |.neq=>AM.ret (.v (.bool true))
   |_=>AM.fail) μ F w H:=by
 have key:∀ u v,a.eval x=u->a.eval y=v->(Op.equal t u v).run P w=.ok false w->(eqGuard .eql t x y u v).run P w=.ok () w->(eqGuard .neq t x y u v).run P w=.ok () w->
   (binOp .eql t u v=do pure (.bool (←Op.equal t u v)))->(binOp .neq t u v=do pure (.bool (!(←Op.equal t u v))))->
   RS P (execOp a.eval ⟨dst,.binOp b t x y yt,ty,pos,after,guard⟩) (match b with
   |.eql=>AM.ret (.v (.bool false))
   |.neq=>AM.ret (.v (.bool true))
   |_=>AM.fail) μ F w H:=by
  intro u v hu hv he hg1 hg2 hb1 hb2
  cases b<;>try (exact λr H' ft h=>(Aq h).elim)
  case eql=>exact DM (u:=.bool false) (by simp[execOp,hu,hv,hg1,hb1,he]) (by simp only[Rep];exact⟨trivial,rfl⟩) hH
  case neq=>exact DM (u:=.bool true) (by simp[execOp,hu,hv,hg2,hb2,he]) (by simp only[Rep];exact⟨trivial,rfl⟩) hH
 unfold He at h;split at h<;>try (cases h;done)
 .rename_i e1 e2 hu
  rw[e1]at hx;rw[e2]at hy;simp only[Rep]at hx hy;obtain⟨p,hp,hxe⟩:=hx;exact key _ _ hxe hy.1 (AlX 9999 hu _) (by simp[eqGuard]) (by simp[eqGuard]) rfl rfl
 .rename_i e1 e2 hu
  rw[e1]at hx;rw[e2]at hy;simp only[Rep]at hx hy;obtain⟨_,g,o,hxe,_⟩:=hx;exact key _ _ hxe hy.1 (AlX 9999 hu _) (by simp[eqGuard]) (by simp[eqGuard]) rfl rfl
 .rename_i e1 e2 hu
  rw[e1]at hx;rw[e2]at hy;simp only[Rep]at hx hy;obtain⟨p,hp,hye⟩:=hy;exact key _ _ hx.1 hye (AlW 9999 hu _) (by simp[eqGuard]) (by simp[eqGuard]) rfl rfl
 .rename_i e1 e2 hu
  rw[e1]at hx;rw[e2]at hy;simp only[Rep]at hx hy;obtain⟨_,g,o,hye,_⟩:=hy;exact key _ _ hx.1 hye (AlW 9999 hu _) (by simp[eqGuard]) (by simp[eqGuard]) rfl rfl
 .rename_i e1 e2 hu
  rw[e1]at hx;rw[e2]at hy;simp only[Rep]at hx hy;obtain⟨p,hp,⟨hn0,_⟩|⟨q,c,hxe,_⟩⟩:=hx
  .omega
  exact key _ _ hxe hy.1 (Arg 9999 hu _ _ _ _ _) (by simp[eqGuard]) (by simp[eqGuard]) rfl rfl
 .rename_i e1 e2 hu
  rw[e1]at hx;rw[e2]at hy;simp only[Rep]at hx hy;obtain⟨ua,uc,hxe,_⟩:=hx;exact key _ _ hxe hy.1 (Arf 9999 hu _ _ _) (by simp[eqGuard]) (by simp[eqGuard]) rfl rfl
end Go.Proofs.YtlmhajfbpplpoaaGreat
