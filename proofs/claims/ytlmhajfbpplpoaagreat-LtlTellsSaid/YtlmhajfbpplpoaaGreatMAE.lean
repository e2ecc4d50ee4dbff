/- Values without addresses -/
import Derived.WalkKit
import Derived.Laws.IdiomCopy
import Derived.Deep.MidRow
import Derived.Laws.Append
import Derived.Laws.BytesString
import Derived.Laws.Tables
import Derived.Laws.MakeOwn
import Derived.Laws.IdiomStrings
set_option linter.all false
open Array renaming getElem?_eq_getElem->AvU,getElem?_eq_none->AwF,getElem?_eq_some_iff->Awl,getElem?_toList->Axi,length_toList->AwB,range->Axx
open Bool renaming and_eq_true->AvF,false_eq_true->Awi
open List renaming all_eq_true->AvJ,foldl_cons->Axu,getElem?_drop->AwI,getElem?_eq_getElem->Ω,getElem?_eq_some_iff->Av9,getElem?_map->AwC,getElem?_take->Awj,getElem_mem->AvN,length_append->ζ,length_cons->ε,length_map->Av8,length_range->AxN,mem_append->Awg,mem_of_mem_drop->AwE,mem_of_mem_take->AwZ,take_length->AwQ
open Nat renaming add_assoc->AvQ,add_mul->Aws,add_zero->Awr,le_refl->η,le_trans->Awe,lt_of_lt_of_le->Awp,lt_or_ge->Av3,zero_add->AvW
open Option renaming map_some->AvP
namespace Go.Proofs.YtlmhajfbpplpoaaGreat
open Option.some renaming injEq->ξ
open Go.RowKit
theorem Ac{c:Prop}{h:Decidable c}(hc:c){α:Sort _}{t e:α}:ite c t e=t:=if_pos hc
theorem Ad{c:Prop}{h:Decidable c}(hc:¬c){α:Sort _}{t e:α}:ite c t e=e:=if_neg hc
theorem Ba{p:Prop}[Decidable p](h:p):decide p=true:=decide_eq_true h
theorem Bu{p:Prop}[Decidable p](h:¬p):decide p=false:=decide_eq_false h
abbrev Al:=List Nat
abbrev AN:=List Value
inductive AV where
 |v (x:Value)
 |ptr (b o:Nat)
 |sl (b o n e:Nat)
 |ls (xs:List (List AV))
 |lp (cs:List AV)
 |agg (cs:List AV)
 |tup (vs:List AV)
 |fn (f:Fn) (first captured:List AV)
 |any
abbrev Ab:=List AV
structure Pl where
 g:Nat
 o:Nat
 room:Nat
abbrev Mu:=Nat->Option Pl
abbrev AQ:=Nat->Nat->Prop
def NB:Value->Bool
 |.agg _=>false
 |_=>true
mutual
def AV.noid:AV->Bool
 |.v _=>true
 |.ptr _ _=>false
 |.sl _ _ _ _=>false
 |.ls _=>true
 |.lp _=>true
 |.agg cs=>A6 cs
 |.tup cs=>A6 cs
 |.fn _ a c=>A6 a&&A6 c
 |.any=>true
def A6:Ab->Bool
 |[]=>true
 |x::r=>x.noid&&A6 r
end
def GA(xs:List Ab):Bool:=xs.all A6
theorem BN:∀(l:Ab),A6 l=l.all AV.noid
 |[]=>rfl
 |x::r=>by simp[A6,BN r]
mutual
def Rep(μ:Mu)(F:AQ)(w:World):AV->Value->Prop
 |.v x,u=>u=x/\NB x=true
 |.ptr b o,u=>∃ p,μ b=some p/\u=.pointer (some ⟨p.g,p.o+o,none⟩)
 |.sl b o n e,u=>∃ p,μ b=some p/\((n=0/\u=.slice none 0 0)\/∃ q c,u=.slice (some ⟨p.g,q,none⟩) n c/\(c≠0->q=p.o+o)/\n<=c/\c<=maxLen/\o+c*e<=p.room)
 |.ls xs,u=>GA xs=true/\∃ A c,u=.slice A xs.length c/\xs.length<=c/\c<=maxLen/\(xs≠[]->∃ g o e,A=some ⟨g,o,none⟩/\RepRows μ F w g e xs o)
 |.lp cs,u=>A6 cs=true/\∃ g o,u=.pointer (some ⟨g,o,none⟩)/\RepAt μ F w g cs o
 |.agg cs,u=>∃ us,u=.agg us/\RepList μ F w cs us.toList
 |.tup vs,u=>∃ us,u=.tuple us/\RepList μ F w vs us.toList
 |.fn f a c,u=>∃ ua uc,u=.func f ua uc/\RepList μ F w a ua.toList/\RepList μ F w c uc.toList
 |.any,_=>True
def RepRows(μ:Mu)(F:AQ)(w:World)(g e:Nat):List Ab->Nat->Prop
 |[],_=>True
 |x::r,o=>x.length=e/\RepAt μ F w g x o/\RepRows μ F w g e r (o+e)
def RepAt(μ:Mu)(F:AQ)(w:World)(g:Nat):Ab->Nat->Prop
 |[],_=>True
 |x::r,o=>(F g o/\∃ u,w.cell? ⟨g,o,none⟩=some u/\Rep μ F w x u)/\RepAt μ F w g r (o+1)
def RepList(μ:Mu)(F:AQ)(w:World):Ab->AN->Prop
 |[],us=>us=[]
 |x::r,us=>∃ u t,us=u::t/\Rep μ F w x u/\RepList μ F w r t
end
structure Later (μ μ':Mu) (F F':AQ) (w w':World):Prop where
 mu:∀ b p,μ b=some p->μ' b=some p
 prot:∀ g o,F g o->F' g o/\w'.cell? ⟨g,o,none⟩=w.cell? ⟨g,o,none⟩
section
variable {μ μ':Mu} {F F':AQ} {w w':World}
mutual
theorem Rep.later(h:Later μ μ' F F' w w'):∀(x:AV) (u:Value),Rep μ F w x u->Rep μ' F' w' x u
 |.v x,u,hx=>by simpa only[Rep]using hx
 |.ptr b o,u,hx=>by
  simp only[Rep]at hx ⊢;obtain⟨p,h1,h2⟩:=hx;exact⟨p,h.mu _ _ h1,h2⟩
 |.sl b o n e,u,hx=>by
  simp only[Rep]at hx ⊢;obtain⟨p,h1,h2⟩:=hx;exact⟨p,h.mu _ _ h1,h2⟩
 |.ls xs,u,hx=>by
  simp only[Rep]at hx ⊢;obtain⟨h0,A,c,h1,h2,h3,h4⟩:=hx;refine⟨h0,A,c,h1,h2,h3,λhne=>?_⟩;obtain⟨g,o,e,hA,hr⟩:=h4 hne;exact⟨g,o,e,hA,RepRows.later h g e xs o hr⟩
 |.lp cs,u,hx=>by
  simp only[Rep]at hx ⊢;obtain⟨h0,g,o,h1,h2⟩:=hx;exact⟨h0,g,o,h1,RepAt.later h g cs o h2⟩
 |.agg cs,u,hx=>by
  simp only[Rep]at hx ⊢;obtain⟨us,h1,h2⟩:=hx;exact⟨us,h1,RepList.later h cs _ h2⟩
 |.tup cs,u,hx=>by
  simp only[Rep]at hx ⊢;obtain⟨us,h1,h2⟩:=hx;exact⟨us,h1,RepList.later h cs _ h2⟩
 |.fn f a c,u,hx=>by
  simp only[Rep]at hx ⊢;obtain⟨ua,uc,h1,h2,h3⟩:=hx;exact⟨ua,uc,h1,RepList.later h a _ h2,RepList.later h c _ h3⟩
 |.any,_,_=>by simp only[Rep]
theorem RepRows.later(h:Later μ μ' F F' w w')(g e:Nat):∀(xs:List Ab) (o:Nat),RepRows μ F w g e xs o->RepRows μ' F' w' g e xs o
 |[],_,_=>by simp only[RepRows]
 |x::r,o,hx=>by
  simp only[RepRows]at hx ⊢;exact⟨hx.1,RepAt.later h g x o hx.2.1,RepRows.later h g e r _ hx.2.2⟩
theorem RepAt.later(h:Later μ μ' F F' w w')(g:Nat):∀(xs:Ab) (o:Nat),RepAt μ F w g xs o->RepAt μ' F' w' g xs o
 |[],_,_=>by simp only[RepAt]
 |x::r,o,hx=>by
  simp only[RepAt]at hx ⊢;obtain⟨⟨h1,u,h2,h3⟩,h4⟩:=hx;obtain⟨k1,k2⟩:=h.prot g o h1;exact⟨⟨k1,u,k2.trans h2,Rep.later h x u h3⟩,RepAt.later h g r _ h4⟩
theorem RepList.later(h:Later μ μ' F F' w w'):∀(xs:Ab) (us:AN),RepList μ F w xs us->RepList μ' F' w' xs us
 |[],us,hx=>by simpa only[RepList]using hx
 |x::r,us,hx=>by
  simp only[RepList]at hx ⊢;obtain⟨u,t,h1,h2,h3⟩:=hx;exact⟨u,t,h1,Rep.later h x u h2,RepList.later h r t h3⟩
end
end
theorem RepList.later'{μ μ':Mu}{F F':AQ}{w w':World}{xs:Ab}{us:AN}(hx:RepList μ F w xs us)(h:Later μ μ' F F' w w'):RepList μ' F' w' xs us:=RepList.later h xs us hx
theorem Later.refl(μ:Mu)(F:AQ)(w:World):Later μ μ F F w w:=⟨λ_ _ h=>h,λ_ _ h=>⟨h,rfl⟩⟩
theorem Later.trans{μ μ1 μ2:Mu}{F F1 F2:AQ}{w w1 w2:World}(h:Later μ μ1 F F1 w w1)(k:Later μ1 μ2 F1 F2 w1 w2):Later μ μ2 F F2 w w2:=
 ⟨λb p hb=>k.mu b p (h.mu b p hb),λg o hg=>⟨(k.prot g o (h.prot g o hg).1).1,((k.prot g o (h.prot g o hg).1).2).trans (h.prot g o hg).2⟩⟩
theorem RepList.length{μ:Mu}{F:AQ}{w:World}:∀{xs:Ab} {us:AN},RepList μ F w xs us->us.length=xs.length
 |[],us,h=>by simp only[RepList]at h;simp[h]
 |x::r,us,h=>by
  simp only[RepList]at h;obtain⟨u,t,rfl,_,h3⟩:=h;simp[RepList.length h3]
theorem RepList.get{μ:Mu}{F:AQ}{w:World}:∀{xs:Ab} {us:AN},RepList μ F w xs us->∀{i:Nat} {x:AV},xs[i]? = some x->∃ u,us[i]? = some u/\Rep μ F w x u
 |[],us,h,i,x,hi=>by simp at hi
 |y::r,us,h,i,x,hi=>by
  simp only[RepList]at h;obtain⟨u,t,rfl,h2,h3⟩:=h
  cases i with
  |zero=>simp at hi;subst hi;exact⟨u,rfl,h2⟩
  |succ i=>simpa using RepList.get h3 (i:=i) (x:=x) (by simpa using hi)
theorem RepList.mk{μ:Mu}{F:AQ}{w:World}:∀{xs:Ab} {us:AN},us.length=xs.length->(∀(i:Nat) (x:AV),xs[i]? = some x->∃ u,us[i]? = some u/\Rep μ F w x u)->RepList μ F w xs us
 |[],us,hl,_=>by simp only[RepList];exact List.length_eq_zero_iff.1 hl
 |x::r,[],hl,_=>by simp at hl
 |x::r,u::t,hl,h=>by
  simp only[RepList];refine⟨u,t,rfl,?_,RepList.mk (by simpa using hl) λi y hy=>by simpa using h (i+1) y (by simpa using hy)⟩;obtain⟨u',h1,h2⟩:=h 0 x rfl;simp at h1;subst h1;exact h2
theorem RepAt.get{μ:Mu}{F:AQ}{w:World}{g:Nat}:∀{xs:Ab} {o:Nat},RepAt μ F w g xs o->∀{i:Nat} {x:AV},xs[i]? = some x->F g (o+i)/\∃ u,w.cell? ⟨g,o+i,none⟩=some u/\Rep μ F w x u
 |[],o,h,i,x,hi=>by simp at hi
 |y::r,o,h,i,x,hi=>by
  simp only[RepAt]at h
  cases i with
  |zero=>simp at hi;subst hi;exact h.1
  |succ i=>
   have:=RepAt.get h.2 (i:=i) (x:=x) (by simpa using hi)
   rwa [show o+1+i=o+(i+1) by omega]at this
theorem RepAt.mk{μ:Mu}{F:AQ}{w:World}{g:Nat}:∀{xs:Ab} {o:Nat},(∀(i:Nat) (x:AV),xs[i]? = some x->F g (o+i)/\∃ u,w.cell? ⟨g,o+i,none⟩=some u/\Rep μ F w x u)->RepAt μ F w g xs o
 |[],o,_=>by simp only[RepAt]
 |x::r,o,h=>by
  simp only[RepAt];refine⟨by simpa using h 0 x rfl,RepAt.mk λi y hy=>?_⟩;have:=h (i+1) y (by simpa using hy)
  rwa [show o+(i+1)=o+1+i by omega]at this
theorem RepAt.drop{μ:Mu}{F:AQ}{w:World}{g:Nat}{xs:Ab}{o:Nat}(h:RepAt μ F w g xs o)(k:Nat):RepAt μ F w g (xs.drop k) (o+k):=
 RepAt.mk λi x hx=>by
  have:=h.get (i:=k+i) (x:=x) (by simpa[AwI]using hx)
  rwa [←AvQ]at this
theorem RepRows.get{μ:Mu}{F:AQ}{w:World}{g e:Nat}:∀{xs:List Ab} {o:Nat},RepRows μ F w g e xs o->∀{i:Nat} {x:Ab},xs[i]? = some x->x.length=e/\RepAt μ F w g x (o+i*e)
 |[],o,h,i,x,hi=>by simp at hi
 |y::r,o,h,i,x,hi=>by
  simp only[RepRows]at h
  cases i with
  |zero=>simp at hi;subst hi;simpa using ⟨h.1,h.2.1⟩
  |succ i=>
   have:=RepRows.get h.2.2 (i:=i) (x:=x) (by simpa using hi)
   rwa [show o+e+i*e=o+(i+1)*e by rw[Aws];omega]at this
theorem RepRows.mk{μ:Mu}{F:AQ}{w:World}{g e:Nat}:∀{xs:List Ab} {o:Nat},(∀(i:Nat) (x:Ab),xs[i]? = some x->x.length=e/\RepAt μ F w g x (o+i*e))->RepRows μ F w g e xs o
 |[],o,_=>by simp only[RepRows]
 |x::r,o,h=>by
  simp only[RepRows];have h0:=h 0 x rfl;refine⟨h0.1,by simpa using h0.2,RepRows.mk λi y hy=>?_⟩;have:=h (i+1) y (by simpa using hy)
  rwa [show o+(i+1)*e=o+e+i*e by rw[Aws];omega]at this
structure ABlk where
 cells:Ab
 st:Bool
 ex:Bool
def ABlk.owns(k:ABlk)(room i:Nat):Prop:=(i<k.cells.length/\k.st=true)\/(k.cells.length<=i/\i<room/\k.ex=true)
structure BRep (μ:Mu) (F:AQ) (w:World) (p:Pl) (k:ABlk):Prop where
 cell:∀ i x,k.cells[i]? = some x->∃ u,w.cell? ⟨p.g,p.o+i,none⟩=some u/\Rep μ F w x u
 room:k.cells.length<=p.room
 there:∀ i,i<p.room->(∃ u,w.cell? ⟨p.g,p.o+i,none⟩=some u)/\w.frozen? ⟨p.g,p.o+i,none⟩=false
 kept:k.st=false->∀ i,i<k.cells.length->F p.g (p.o+i)
 free:∀ i,k.owns p.room i->¬ F p.g (p.o+i)
 pure:k.ex=true->A6 k.cells=true
structure HRep (μ:Mu) (F:AQ) (w:World) (H:Nat->Option ABlk):Prop where
 blk:∀ b k,H b=some k->∃ p,μ b=some p/\BRep μ F w p k
 apart:∀ b b' k k' p p',b≠b'->H b=some k->H b'=some k'->μ b=some p->μ b'=some p'->∀ i i',k.owns p.room i->k'.owns p'.room i'->(p.g,p.o+i)≠(p'.g,p'.o+i')
 prot:∀ g o,F g o->g<w.heap.size
def ObjStep(F:Nat->Prop):Obj->Obj->Prop
 |.cells c e f,o'=>∃ c',o'=Obj.cells c' e f/\c'.size=c.size/\∀ j,F j->c'[j]? = c[j]?
 |o,o'=>o'=o
structure WStep (F:AQ) (w w':World):Prop where
 os:w'.os=w.os
 tape:w'.tape=w.tape
 output:w'.output=w.output
 size:w.heap.size<=w'.heap.size
 obj:∀ g o,w.heap[g]? = some o->∃ o',w'.heap[g]? = some o'/\ObjStep (F g) o o'
theorem ObjStep.refl(F:Nat->Prop):∀ o,ObjStep F o o
 |.cells c _ _=>⟨c,rfl,rfl,λ_ _=>rfl⟩
 |.pending ..=>rfl
 |.view ..=>rfl
 |.number ..=>rfl
 |.map ..=>rfl
 |.chan ..=>rfl
 |.stringIter ..=>rfl
 |.mapIter ..=>rfl
 |.loop ..=>rfl
 |.deferred ..=>rfl
 |.coro ..=>rfl
 |.finalizers ..=>rfl
theorem ObjStep.trans{F G:Nat->Prop}(hs:∀ j,F j->G j):∀{o o1 o2:Obj},ObjStep F o o1->ObjStep G o1 o2->ObjStep F o o2
 |.cells c e f,o1,o2,h,k=>by
  obtain⟨c1,rfl,h2,h3⟩:=h;obtain⟨c2,rfl,k2,k3⟩:=k;exact⟨c2,rfl,k2.trans h2,λj hj=>(k3 j (hs j hj)).trans (h3 j hj)⟩
 |.pending ..,_,_,h,k=>by subst h;exact k
 |.view ..,_,_,h,k=>by subst h;exact k
 |.number ..,_,_,h,k=>by subst h;exact k
 |.map ..,_,_,h,k=>by subst h;exact k
 |.chan ..,_,_,h,k=>by subst h;exact k
 |.stringIter ..,_,_,h,k=>by subst h;exact k
 |.mapIter ..,_,_,h,k=>by subst h;exact k
 |.loop ..,_,_,h,k=>by subst h;exact k
 |.deferred ..,_,_,h,k=>by subst h;exact k
 |.coro ..,_,_,h,k=>by subst h;exact k
 |.finalizers ..,_,_,h,k=>by subst h;exact k
theorem WStep.refl(F:AQ)(w:World):WStep F w w:=⟨rfl,rfl,rfl,η _,λ_ o h=>⟨o,h,ObjStep.refl _ o⟩⟩
theorem WStep.trans{F G:AQ}{w w1 w2:World}(hs:∀ g o,F g o->G g o)(h:WStep F w w1)(k:WStep G w1 w2):WStep F w w2:=by
 refine⟨k.os.trans h.os,k.tape.trans h.tape,k.output.trans h.output,Awe h.size k.size,λg o hg=>?_⟩;obtain⟨o1,h1,h2⟩:=h.obj g o hg;obtain⟨o2,k1,k2⟩:=k.obj g o1 h1;exact⟨o2,k1,h2.trans (hs g) k2⟩
theorem WStep.less{F G:AQ}{w w1:World}(hs:∀ g o,F g o->G g o)(h:WStep G w w1):WStep F w w1:=by
 have:=WStep.trans (F:=F) (G:=G) hs (WStep.refl F w) h;exact this
theorem WStep.cell{F:AQ}{w w':World}(h:WStep F w w'){g o:Nat}(hF:F g o)(hg:g<w.heap.size):w'.cell? ⟨g,o,none⟩=w.cell? ⟨g,o,none⟩:=by
 obtain⟨ob,hob⟩:∃ ob,w.heap[g]? = some ob:=⟨_,AvU hg⟩;obtain⟨ob',h1,h2⟩:=h.obj g ob hob;unfold World.cell?;simp only[hob,h1]
 cases ob<;>simp only[ObjStep]at h2
 case cells c e f=>
  obtain⟨c',rfl,_,h3⟩:=h2;simp[h3 o hF]
 all_goals (subst h2;rfl)
theorem WStep.frozen{F:AQ}{w w':World}(h:WStep F w w'){a:Addr}(hg:a.block<w.heap.size):w'.frozen? a=w.frozen? a:=by
 obtain⟨ob,hob⟩:∃ ob,w.heap[a.block]? = some ob:=⟨_,AvU hg⟩;obtain⟨ob',h1,h2⟩:=h.obj a.block ob hob;unfold World.frozen?;simp only[hob,h1]
 cases ob<;>simp only[ObjStep]at h2
 case cells c e f=>
  obtain⟨c',rfl,_,h3⟩:=h2;rfl
 all_goals (subst h2;rfl)
theorem WStep.some_cell{F:AQ}{w w':World}(h:WStep F w w'){g o:Nat}{u:Value}(hc:w.cell? ⟨g,o,none⟩=some u):∃ u',w'.cell? ⟨g,o,none⟩=some u':=by
 unfold World.cell? at hc ⊢
 cases ho:w.heap[g]? with
 |none=>simp[ho]at hc
 |some ob=>
  obtain⟨ob',h1,h2⟩:=h.obj g ob ho;simp only[ho]at hc;simp only[h1]
  cases ob<;>simp only[ObjStep]at h2<;>simp at hc
  case cells c e f=>
   obtain⟨c',rfl,hs,h3⟩:=h2;have:o<c.size:=(Awl.1 hc).1;exact⟨c'[o]'(by omega),by simp[hs,this]⟩
theorem WStep.below{F:AQ}{w w':World}{B:Nat}(h:WStep F w w')(hs:B<=w.heap.size)(hB:∀ g o,g<B->F g o):Below B w w':=by
 refine⟨h.os,h.tape,h.output,h.size,λk hk=>?_⟩
 cases ho:w.heap[k]? with
 |none=>
  have h1:w.heap.size<=k:=Array.getElem?_eq_none_iff.1 ho;omega
 |some ob=>
  obtain⟨ob',h1,h2⟩:=h.obj k ob ho;rw[h1]
  cases ob<;>simp only[ObjStep]at h2
  case cells c e f=>
   obtain⟨c',rfl,hs,h3⟩:=h2;have:c'=c:=Array.ext_getElem? λj=>h3 j (hB k j hk)
   rw[this]
  all_goals rw[h2]
structure AH where
 bs:List (Nat × ABlk)
 next:Nat
 top:Option Nat
def look(b:Nat):List (Nat × ABlk)->Option ABlk
 |[]=>none
 |(c,k)::r=>if c=b then some k else look b r
def Lc(b:Nat):List (Nat × ABlk)->List (Nat × ABlk)
 |[]=>[]
 |(c,k)::r=>if c=b then Lc b r else(c,k)::Lc b r
def AH.get(H:AH)(b:Nat):Option ABlk:=look b H.bs
theorem Tj(b c:Nat):∀ l,look c (Lc b l)=if c=b then none else look c l
 |[]=>by simp[look,Lc]
 |(d,k)::r=>by
  have ih:=Tj b c r;unfold Lc
  by_cases h:d=b
  .grind [look]
  .grind [look]
def AH.put(H:AH)(b:Nat)(k:ABlk):AH:={ H with bs:=(b,k)::Lc b H.bs }
def AH.del(H:AH)(b:Nat):AH:={ H with bs:=Lc b H.bs }
theorem AH.get_put(H:AH)(b c:Nat)(k:ABlk):(H.put b k).get c=if c=b then some k else H.get c:=by
 grind [AH.get,AH.put,look,Tj]
theorem AH.get_del(H:AH)(b c:Nat):(H.del b).get c=if c=b then none else H.get c:=by
 grind [AH.del,AH.get,Tj]
def AH.below(H:AH)(b:Nat):Prop:=∀ t,H.top=some t->b<t
def AH.wf(H:AH):Prop:=∀ b,H.next<=b->H.below b->H.get b=none
structure Foot where
 rd:Al
 wr:Al
def AM(α:Type):=AH->Option (α × AH × Foot)
namespace AM
variable {α β:Type}
def ret(a:α):AM α:=λH=>some (a,H,⟨[],[]⟩)
def fail:AM α:=λ_=>none
def bind(m:AM α)(f:α->AM β):AM β:=λH=>match m H with
 |none=>none
 |some (a,H1,f1)=>match f a H1 with
  |none=>none
  |some (b,H2,f2)=>some (b,H2,⟨f1.rd++f2.rd,f1.wr++f2.wr⟩)
def opt:Option α->AM α
 |some a=>ret a
 |none=>fail
def getB(b:Nat):AM ABlk:=λH=>match H.get b with
 |some k=>some (k,H,⟨[b],[]⟩)
 |none=>none
def setB(b:Nat)(k:ABlk):AM Unit:=λH=>match H.get b with
 |some _=>some ((),H.put b k,⟨[],[b]⟩)
 |none=>none
def delB(b:Nat):AM Unit:=λH=>match H.get b with
 |some _=>some ((),H.del b,⟨[],[b]⟩)
 |none=>none
def newB(k:ABlk):AM Nat:=λH=>match H.top with
 |none=>some (H.next,⟨(H.next,k)::H.bs,H.next+1,H.top⟩,⟨[],[H.next]⟩)
 |some t=>if H.next<t then some (H.next,⟨(H.next,k)::H.bs,H.next+1,H.top⟩,⟨[],[H.next]⟩) else none
end AM
theorem E1{k:ABlk}{H:AH}{r:Nat × AH × Foot}(h:AM.newB k H=some r):H.below H.next/\r=(H.next,⟨(H.next,k)::H.bs,H.next+1,H.top⟩,⟨[],[H.next]⟩):=by
 grind [AH.below,AM.newB]
theorem Ajm{k:ABlk}{H:AH}(h:H.below H.next):AM.newB k H=some (H.next,⟨(H.next,k)::H.bs,H.next+1,H.top⟩,⟨[],[H.next]⟩):=by
 unfold AM.newB
 cases ht:H.top with
 |none=>rfl
 |some t=>simp only;rw[Ac (h t ht)]
structure LocAt {α:Type} (m:AM α) (H:AH) (a:α) (H':AH) (ft:Foot):Prop where
 next:H.next<=H'.next
 top:H'.top=H.top
 fit:∀ b,b<H'.next->H.next<=b->H.below b
 wf:H'.wf
 new:∀ b,H.next<=b->b<H'.next->b∈ft.wr
 bound:∀ b,b∈ft.rd\/b∈ft.wr->H'.next<=b->¬ H.below b
 same:∀ b,b∉ft.wr->H'.get b=H.get b
 move:∀ K:AH,K.next=H.next->(∀ b,H.next<=b->b<H'.next->K.below b)->(∀ b,b∈ft.rd\/b∈ft.wr->(b<H.next\/H'.next<=b)->K.get b=H.get b)->
  ∃ K',m K=some (a,K',ft)/\K'.next=H'.next/\K'.top=K.top/\∀ b,K'.get b=if b∈ft.wr then H'.get b else K.get b
def Loc{α:Type}(m:AM α):Prop:=∀ H a H' ft,H.wf->m H=some (a,H',ft)->LocAt m H a H' ft
section
variable {α β:Type}
theorem Loc.ret(a:α):Loc (AM.ret a):=λH a' H' ft hw h=>by
 simp only[AM.ret,ξ,Prod.mk.injEq]at h;obtain⟨rfl,rfl,rfl⟩:=h;refine⟨η _,rfl,λb h1 h2=>by omega,hw,λb h1 h2=>by omega,λb hb=>by simp at hb,λ_ _=>rfl,λK hn _ _=>⟨K,rfl,hn,rfl,λb=>by simp⟩⟩
theorem Loc.fail:Loc (AM.fail:AM α):=λH a' H' ft _ h=>by simp[AM.fail]at h
theorem Loc.opt:∀ o:Option α,Loc (AM.opt o)
 |some a=>Loc.ret a
 |none=>Loc.fail
theorem Loc.bind{m:AM α}{f:α->AM β}(hm:Loc m)(hf:∀ a,Loc (f a)):Loc (m.bind f):=λH b H2 ft hw h=>by
 unfold AM.bind at h
 cases e1:m H with
 |none=>simp[e1]at h
 |some r1=>
  obtain⟨a,H1,f1⟩:=r1;simp only[e1]at h
  cases e2:f a H1 with
  |none=>simp[e2]at h
  |some r2=>
   obtain⟨b',H2',f2⟩:=r2;simp only[e2,ξ,Prod.mk.injEq]at h;obtain⟨rfl,rfl,rfl⟩:=h;have L1:=hm H a H1 f1 hw e1;have L2:=hf a H1 b' H2' f2 L1.wf e2;have hbel:∀ b,H1.below b ↔ H.below b:=λb=>by unfold AH.below;rw[L1.top]
   refine⟨Awe L1.next L2.next,L2.top.trans L1.top,λb h1 h2=>?_,L2.wf,λb h1 h2=>?_,λb hb hn=>?_,λb hb=>?_,λK hn hfit hag=>?_⟩
   .rcases Av3 b H1.next with h3|h3
    .exact L1.fit b h3 h2
    .exact(hbel b).1 (L2.fit b h1 h3)
   .simp only[Awg]
    rcases Av3 b H1.next with h3|h3
    .exact .inl (L1.new b h1 h3)
    .exact .inr (L2.new b h3 h2)
   .simp only[Awg]at hb
    have:(b∈f1.rd\/b∈f1.wr)\/(b∈f2.rd\/b∈f2.wr):=by rcases hb with (h|h) | (h|h)<;>simp[h]
    rcases this with h|h
    .exact L1.bound b h (Awe L2.next hn)
    .rw[←hbel];exact L2.bound b h hn
   .simp only[Awg,not_or]at hb
    rw[L2.same b hb.2,L1.same b hb.1]
   .have hL:=L1.next
    have hR:=L2.next;obtain⟨K1,k1,k2,k3,k4⟩:=L1.move K hn (λb h1 h2=>hfit b h1 (by omega)) (λb hb hr=>by
     refine hag b (by simp only[Awg];rcases hb with h|h<;>simp[h]) ?_;rcases hr with h|h
     .exact .inl h
     .rcases Av3 b H2'.next with h3|h3
      .exact absurd (L2.fit b h3 h) (by rw[hbel];exact L1.bound b hb h)
      .exact .inr h3)
    obtain⟨K2,j1,j2,j3,j4⟩:=L2.move K1 k2 (λb h1 h2=>by unfold AH.below;rw[k3];exact hfit b (by omega) h2) (λb hb hr=>by
     rw[k4]
     by_cases hw1:b∈f1.wr
     .rw[Ac hw1]
     .rw[Ad hw1,L1.same b hw1]
      refine hag b (by simp only[Awg];rcases hb with h|h<;>simp[h]) ?_;rcases hr with h|h
      .rcases Av3 b H.next with h3|h3
       .exact .inl h3
       .exact absurd (L1.new b h3 h) hw1
      .exact .inr h)
    refine⟨K2,?_,j2,j3.trans k3,λb=>?_⟩
    .grind [AM.bind]
    .rw[j4,k4]
     simp only[Awg]
     by_cases h2:b∈f2.wr
     .simp[h2]
     .by_cases h1:b∈f1.wr
      .simp[h1,h2,L2.same b h2]
      .simp[h1,h2]
theorem Loc.getB(b:Nat):Loc (AM.getB b):=λH a H' ft hw h=>by
 unfold AM.getB at h
 cases e:H.get b with
 |none=>simp[e]at h
 |some k=>
  simp only[e,ξ,Prod.mk.injEq]at h;obtain⟨rfl,rfl,rfl⟩:=h;refine⟨η _,rfl,λb h1 h2=>by omega,hw,λb h1 h2=>by omega,λc hb hn hbl=>?_,λ_ _=>rfl,λK hn _ hag=>⟨K,?_,hn,rfl,λb=>by simp⟩⟩
  .simp at hb
   subst hb;rw[hw c hn hbl]at e
   cases e
  .grind [AM.getB]
theorem Loc.setB(b:Nat)(k:ABlk):Loc (AM.setB b k):=λH a H' ft hw h=>by
 unfold AM.setB at h
 cases e:H.get b with
 |none=>simp[e]at h
 |some k0=>
  simp only[e,ξ,Prod.mk.injEq]at h;obtain⟨_,rfl,rfl⟩:=h;have hb:H.next<=b->H.below b->False:=λh1 h2=>by rw[hw b h1 h2]at e;cases e
  refine⟨η _,rfl,λb h1 h2=>by have:(H.put b k).next=H.next:=rfl;have:b<H.next:=h1;omega,λc h1 h2=>?_,λc h1 h2=>?_,λc hc hn hbl=>?_,λc hc=>?_,λK hn _ hag=>⟨K.put b k,?_,hn,rfl,λc=>?_⟩⟩
  .rw[AH.get_put]
   by_cases hcb:c=b
   .subst hcb;exact absurd h2 (λh=>hb h1 h)
   .rw[Ad hcb];exact hw c h1 h2
  .have:c<H.next:=h2
   omega
  .simp at hc;subst hc;exact hb hn hbl
  .simp_all [AH.get_put,Ad]
  .unfold AM.setB
   have:K.get b=some k0:=by
    rw[hag b (by simp) (by have:(H.put b k).next=H.next:=rfl;omega)];exact e
   rw[this]
  .grind [AH.get_put]
theorem Loc.delB(b:Nat):Loc (AM.delB b):=λH a H' ft hw h=>by
 unfold AM.delB at h
 cases e:H.get b with
 |none=>simp[e]at h
 |some k0=>
  simp only[e,ξ,Prod.mk.injEq]at h;obtain⟨_,rfl,rfl⟩:=h;have hb:H.next<=b->H.below b->False:=λh1 h2=>by rw[hw b h1 h2]at e;cases e
  refine⟨η _,rfl,λb h1 h2=>by have:b<H.next:=h1;omega,λc h1 h2=>?_,λc h1 h2=>?_,λc hc hn hbl=>?_,λc hc=>?_,λK hn _ hag=>⟨K.del b,?_,hn,rfl,λc=>?_⟩⟩
  .rw[AH.get_del]
   by_cases hcb:c=b
   .rw[Ac hcb]
   .rw[Ad hcb];exact hw c h1 h2
  .have:c<H.next:=h2
   omega
  .simp at hc;subst hc;exact hb hn hbl
  .simp_all [AH.get_del,Ad]
  .unfold AM.delB
   have:K.get b=some k0:=by
    rw[hag b (by simp) (by have:(H.del b).next=H.next:=rfl;omega)];exact e
   rw[this]
  .grind [AH.get_del]
theorem EX(c:Nat)(k:ABlk)(H:AH)(n:Nat)(t:Option Nat)(b:Nat):AH.get ⟨(c,k)::H.bs,n,t⟩ b=if b=c then some k else H.get b:=by
 grind [AH.get,look]
theorem Loc.newB(k:ABlk):Loc (AM.newB k):=λH a H' ft hw h=>by
 obtain⟨hb,hr⟩:=E1 h;simp only[Prod.mk.injEq]at hr;obtain⟨rfl,rfl,rfl⟩:=hr;refine⟨Nat.le_succ _,rfl,λb h1 h2=>?_,λc h1 h2=>?_,λc h1 h2=>?_,λc hc hn=>?_,λc hc=>?_,λK hn hfit hag=>?_⟩
 .grind
 .have h1':H.next+1<=c:=h1
  rw[EX,Ad (by omega)];exact hw c (by omega) h2
 .grind
 .grind
 .simp_all [EX,Ad]
 .simp_all [η,Nat.lt_succ_self,EX,Ajm]
theorem Loc.ite{c:Prop}[Decidable c]{m m':AM α}(h:Loc m)(h':Loc m'):Loc (if c then m else m'):=by
 split
 .exact h
 .exact h'
end
def AD{α:Type}(P:Program):Sem α->Option α
 |.pure a=>some a
 |.program k=>AD P (k P)
 |_=>none
theorem Jf{α:Type}{P:Program}:∀(s:Sem α) {a:α},AD P s=some a->∀ w,s.run P w=.ok a w
 |.pure a,_,h,w=>by simp only[AD,ξ]at h;subst h;rfl
 |.program k,_,h,w=>by simp only[AD]at h;exact Jf (k P) h w
 |.load ..,_,h,_=>by simp[AD]at h
 |.store ..,_,h,_=>by simp[AD]at h
 |.new ..,_,h,_=>by simp[AD]at h
 |.shape ..,_,h,_=>by simp[AD]at h
 |.freeze ..,_,h,_=>by simp[AD]at h
 |.frozen ..,_,h,_=>by simp[AD]at h
 |.getObj ..,_,h,_=>by simp[AD]at h
 |.setObj ..,_,h,_=>by simp[AD]at h
 |.choose ..,_,h,_=>by simp[AD]at h
 |.sys ..,_,h,_=>by simp[AD]at h
 |.mark ..,_,h,_=>by simp[AD]at h
 |.halt ..,_,h,_=>by simp[AD]at h
def AV.undef:AV:=.v Go.undef
def E3:Value->AV
 |.agg cs=>if cs.toList.all NB=true then .agg (cs.toList.map .v) else .any
 |x=>.v x
def AV.val:AV->Option Value
 |.v x=>some x
 |_=>none
def IJ:Ab->Option (AN)
 |[]=>some []
 |.v x::r=>match IJ r with
  |some l=>some (x::l)
  |none=>none
 |_::_=>none
def AV.toVal:AV->Option Value
 |.v x=>some x
 |.agg cs=>match IJ cs with
  |some l=>some (.agg l.toArray)
  |none=>none
 |_=>none
def AV.cells:AV->Ab
 |.agg cs=>cs
 |x=>[x]
def AV.one:AV->Bool
 |.agg _=>false
 |.tup _=>false
 |.any=>false
 |.v x=>x.oneCell'
 |_=>true
def IA:AV->Bool
 |.tup _=>true
 |.any=>true
 |_=>false
def Bv(l:Ab)(o:Nat)(xs:Ab):Ab:=l.take o++xs++l.drop (o+xs.length)
section
variable (P:Program)
def DS(t:TypeId):Option Nat:=(P.info? t).map (·.size)
def Ae7(d:TypeDesc):Bool:=match d with
 |.struct _=>true
 |.array _ _=>true
 |_=>false
def Cn(t:TypeId):Option Bool:=(P.underlying t).map Ae7
def C0(t:TypeId):Option Value:=match P.info? t with
 |some i=>(match i.zero with
  |some z=>if z.cells.toList.all NB=true then some z else none
  |none=>none)
 |none=>none
def rdAt(a:AV)(n:Nat):AM Ab:=match a with
 |.ptr b o=>(AM.getB b).bind λk=>if o+n<=k.cells.length then AM.ret ((k.cells.drop o).take n) else AM.fail
 |.lp cs=>if n<=cs.length then AM.ret (cs.take n) else AM.fail
 |_=>AM.fail
def Ye:Ab->Option AV
 |[x]=>some x
 |_=>none
def loadA(t:TypeId)(a:AV):AM AV:=match Cn P t,DS P t with
 |some true,some n=>(rdAt a n).bind λcs=>AM.ret (.agg cs)
 |some false,_=>(rdAt a 1).bind λcs=>AM.opt (Ye cs)
 |_,_=>AM.fail
def storeA(t:TypeId)(a x:AV):AM AV:=match a,DS P t with
 |.ptr b o,some n=>
  if x.cells.length=n/\x.cells.all AV.one=true then
   (AM.getB b).bind λk=>if k.st=true/\o+n<=k.cells.length/\(!k.ex||A6 x.cells)=true then(AM.setB b { k with cells:=Bv k.cells o x.cells }).bind λ_=>AM.ret AV.undef else AM.fail
  else AM.fail
 |_,_=>AM.fail
def allocA(t:TypeId):AM AV:=match C0 P t with
 |some z=>(AM.newB ⟨z.cells.toList.map .v,true,false⟩).bind λb=>AM.ret (.ptr b 0)
 |none=>AM.fail
def boxA(x:AV):AM AV:=if IA x=true then AM.fail else(AM.newB ⟨x.cells,true,false⟩).bind λb=>AM.ret (.ptr b 0)
def Lu(x:AV)(i:Nat):Option AV:=match x with
 |.tup vs=>vs[i]?
 |_=>none
def RZ(t:TypeId)(cs:Ab)(off:Nat):Option AV:=match Cn P t,DS P t with
 |some true,some n=>some (.agg ((cs.drop off).take n))
 |some false,_=>cs[off]?
 |_,_=>none
def CP(t:TypeId):Option (Array Field):=match P.underlying t with
 |some (.struct fs)=>some fs
 |_=>none
def Cs(t:TypeId):Option TypeId:=match P.underlying t with
 |some (.slice e)=>some e
 |_=>none
def O7(t:TypeId)(x:AV)(f:Nat):Option AV:=match x,CP P t with
 |.agg cs,some fs=>match fs[f]? with
  |some fd=>RZ P fd.type cs fd.offset
  |none=>none
 |_,_=>none
def PF(a:AV)(n:Nat):Option AV:=match a with
 |.ptr b o=>some (.ptr b (o+n))
 |.lp cs=>some (.lp (cs.drop n))
 |_=>none
def HY(t:TypeId)(a:AV)(f:Nat):Option AV:=match CP P t with
 |some fs=>match fs[f]? with
  |some fd=>match DS P fd.type with
   |some (_+1)=>PF a fd.offset
   |_=>none
  |none=>none
 |none=>none
def AV.idx:AV->Option Nat
 |.v (.int _ (.ofNat i))=>some i
 |_=>none
def DY(t:TypeId)(x ix:AV):Option AV:=match x,ix.idx,Cs P t with
 |.sl b o n e,some i,some et=>if i<n/\DS P et=some e then some (.ptr b (o+i*e)) else none
 |.ls xs,some i,some et=>match xs[i]? with
  |some cs=>if DS P et=some cs.length then some (.lp cs) else none
  |none=>none
 |_,_,_=>none
def EL(n:Nat):Option AV->Option Nat
 |some x=>x.idx
 |none=>some n
def K6(t:TypeId)(x:AV)(lo hi:Option AV):Option AV:=match x,Cs P t with
 |.sl b o n e,some et=>match EL 0 lo,EL n hi with
  |some l,some h=>if l<=h/\h<=n/\DS P et=some e then some (.sl b (o+l*e) (h-l) e) else none
  |_,_=>none
 |.ls xs,some et=>match EL 0 lo,EL xs.length hi with
  |some l,some h=>if l<=h/\h<=xs.length/\(DS P et).isSome=true/\(xs.all λcs=>DS P et == some cs.length)=true then some (.ls ((xs.take h).drop l)) else none
  |_,_=>none
 |_,_=>none
def AgR(off:Nat)(cells:Ab)(vs:Ab):Ab:=vs.zipIdx.foldl (λcs p=>cs.set (off+p.2) p.1) cells
def FQ(place:Nat->Option (Nat × Nat))(cells:Ab):List (Nat × AV)->Option Ab
 |[]=>some cells
 |(i,v)::rest=>match place i with
  |none=>none
  |some (off,size)=>if v.cells.length≠size\/off+v.cells.length > cells.length then none else FQ place (AgR off cells v.cells) rest
def JF(fs:List Field):Option (List (Nat × Nat)):=fs.mapM (λf=>(P.info? f.type).map λi=>(f.offset,i.size))
def Om(t:TypeId)(ps:List (Nat × AV)):Option AV:=match C0 P t,CP P t with
 |some z,some fs=>match JF P fs.toList with
  |some pl=>if ps.any (λp=>IA p.2) then none else(FQ (pl[·]?) (z.cells.toList.map .v) ps).map .agg
  |none=>none
 |_,_=>none
def OO(t:TypeId):Option TypeId:=match P.underlying t with
 |some (.array _ e)=>some e
 |_=>none
def Ol(t:TypeId)(ps:List (Nat × AV)):Option AV:=match C0 P t,OO P t with
 |some z,some et=>match DS P et with
  |some e=>if ps.any (λp=>IA p.2) then none else(FQ (λi=>some (i*e,e)) (z.cells.toList.map .v) ps).map .agg
  |none=>none
 |_,_=>none
def Kw(t:TypeId)(ps:List (Nat × AV)):Option AV:=match CP P t with
 |some _=>Om P t ps
 |none=>Ol P t ps
def Cr(z:Ab)(n:Nat):Ab:=(List.range n).map λi=>(z[i % z.length]?).getD (.v default)
def buildSliceA(t:TypeId)(n:Nat)(ps:List (Nat × AV)):AM AV:=match Cs P t with
 |some et=>match DS P et,C0 P et with
  |some e,some z=>
   if n*e<=16777216/\n<=maxLen/\ps.any (λp=>IA p.2)=false then
    match FQ (λi=>some (i*e,e)) (Cr (z.cells.toList.map .v) (n*e)) ps with
    |some cs=>if A6 cs=true then(AM.newB ⟨cs,true,true⟩).bind λb=>AM.ret (.sl b 0 n e) else(AM.newB ⟨cs,true,false⟩).bind λb=>AM.ret (.sl b 0 n e)
    |none=>AM.fail
   else AM.fail
  |_,_=>AM.fail
 |none=>AM.fail
def AiF(x:AV):Option AV:=match x with
 |.sl _ _ n _=>some (.v (.int .i64 n))
 |.ls xs=>some (.v (.int .i64 xs.length))
 |_=>none
end
theorem Rep.one{μ:Mu}{F:AQ}{w:World}:∀{x:AV} {u:Value},Rep μ F w x u->x.one=true->u.oneCell'=true
 |.v y,u,h,h1=>by simp only[Rep]at h;rw[h.1];exact h1
 |.ptr b o,u,h,_=>by simp only[Rep]at h;obtain⟨p,_,rfl⟩:=h;rfl
 |.sl b o n e,u,h,_=>by
  simp only[Rep]at h;obtain⟨p,_,⟨_,rfl⟩|⟨q,c,rfl,_⟩⟩:=h
  .rfl
  .rfl
 |.ls xs,u,h,_=>by simp only[Rep]at h;obtain⟨_,A,c,rfl,_⟩:=h;rfl
 |.lp cs,u,h,_=>by simp only[Rep]at h;obtain⟨_,g,o,rfl,_⟩:=h;rfl
 |.agg cs,u,_,h1=>by simp[AV.one]at h1
 |.tup cs,u,_,h1=>by simp[AV.one]at h1
 |.any,u,_,h1=>by simp[AV.one]at h1
 |.fn f a c,u,h,_=>by simp only[Rep]at h;obtain⟨ua,uc,rfl,_⟩:=h;rfl
theorem Rep.cells{μ:Mu}{F:AQ}{w:World}:∀{x:AV} {u:Value},Rep μ F w x u->IA x=false->RepList μ F w x.cells u.cells.toList
 |.v y,u,h,_=>by
  have h':=h;simp only[Rep]at h;obtain⟨rfl,hf⟩:=h
  cases u<;>simp only[NB,Awi]at hf<;>exact RepList.mk rfl λi x hx=>by
   cases i with
   |zero=>simp[AV.cells]at hx;subst hx;exact⟨_,rfl,h'⟩
   |succ i=>simp[AV.cells]at hx
 |.ptr b o,u,h,_=>by
  have h':=h;simp only[Rep]at h;obtain⟨p,_,rfl⟩:=h;exact RepList.mk rfl λi x hx=>by
   cases i with
   |zero=>simp[AV.cells]at hx;subst hx;exact⟨_,rfl,h'⟩
   |succ i=>simp[AV.cells]at hx
 |.sl b o n e,u,h,_=>by
  have h':=h;simp only[Rep]at h;obtain⟨p,_,⟨_,rfl⟩|⟨q,c,rfl,_⟩⟩:=h
  .exact RepList.mk rfl λi x hx=>by
    cases i with
    |zero=>simp[AV.cells]at hx;subst hx;exact⟨_,rfl,h'⟩
    |succ i=>simp[AV.cells]at hx
  .exact RepList.mk rfl λi x hx=>by
    cases i with
    |zero=>simp[AV.cells]at hx;subst hx;exact⟨_,rfl,h'⟩
    |succ i=>simp[AV.cells]at hx
 |.ls xs,u,h,_=>by
  have h':=h;simp only[Rep]at h;obtain⟨_,A,c,rfl,_⟩:=h;exact RepList.mk rfl λi x hx=>by
   cases i with
   |zero=>simp[AV.cells]at hx;subst hx;exact⟨_,rfl,h'⟩
   |succ i=>simp[AV.cells]at hx
 |.lp cs,u,h,_=>by
  have h':=h;simp only[Rep]at h;obtain⟨_,g,o,rfl,_⟩:=h;exact RepList.mk rfl λi x hx=>by
   cases i with
   |zero=>simp[AV.cells]at hx;subst hx;exact⟨_,rfl,h'⟩
   |succ i=>simp[AV.cells]at hx
 |.agg cs,u,h,_=>by
  simp only[Rep]at h;obtain⟨us,rfl,h2⟩:=h;exact h2
 |.tup cs,u,_,h1=>by simp[IA]at h1
 |.any,u,_,h1=>by simp[IA]at h1
 |.fn f a c,u,h,_=>by
  have h':=h;simp only[Rep]at h;obtain⟨ua,uc,rfl,_⟩:=h;exact RepList.mk rfl λi x hx=>by
   cases i with
   |zero=>simp[AV.cells]at hx;subst hx;exact⟨_,rfl,h'⟩
   |succ i=>simp[AV.cells]at hx
section
variable {μ μ':Mu} {F F':AQ} {w w':World} {p:Pl} {k:ABlk}
theorem BRep.lt(h:BRep μ F w p k){i:Nat}(hi:i<p.room):p.g<w.heap.size:=by
 obtain⟨⟨u,hu⟩,_⟩:=h.there i hi;rcases Av3 p.g w.heap.size with h|h
 .exact h
 .simp[World.cell?,AwF h]at hu
theorem BRep.step(h:BRep μ F w p k)(hl:Later μ μ' F F' w w')(hs:WStep F w w')
  (hc:∀ i,i<k.cells.length->¬ F p.g (p.o+i)->w'.cell? ⟨p.g,p.o+i,none⟩=w.cell? ⟨p.g,p.o+i,none⟩)
  (hf:∀ i,k.owns p.room i->¬ F' p.g (p.o+i)):BRep μ' F' w' p k:=by
 refine⟨λi x hx=>?_,h.room,λi hi=>?_,λhst i hi=>(hl.prot _ _ (h.kept hst i hi)).1,hf,h.pure⟩
 .obtain⟨u,h1,h2⟩:=h.cell i x hx
  have hi:i<k.cells.length:=(Av9.1 hx).1;refine⟨u,?_,Rep.later hl x u h2⟩
  by_cases hF:F p.g (p.o+i)
  .rw[(hl.prot _ _ hF).2];exact h1
  .rw[hc i hi hF];exact h1
 .obtain⟨⟨u,hu⟩,h2⟩:=h.there i hi
  exact⟨hs.some_cell hu,by rw[hs.frozen (h.lt hi)];exact h2⟩
theorem DW{g o:Nat}{u:Value}(h:w.cell? ⟨g,o,none⟩=some u):g<w.heap.size:=by
 rcases Av3 g w.heap.size with h' | h'
 .exact h'
 .simp[World.cell?,AwF h']at h
theorem WStep.alloc(F:AQ)(w:World)(o:Obj):WStep F w (w.alloc o):=by
 refine⟨rfl,rfl,rfl,by rw[World.size_alloc];omega,λg ob hg=>⟨ob,?_,ObjStep.refl _ _⟩⟩;have hlt:g<w.heap.size:=(Awl.1 hg).1;rw[Below.heap_alloc w o g hlt];exact hg
theorem OM(w:World)(o:Obj){g i:Nat}(h:g<w.heap.size):(w.alloc o).cell? ⟨g,i,none⟩=w.cell? ⟨g,i,none⟩:=by
 unfold World.cell?;rw[Below.heap_alloc w o g h]
theorem VF(w:World)(cs:Array Value)(t:TypeId)(fr:Nat × Nat)(i:Nat):(w.alloc (.cells cs t fr)).cell? ⟨w.heap.size,i,none⟩=cs[i]?:=by
 unfold World.cell?;rw[heap_alloc_new];simp
def Mu.set(μ:Mu)(b:Nat)(p:Pl):Mu:=λc=>if c=b then some p else μ c
theorem Vk{H:Nat->Option ABlk}(h:HRep μ F w H){b:Nat}(hb:μ b=none)(cells:Ab)(arr:Array Value)(t:TypeId)(fr:Nat × Nat)(ex:Bool)(hfr:arr.size<=fr.1\/fr.2=0)
  (hlen:cells.length<=arr.size) (hc:RepList μ F w cells (arr.toList.take cells.length)) (hpu:ex=true->A6 cells=true) :
  HRep (μ.set b ⟨w.heap.size,0,arr.size⟩) F (w.alloc (.cells arr t fr)) (λc=>if c=b then some ⟨cells,true,ex⟩ else H c)/\Later μ (μ.set b ⟨w.heap.size,0,arr.size⟩) F F w (w.alloc (.cells arr t fr)):=by
 have hH:H b=none:=by
  cases e:H b with
  |none=>rfl
  |some k=>obtain⟨p,hp,_⟩:=h.blk b k e;rw[hb]at hp;cases hp
 have hl:Later μ (μ.set b ⟨w.heap.size,0,arr.size⟩) F F w (w.alloc (.cells arr t fr)):=by
  refine⟨λc p hp=>?_,λg o hF=>⟨hF,OM _ _ (h.prot g o hF)⟩⟩;unfold Mu.set
  by_cases e:c=b
  .grind
  .rw[Ad e];exact hp
 have hnew:∀ i,¬ F w.heap.size i:=λi hF=>by have:=h.prot _ _ hF;omega
 refine⟨⟨λc k hk=>?_,λc c' k k' p p' hne hk hk' hp hp' i i' ho ho'=>?_,λg o hF=>?_⟩,hl⟩
 .by_cases e:c=b
  .subst e
   rw[Ac rfl]at hk;simp only[ξ]at hk;subst hk;refine⟨⟨w.heap.size,0,arr.size⟩,by simp[Mu.set],⟨λi x hx=>?_,hlen,λi hi=>⟨?_,?_⟩,λhst=>(by simp at hst),λi _=>(by simpa using hnew i),hpu⟩⟩
   .obtain⟨u,h1,h2⟩:=hc.get hx
    have hi:i<cells.length:=(Av9.1 hx).1;refine⟨u,?_,Rep.later hl x u h2⟩;simp only[AvW];rw[VF];rw[List.getElem?_take_of_lt hi]at h1;simpa using h1
   .simp_all [AvW,VF]
   .unfold World.frozen?
    simp only[AvW];rw[heap_alloc_new];simp only[Bool.and_eq_false_iff,decide_eq_false_iff_not];have hi':i<arr.size:=hi;omega
  .rw[Ad e]at hk
   obtain⟨p,hp,hB⟩:=h.blk c k hk;refine⟨p,hl.mu _ _ hp,hB.step hl (WStep.alloc _ _ _) (λi hi _=>?_) hB.free⟩;exact OM _ _ (hB.lt (Awp hi hB.room))
 .have key:∀{c:Nat} {k:ABlk} {p:Pl},c≠b->(if c=b then some (⟨cells,true,ex⟩:ABlk) else H c)=some k->(μ.set b ⟨w.heap.size,0,arr.size⟩) c=some p->H c=some k/\μ c=some p:=by
   grind [Mu.set]
  have kb:∀{k:ABlk} {p:Pl},(μ.set b ⟨w.heap.size,0,arr.size⟩) b=some p->p=⟨w.heap.size,0,arr.size⟩:=by
   intro k p h2;unfold Mu.set at h2;rw[Ac rfl]at h2;exact(Option.some.inj h2).symm
  have low:∀{c:Nat} {k:ABlk} {p:Pl} {i:Nat},H c=some k->μ c=some p->k.owns p.room i->p.g<w.heap.size:=by
   intro c k p i h1 h2 ho;obtain⟨q,hq,hB⟩:=h.blk c k h1;rw[h2]at hq
   cases hq
   refine hB.lt (i:=i) ?_;rcases ho with⟨h,_⟩|⟨_,h,_⟩
   .exact Awp h hB.room
   .exact h
  by_cases e:c=b
  .subst e
   have:=kb (k:=k) hp;subst this;obtain⟨k1,k2⟩:=key (λe=>hne e.symm) hk' hp';have:=low k1 k2 ho';intro he;simp only[Prod.mk.injEq]at he;omega
  .obtain⟨k1,k2⟩:=key e hk hp
   by_cases e':c'=b
   .subst e'
    have:=kb (k:=k') hp';subst this;have:=low k1 k2 ho;intro he;simp only[Prod.mk.injEq]at he;omega
   .obtain⟨j1,j2⟩:=key e' hk' hp'
    exact h.apart c c' k k' p p' hne k1 j1 k2 j2 i i' ho ho'
 .have:=h.prot g o hF
  rw[World.size_alloc];omega
theorem Yy(l:Ab)(o:Nat)(xs:Ab)(h:o+xs.length<=l.length)(i:Nat):(Bv l o xs)[i]? = if o<=i/\i<o+xs.length then xs[i-o]? else l[i]?:=by
 unfold Bv;rw[List.append_assoc]
 by_cases h1:i<o
 .grind
 .grind
theorem GS(l:Ab)(o:Nat)(xs:Ab)(h:o+xs.length<=l.length):(Bv l o xs).length=l.length:=by
 unfold Bv;simp;omega
theorem TO(g:Nat)(vs:AN):∀(o:Nat) (w:World) (k:Nat) (ob:Obj),w.heap[k]? = some ob->∃ ob',(w.setCells g o vs).heap[k]? = some ob'/\ObjStep (λj=>k=g->j<o\/o+vs.length<=j) ob ob':=by
 induction vs with
 |nil=>exact λo w k ob h=>⟨ob,h,ObjStep.refl _ _⟩
 |cons v r ih=>
  intro o w k ob h;have h1:∃ ob1,(w.setCell ⟨g,o,none⟩ v).heap[k]? = some ob1/\ObjStep (λj=>k=g->j<o\/o+(v::r).length<=j) ob ob1:=by
   by_cases e:k=g
   .subst e
    have hk:(w.setCell ⟨k,o,none⟩ v).heap[k]? = some (match ob with | .cells c e f=>.cells (c.setIfInBounds o v) e f|x=>x):=by
     simp only[World.setCell,Array.getElem?_modify,if_true,h,AvP]
     cases ob<;>simp
    refine⟨_,hk,?_⟩
    cases ob<;>simp only[ObjStep]
    case cells c e f=>
     refine⟨_,rfl,by simp,λj hj=>?_⟩;have:=hj trivial;simp only[ε]at this;rw[Array.getElem?_setIfInBounds,Ad (by omega)]
   .grind [Below.heap_setCell,ObjStep.refl]
  obtain⟨ob1,k1,k2⟩:=h1;obtain⟨ob2,j1,j2⟩:=ih (o+1) (w.setCell ⟨g,o,none⟩ v) k ob1 k1;refine⟨ob2,j1,k2.trans (λj hj he=>?_) j2⟩;have:=hj he;simp only[ε]at this;omega
theorem ET(g:Nat):∀(vs:AN) (o:Nat) (w:World),(w.setCells g o vs).heap.size=w.heap.size
 |[],_,_=>rfl
 |v::r,o,w=>by rw[World.setCells,ET g r];simp[World.setCell]
theorem J6(g:Nat):∀(vs:AN) (o:Nat) (w:World),(w.setCells g o vs).os=w.os/\(w.setCells g o vs).tape=w.tape/\(w.setCells g o vs).output=w.output
 |[],_,_=>⟨rfl,rfl,rfl⟩
 |v::r,o,w=>by rw[World.setCells];exact J6 g r _ _
theorem WStep.setCells{w:World}{g o:Nat}{vs:AN}(hF:∀ j,j<vs.length->¬ F g (o+j)):WStep F w (w.setCells g o vs):=by
 obtain⟨h1,h2,h3⟩:=J6 g vs o w;refine⟨h1,h2,h3,by rw[ET];exact η _,λk ob hk=>?_⟩;obtain⟨ob',k1,k2⟩:=TO g vs o w k ob hk;refine⟨ob',k1,?_⟩;have:=ObjStep.trans (F:=F k) (λj (hj:F k j)=>(λ(he:k=g)=>by
  subst he;rcases Av3 j o with h|h
  .exact .inl h
  .rcases Av3 j (o+vs.length) with h' | h'
   .exact absurd hj (by have:=hF (j-o) (by omega);rwa [show o+(j-o)=j by omega]at this)
   .exact .inr h':k=g->j<o\/o+vs.length<=j)) (ObjStep.refl (F k) ob) k2
 exact this
theorem Ts{l xs:Ab}(h1:A6 l=true)(h2:A6 xs=true)(o:Nat):A6 (Bv l o xs)=true:=by
 rw[BN]at *;simp only[AvJ]at *;intro x hx;unfold Bv at hx;simp only[Awg]at hx;rcases hx with (hx|hx) | hx
 .exact h1 x (AwZ hx)
 .exact h2 x hx
 .exact h1 x (AwE hx)
theorem Po{H:Nat->Option ABlk}(h:HRep μ F w H){b:Nat}{k:ABlk}{p:Pl}(hk:H b=some k)(hp:μ b=some p)(hst:k.st=true)(o:Nat)(xs:Ab)(us:AN)
  (hlen:o+xs.length<=k.cells.length) (hr:RepList μ F w xs us) (hpu:k.ex=true->A6 xs=true) :
  HRep μ F (w.setCells p.g (p.o+o) us) (λc=>if c=b then some { k with cells:=Bv k.cells o xs } else H c)/\Later μ μ F F w (w.setCells p.g (p.o+o) us)/\WStep F w (w.setCells p.g (p.o+o) us):=by
 have hul:=hr.length;obtain⟨p',hp',hB⟩:=h.blk b k hk;rw[hp]at hp'
 cases hp'
 have hown:∀ j,j<us.length->k.owns p.room (o+j):=λj hj=>.inl ⟨by omega,hst⟩
 have hnF:∀ j,j<us.length->¬ F p.g (p.o+o+j):=λj hj=>by rw[AvQ];exact hB.free _ (hown j hj)
 have hs:WStep F w (w.setCells p.g (p.o+o) us):=WStep.setCells hnF;have hl:Later μ μ F F w (w.setCells p.g (p.o+o) us):=⟨λ_ _ h=>h,λg i hF=>⟨hF,by
  refine World.cell?_setCells_out p.g us (p.o+o) w ⟨g,i,none⟩ λe _=>?_
  simp only at e;subst e;rcases Av3 i (p.o+o) with h|h
  .exact .inl h
  .rcases Av3 i (p.o+o+us.length) with h' | h'
   .exact absurd hF (by have:=hnF (i-(p.o+o)) (by omega);rwa [show p.o+o+(i-(p.o+o))=i by omega]at this)
   .exact .inr h'⟩⟩
 refine⟨⟨λc k' hk'=>?_,λc c' k1 k2 p1 p2 hne h1 h2 q1 q2 i i' o1 o2=>?_,λg i hF=>?_⟩,hl,hs⟩
 .by_cases e:c=b
  .subst e
   rw[Ac rfl]at hk';simp only[ξ]at hk';subst hk';refine⟨p,hp,⟨λi x hx=>?_,?_,λi hi=>?_,λhf=>?_,λi hi=>?_,λhx=>Ts (hB.pure hx) (hpu hx) o⟩⟩
   .simp only at hx
    rw[Yy _ _ _ hlen]at hx;split at hx
    .rename_i hi
     obtain⟨u,h1,h2⟩:=hr.get hx;refine⟨u,?_,Rep.later hl x u h2⟩;have hj:i-o<us.length:=by omega
     have:=World.cell?_setCells_in p.g us (p.o+o) w (λj hj=>by
      obtain⟨⟨v,hv⟩,_⟩:=hB.there (o+j) (by have:=hB.room;omega);rw[←AvQ]at hv;rw[hv];rfl) (i-o) hj
     rw[show p.o+o+(i-o)=p.o+i by omega]at this;rw[this];rw[Ω hj]at h1;exact h1
    .rename_i hi
     obtain⟨u,h1,h2⟩:=hB.cell i x hx;refine⟨u,?_,Rep.later hl x u h2⟩;rw[World.cell?_setCells_out p.g us (p.o+o) w ⟨p.g,p.o+i,none⟩ λ_ _=>by simp only;omega];exact h1
   .simp only
    rw[GS _ _ _ hlen];exact hB.room
   .obtain⟨⟨u,hu⟩,h2⟩:=hB.there i hi
    exact⟨hs.some_cell hu,by rw[World.frozen?_setCells];exact h2⟩
   .grind
   .refine hB.free i ?_
    unfold ABlk.owns at hi ⊢;simp only[GS _ _ _ hlen]at hi;exact hi
  .rw[Ad e]at hk'
   obtain⟨p',hp',hB'⟩:=h.blk c k' hk';refine⟨p',hp',hB'.step hl hs (λi hi hF=>?_) hB'.free⟩;have ho':k'.owns p'.room i:=by
    cases hst':k'.st with
    |true=>exact .inl ⟨hi,hst'⟩
    |false=>exact absurd (hB'.kept hst' i hi) hF
   refine World.cell?_setCells_out p.g us (p.o+o) w ⟨p'.g,p'.o+i,none⟩ λe1 _=>?_
   simp only at e1 ⊢;rcases Av3 (p'.o+i) (p.o+o) with h3|h3
   .exact .inl h3
   .rcases Av3 (p'.o+i) (p.o+o+us.length) with h4|h4
    .have:=h.apart b c k k' p p' (λe2=>e e2.symm) hk hk' hp hp' (o+(p'.o+i-(p.o+o))) i (hown _ (by omega)) ho'
     exact absurd (by rw[e1];simp only[Prod.mk.injEq,true_and];omega) this
    .exact .inr h4
 .have key:∀{c:Nat} {k':ABlk} {q:Pl} {i:Nat},(if c=b then some ({ k with cells:=Bv k.cells o xs }:ABlk) else H c)=some k'->μ c=some q->k'.owns q.room i->∃ k0,H c=some k0/\k0.owns q.room i:=by
   intro c k' q i h1 _ h3
   by_cases e:c=b
   .subst e
    rw[Ac rfl]at h1;simp only[ξ]at h1;subst h1;refine⟨k,hk,?_⟩;unfold ABlk.owns at h3 ⊢;simp only[GS _ _ _ hlen]at h3;exact h3
   .grind
  obtain⟨j1,a1,a2⟩:=key h1 q1 o1;obtain⟨j2,b1,b2⟩:=key h2 q2 o2;exact h.apart c c' j1 j2 p1 p2 hne a1 b1 q1 q2 i i' a2 b2
 .rw[ET];exact h.prot g i hF
theorem RA{H:Nat->Option ABlk}(h:HRep μ F w H){b:Nat}{k:ABlk}{p:Pl}(hk:H b=some k)(hp:μ b=some p) :
  HRep μ (λg o=>F g o\/(g=p.g/\p.o<=o/\o<p.o+k.cells.length)) w (λc=>if c=b then some { k with st:=false } else H c)/\Later μ μ F (λg o=>F g o\/(g=p.g/\p.o<=o/\o<p.o+k.cells.length)) w w:=by
 obtain⟨p',hp',hB⟩:=h.blk b k hk;rw[hp]at hp'
 cases hp'
 have hl:Later μ μ F (λg o=>F g o\/(g=p.g/\p.o<=o/\o<p.o+k.cells.length)) w w:=⟨λ_ _ h=>h,λg i hF=>⟨.inl hF,rfl⟩⟩;have own:∀{c:Nat} {k':ABlk} {q:Pl} {i:Nat},(if c=b then some ({ k with st:=false }:ABlk) else H c)=some k'->k'.owns q.room i->∃ k0,H c=some k0/\k0.owns q.room i/\(c=b->k.cells.length<=i):=by
  intro c k' q i h1 h3
  by_cases e:c=b
  .subst e
   rw[Ac rfl]at h1;simp only[ξ]at h1;subst h1;rcases h3 with⟨_,h4⟩|⟨h4,h5,h6⟩
   .simp at h4
   .exact⟨k,hk,.inr ⟨h4,h5,h6⟩,λ_=>h4⟩
  .grind
 refine⟨⟨λc k' hk'=>?_,λc c' k1 k2 p1 p2 hne h1 h2 q1 q2 i i' o1 o2=>?_,λg i hF=>?_⟩,hl⟩
 .by_cases e:c=b
  .subst e
   have hk2:=hk';rw[Ac rfl]at hk';simp only[ξ]at hk';subst hk';refine⟨p,hp,⟨λi x hx=>?_,hB.room,hB.there,λ_ i hi=>.inr ⟨rfl,by omega,by simp only at hi;omega⟩,λi hi hF=>?_,hB.pure⟩⟩
   .obtain⟨u,h1,h2⟩:=hB.cell i x hx
    exact⟨u,h1,Rep.later hl x u h2⟩
   .obtain⟨k0,h1,h2,h3⟩:=own hk2 hi
    rw[hk]at h1
    cases h1
    rcases hF with hF|⟨_,_,hF⟩
    .exact hB.free i h2 hF
    .have:=h3 rfl;omega
  .have hk2:=hk'
   rw[Ad e]at hk';obtain⟨p',hp',hB'⟩:=h.blk c k' hk';refine⟨p',hp',hB'.step hl (WStep.refl _ _) (λ_ _ _=>rfl) λi hi hF=>?_⟩;rcases hF with hF|⟨h1,h2,h3⟩
   .exact hB'.free i hi hF
   .cases hst:k.st with
    |false=>exact hB'.free i hi (by rw[h1,show p'.o+i=p.o+(p'.o+i-p.o) by omega];exact hB.kept hst _ (by omega))
    |true=>
     exact h.apart b c k k' p p' (λe'=>e e'.symm) hk hk' hp hp' (p'.o+i-p.o) i (.inl ⟨by omega,hst⟩) hi (by
      rw[h1];simp only[Prod.mk.injEq,true_and];omega)
 .obtain⟨j1,a1,a2,_⟩:=own h1 o1
  obtain⟨j2,b1,b2,_⟩:=own h2 o2;exact h.apart c c' j1 j2 p1 p2 hne a1 b1 q1 q2 i i' a2 b2
 .rcases hF with hF|⟨h1,h2,h3⟩
  .exact h.prot g i hF
  .rw[h1];exact hB.lt (i:=0) (by have:=hB.room;omega)
theorem HRep.less{H H':Nat->Option ABlk}(h:HRep μ F w H)(hs:∀ b k,H' b=some k->H b=some k):HRep μ F w H':=
 ⟨λb k hk=>h.blk b k (hs b k hk),λb b' k k' p p' hne h1 h2 q1 q2=>h.apart b b' k k' p p' hne (hs _ _ h1) (hs _ _ h2) q1 q2,h.prot⟩
end
section
variable {μ μ':Mu} {F F':AQ} {w w':World} {p:Pl} {k:ABlk}
theorem HRep.drew{H:Nat->Option ABlk}(h:HRep μ F w H):HRep μ F w.drew H/\Later μ μ F F w w.drew/\WStep F w w.drew:=by
 have hl:Later μ μ F F w w.drew:=⟨λ_ _ h=>h,λ_ _ h=>⟨h,rfl⟩⟩;refine⟨⟨λb k hk=>?_,h.apart,h.prot⟩,hl,⟨rfl,rfl,rfl,η _,λg o hg=>⟨o,hg,ObjStep.refl _ _⟩⟩⟩;obtain⟨p,hp,hB⟩:=h.blk b k hk;exact⟨p,hp,⟨λi x hx=>(by obtain⟨u,h1,h2⟩:=hB.cell i x hx;exact⟨u,h1,Rep.later hl x u h2⟩),hB.room,hB.there,hB.kept,hB.free,hB.pure⟩⟩
theorem Abh{H:Nat->Option ABlk}(h:HRep μ F w H){b b':Nat}{k:ABlk}{p:Pl}(hk:H b=some k)(hp:μ b=some p)(hb':μ b'=none)(hex:k.ex=true)(o l:Nat)(hol:o<=l)(hl:l<=k.cells.length)(hfull:k.st=true\/l=k.cells.length) :
  HRep (μ.set b' ⟨p.g,p.o+o,p.room-o⟩) F w (λc=>if c=b' then some ⟨(k.cells.take l).drop o,k.st,true⟩ else if c=b then(if k.st then none else some { k with ex:=false }) else H c)/\Later μ (μ.set b' ⟨p.g,p.o+o,p.room-o⟩) F F w w:=by
 obtain⟨p',hp',hB⟩:=h.blk b k hk;rw[hp]at hp'
 cases hp'
 have hbb:b≠b':=by rintro rfl;rw[hp]at hb';cases hb'
 have hL:Later μ (μ.set b' ⟨p.g,p.o+o,p.room-o⟩) F F w w:=by
  refine⟨λc q hq=>?_,λg i hF=>⟨hF,rfl⟩⟩;unfold Mu.set
  by_cases e:c=b'
  .grind
  .rw[Ad e];exact hq
 have hroom:=hB.room;have hlen:((k.cells.take l).drop o).length=l-o:=by simp;omega
 have own':∀ i,(⟨(k.cells.take l).drop o,k.st,true⟩:ABlk).owns (p.room-o) i->k.owns p.room (o+i):=by
  grind [ABlk.owns]
 have split:∀{c:Nat} {k':ABlk} {q:Pl} {i:Nat},(if c=b' then some (⟨(k.cells.take l).drop o,k.st,true⟩:ABlk) else if c=b then(if k.st then none else some { k with ex:=false }) else H c)=some k'->(μ.set b' ⟨p.g,p.o+o,p.room-o⟩) c=some q->k'.owns q.room i->
   (c=b'/\q.g=p.g/\q.o=p.o+o/\k.owns p.room (o+i))\/(c≠b'/\c≠b/\H c=some k'/\μ c=some q):=by
  intro c k' q i h1 h2 h3
  by_cases e:c=b'
  .subst e
   rw[Ac rfl]at h1;simp only[ξ]at h1;subst h1;unfold Mu.set at h2;rw[Ac rfl]at h2;simp only[ξ]at h2;subst h2;exact .inl ⟨rfl,rfl,rfl,own' i h3⟩
  .rw[Ad e]at h1
   unfold Mu.set at h2;rw[Ad e]at h2
   by_cases e2:c=b
   .rw[Ac e2]at h1
    cases hst:k.st with
    |true=>rw[hst]at h1;simp at h1
    |false=>
     rw[hst]at h1;simp only[Awi,if_false,ξ]at h1;subst h1;rcases h3 with⟨_,h4⟩|⟨_,_,h4⟩
     .simp at h4
     .simp at h4
   .grind
 refine⟨⟨λc k' hk'=>?_,λc c' k1 k2 p1 p2 hne h1 h2 q1 q2 i i' o1 o2=>?_,h.prot⟩,hL⟩
 .by_cases e:c=b'
  .subst e
   rw[Ac rfl]at hk';simp only[ξ]at hk';subst hk';refine⟨⟨p.g,p.o+o,p.room-o⟩,by simp[Mu.set],⟨λi x hx=>?_,by simp only[hlen];omega,λi hi=>?_,λhf i hi=>?_,λi hi=>?_,λ_=>?_⟩⟩
   rotate_right
   .have:=hB.pure hex
    rw[BN]at this ⊢;simp only[AvJ]at this ⊢;exact λx hx=>this x (AwZ (AwE hx))
   .simp only[AwI,Awj]at hx
    split at hx
    .obtain⟨u,h1,h2⟩:=hB.cell (o+i) x hx
     exact⟨u,by simpa[AvQ]using h1,Rep.later hL x u h2⟩
    .cases hx
   .have:=hB.there (o+i) (by simp only at hi;omega)
    simpa[AvQ]using this
   .simp only[hlen]at hi hf
    have:=hB.kept hf (o+i) (by omega);simpa[AvQ]using this
   .have:=hB.free (o+i) (own' i hi)
    simpa[AvQ]using this
  .rw[Ad e]at hk'
   by_cases e2:c=b
   .subst e2
    rw[Ac rfl]at hk'
    cases hst:k.st with
    |true=>rw[hst]at hk';simp at hk'
    |false=>
     rw[hst]at hk';simp only[Awi,if_false,ξ]at hk';subst hk';refine⟨p,hL.mu _ _ hp,⟨λi x hx=>?_,hB.room,hB.there,λ_=>hB.kept hst,λi hi=>?_,λhe=>(by simp at he)⟩⟩
     .obtain⟨u,h1,h2⟩:=hB.cell i x hx
      exact⟨u,h1,Rep.later hL x u h2⟩
     .rcases hi with⟨_,h4⟩|⟨_,_,h4⟩
      .simp at h4
      .simp at h4
   .rw[Ad e2]at hk'
    obtain⟨q,hq,hB'⟩:=h.blk c k' hk';exact⟨q,hL.mu _ _ hq,hB'.step hL (WStep.refl _ _) (λ_ _ _=>rfl) hB'.free⟩
 .rcases split h1 q1 o1 with⟨e1,g1,t1,w1⟩|⟨e1,f1,a1,m1⟩
  .rcases split h2 q2 o2 with⟨e2,_,_,_⟩|⟨e2,f2,a2,m2⟩
   .omega
   .have:=h.apart b c' k k2 p p2 (λe=>f2 e.symm) hk a2 hp m2 (o+i) i' w1 o2
    rw[g1,t1,AvQ];exact this
  .rcases split h2 q2 o2 with⟨e2,g2,t2,w2⟩|⟨e2,f2,a2,m2⟩
   .have:=h.apart c b k1 k p1 p (λe=>f1 e) a1 hk m1 hp i (o+i') o1 w2
    rw[g2,t2,AvQ];exact this
   .exact h.apart c c' k1 k2 p1 p2 hne a1 a2 m1 m2 i i' o1 o2
theorem Abg{H:Nat->Option ABlk}(h:HRep μ F w H){b:Nat}{k:ABlk}{p:Pl}(hk:H b=some k)(hp:μ b=some p)(hex:k.ex=true)(xs:Ab)(us:AN)
  (hlen:k.cells.length+xs.length<=p.room) (hr:RepList μ F w xs us) (hpu:A6 xs=true) :
  ∃ F',HRep μ F' (w.setCells p.g (p.o+k.cells.length) us) (λc=>if c=b then some { k with cells:=k.cells++xs } else H c)/\Later μ μ F F' w (w.setCells p.g (p.o+k.cells.length) us)/\WStep F w (w.setCells p.g (p.o+k.cells.length) us):=by
 have hul:=hr.length;obtain⟨p',hp',hB⟩:=h.blk b k hk;rw[hp]at hp'
 cases hp'
 let R:AQ:=λg i=>k.st=false/\g=p.g/\p.o+k.cells.length<=i/\i<p.o+k.cells.length+us.length
 have hown:∀ j,j<us.length->k.owns p.room (k.cells.length+j):=λj hj=>.inr ⟨by omega,by omega,hex⟩
 have hnF:∀ j,j<us.length->¬ F p.g (p.o+k.cells.length+j):=λj hj=>by rw[AvQ];exact hB.free _ (hown j hj)
 have hs:WStep F w (w.setCells p.g (p.o+k.cells.length) us):=WStep.setCells hnF;have hl:Later μ μ F (λg i=>F g i\/R g i) w (w.setCells p.g (p.o+k.cells.length) us):=⟨λ_ _ h=>h,λg i hF=>⟨.inl hF,by
  refine World.cell?_setCells_out p.g us (p.o+k.cells.length) w ⟨g,i,none⟩ λe _=>?_
  simp only at e;subst e;rcases Av3 i (p.o+k.cells.length) with h|h
  .exact .inl h
  .rcases Av3 i (p.o+k.cells.length+us.length) with h' | h'
   .exact absurd hF (by have:=hnF (i-(p.o+k.cells.length)) (by omega);rwa [show p.o+k.cells.length+(i-(p.o+k.cells.length))=i by omega]at this)
   .exact .inr h'⟩⟩
 have hpg:0<us.length->p.g<w.heap.size:=λh0=>hB.lt (i:=k.cells.length) (by omega)
 have own2:∀ i,({ k with cells:=k.cells++xs }:ABlk).owns p.room i->k.owns p.room i/\(k.st=false->k.cells.length+us.length<=i):=by
  grind [ABlk.owns]
 refine⟨λg i=>F g i\/R g i,⟨λc k' hk'=>?_,λc c' k1 k2 p1 p2 hne h1 h2 q1 q2 i i' o1 o2=>?_,λg i hF=>?_⟩,hl,hs⟩
 .by_cases e:c=b
  .subst e
   rw[Ac rfl]at hk';simp only[ξ]at hk';subst hk';refine⟨p,hp,⟨λi x hx=>?_,by simp only[ζ];omega,λi hi=>?_,λhf i hi=>?_,λi hi hF=>?_,λ_=>?_⟩⟩
   rotate_right
   .have:=hB.pure hex
    rw[BN]at this hpu ⊢;simp only[List.all_append,this,hpu,Bool.and_self]
   .simp only at hx
    rcases Av3 i k.cells.length with hi|hi
    .rw[List.getElem?_append_left hi]at hx
     obtain⟨u,h1,h2⟩:=hB.cell i x hx;refine⟨u,?_,Rep.later hl x u h2⟩;rw[World.cell?_setCells_out p.g us (p.o+k.cells.length) w ⟨p.g,p.o+i,none⟩ λ_ _=>by simp only;omega];exact h1
    .rw[List.getElem?_append_right hi]at hx
     obtain⟨u,h1,h2⟩:=hr.get hx;refine⟨u,?_,Rep.later hl x u h2⟩;have hj:i-k.cells.length<us.length:=(Av9.1 h1).1;have:=World.cell?_setCells_in p.g us (p.o+k.cells.length) w (λj hj=>by
      obtain⟨⟨v,hv⟩,_⟩:=hB.there (k.cells.length+j) (by omega);rw[←AvQ]at hv;rw[hv];rfl) (i-k.cells.length) hj
     rw[show p.o+k.cells.length+(i-k.cells.length)=p.o+i by omega]at this;rw[this];rw[Ω hj]at h1;exact h1
   .obtain⟨⟨u,hu⟩,h2⟩:=hB.there i hi
    exact⟨hs.some_cell hu,by rw[World.frozen?_setCells];exact h2⟩
   .simp only[ζ]at hf hi
    rcases Av3 i k.cells.length with h3|h3
    .exact .inl (hB.kept hf i h3)
    .grind
   .obtain⟨h1,h2⟩:=own2 i hi
    rcases hF with hF|⟨h3,_,_,h4⟩
    .exact hB.free i h1 hF
    .have:=h2 h3;omega
  .rw[Ad e]at hk'
   obtain⟨p',hp',hB'⟩:=h.blk c k' hk';have far:∀ i,k'.owns p'.room i->¬ (p'.g=p.g/\p.o+k.cells.length<=p'.o+i/\p'.o+i<p.o+k.cells.length+us.length):=by
    rintro i ho ⟨e1,h3,h4⟩;have:=h.apart b c k k' p p' (λe2=>e e2.symm) hk hk' hp hp' (k.cells.length+(p'.o+i-(p.o+k.cells.length))) i (hown _ (by omega)) ho;exact absurd (by rw[e1];simp only[Prod.mk.injEq,true_and];omega) this
   refine⟨p',hp',hB'.step hl hs (λi hi hF=>?_) λi hi hF=>?_⟩
   .have ho':k'.owns p'.room i:=by
     cases hst':k'.st with
     |true=>exact .inl ⟨hi,hst'⟩
     |false=>exact absurd (hB'.kept hst' i hi) hF
    have:=far i ho';refine World.cell?_setCells_out p.g us (p.o+k.cells.length) w ⟨p'.g,p'.o+i,none⟩ λe1 _=>?_
    simp only at e1 ⊢;have h5:¬ (p.o+k.cells.length<=p'.o+i/\p'.o+i<p.o+k.cells.length+us.length):=λh=>this ⟨e1,h⟩
    omega
   .rcases hF with hF|⟨_,h1,h2,h3⟩
    .exact hB'.free i hi hF
    .grind
 .have key:∀{c:Nat} {k':ABlk} {i:Nat},(if c=b then some ({ k with cells:=k.cells++xs }:ABlk) else H c)=some k'->μ c=some (if c=b then p else(μ c).getD p)->k'.owns (if c=b then p else(μ c).getD p).room i->∃ k0,H c=some k0/\k0.owns (if c=b then p else(μ c).getD p).room i:=by
   grind
  have fix:∀{c:Nat} {q:Pl},μ c=some q->q=(if c=b then p else(μ c).getD p):=by
   grind
  obtain⟨j1,a1,a2⟩:=key h1 (by rw[←fix q1];exact q1) (by rw[←fix q1];exact o1);obtain⟨j2,b1,b2⟩:=key h2 (by rw[←fix q2];exact q2) (by rw[←fix q2];exact o2);rw[←fix q1]at a2;rw[←fix q2]at b2;exact h.apart c c' j1 j2 p1 p2 hne a1 b1 q1 q2 i i' a2 b2
 .rw[ET]
  rcases hF with hF|⟨_,h1,h2,h3⟩
  .exact h.prot g i hF
  .omega
end
section
variable (P:Program)
def QL(t:TypeId):Option (Nat × TypeId):=match P.underlying t with
 |some (.array n e)=>some (n,e)
 |_=>none
def Lg(t:TypeId)(x ix:AV):Option AV:=match QL P t,ix.idx with
 |some (n,et),some i=>match DS P et with
  |some e=>if i<n then PF x (i*e) else none
  |none=>none
 |_,_=>none
def IX(t:TypeId)(x ix:AV):Option AV:=match x,QL P t,ix.idx with
 |.agg cs,some (n,et),some i=>match DS P et with
  |some e=>if i<n then RZ P et cs (i*e) else none
  |none=>none
 |_,_,_=>none
def Ky(c:UInt8):AV:=.v (.int .u8 c.toNat)
def newsA(e:Nat)(x:AV):AM (Nat × Ab):=match x with
 |.sl b o n e'=>if e'=e then(AM.getB b).bind λk=>if o+n*e<=k.cells.length/\(k.ex||A6 ((k.cells.drop o).take (n*e)))=true then AM.ret (n,(k.cells.drop o).take (n*e)) else AM.fail else AM.fail
 |.ls xs=>if(xs.all λcs=>cs.length == e)=true then AM.ret (xs.length,xs.flatten) else AM.fail
 |.v (.slice none 0 0)=>AM.ret (0,[])
 |.v (.string s)=>if e=1 then AM.ret (s.size,s.data.toList.map Ky) else AM.fail
 |_=>AM.fail
def GR(t:TypeId):Bool:=match P.underlying t with
 |some (.slice _)=>true
 |some .string=>true
 |_=>false
def QU:AV->Bool
 |.sl ..=>true
 |.ls _=>true
 |.v (.slice none 0 0)=>true
 |_=>false
def MY:Value->Bool
 |.slice none 0 0=>true
 |_=>false
theorem G5{z:Value}(h:MY z=true):z=.slice none 0 0:=by
 unfold MY at h;split at h
 .rfl
 .cases h
def MX(t:TypeId):Bool:=match P.underlying t with
 |some (.int _)=>true
 |_=>false
def newsZ(z:Value)(e:Nat)(x:AV):AM (Nat × Ab):=match x.idx with
 |some m=>if m<9223372036854775808/\z.cells.toList.all NB=true then AM.ret (m,Cr (z.cells.toList.map .v) (m*e)) else AM.fail
 |none=>AM.fail
def newsU(u:TypeId)(z:Value)(e:Nat)(x:AV):AM (Nat × Ab):=match GR P u with
 |true=>newsA e x
 |false=>(match MX P u with
  |true=>newsZ z e x
  |false=>AM.fail)
def appendA (ts:List TypeId) (s x:AV):AM AV:=match ts with
 | [t, u] => match Cs P t with
  |some et=>match P.info? et with
   |some i=>match i.zero with
    |some z=>if z.cells.size=i.size/\0<i.size then
      (newsU P u z i.size x).bind λr=>
       if r.1=0 then(if QU s=true then AM.ret s else AM.fail)
       else if r.2.all AV.one=true then(match s with
        |.v z'=>if MY z'=true/\r.1*i.bytes<=140737488355328/\r.1<=maxLen then(AM.newB ⟨r.2,true,true⟩).bind λb=>AM.ret (.sl b 0 r.1 i.size) else AM.fail
        |.sl b o n e=>if e=i.size/\(n+r.1)*i.bytes<=140737488355328/\n+r.1<=maxLen then
          (AM.getB b).bind λk=>
           if k.ex=true/\o+n*e<=k.cells.length/\(k.st=true\/o+n*e=k.cells.length) then
            (if k.st=true then AM.delB b else AM.setB b { k with ex:=false }).bind λ_=>
             (AM.newB ⟨(k.cells.take (o+n*e)).drop o++r.2,k.st,true⟩).bind λb'=>AM.ret (.sl b' 0 (n+r.1) e)
           else AM.fail
         else AM.fail
        |_=>AM.fail)
       else AM.fail
     else AM.fail
    |none=>AM.fail
   |none=>AM.fail
  |none=>AM.fail
 |_=>AM.fail
def makeSliceA(t:TypeId)(l c:AV):AM AV:=match Cs P t,l.idx,c.idx with
 |some et,some n,some m=>match P.info? et with
  |some i=>match C0 P et with
   |some z=>if n<=m/\m*i.bytes<=140737488355328/\m<=maxLen/\z.cells.size=i.size/\0<i.size then
     (AM.newB ⟨Cr (z.cells.toList.map .v) (n*i.size),true,true⟩).bind λb=>AM.ret (.sl b 0 n i.size)
    else AM.fail
   |none=>AM.fail
  |none=>AM.fail
 |_,_,_=>AM.fail
def copyA(ts:List TypeId)(d x:AV):AM AV:=match ts with
 |[t,_]=>match Cs P t,d with
  |some et,.sl b o n e=>if DS P et=some e then
    (newsA e x).bind λr=>
     let m:=Nat.min r.1 n
     if(r.2.take (m*e)).all AV.one=true then
      (AM.getB b).bind λk=>if k.st=true/\o+n*e<=k.cells.length then
       (AM.setB b { k with cells:=Bv k.cells o (r.2.take (m*e)) }).bind λ_=>AM.ret (.v (.int .i64 m))
      else AM.fail
     else AM.fail
   else AM.fail
  |_,_=>AM.fail
 |_=>AM.fail
def clearA(ts:List TypeId)(x:AV):AM AV:=match ts with
 |[t]=>match Cs P t,x with
  |some et,.sl b o n e=>match C0 P et with
   |some z=>if DS P et=some e/\z.cells.size=e/\0<e/\(z.cells.toList.map AV.v).all AV.one=true then
     (AM.getB b).bind λk=>if k.st=true/\o+n*e<=k.cells.length then
      (AM.setB b { k with cells:=Bv k.cells o (Cr (z.cells.toList.map .v) (n*e)) }).bind λ_=>AM.ret (.tup [])
     else AM.fail
    else AM.fail
   |none=>AM.fail
  |_,_=>AM.fail
 |_=>AM.fail
def DU(t:TypeId):Bool:=match Cs P t with
 |some e=>(match P.underlying e with
  |some (.int .u8)=>true
  |_=>false)
 |none=>false
def B7(t:TypeId):Bool:=match P.underlying t with
 |some .string=>true
 |_=>false
def SN:AV->Option UInt8
 |.v (.int .u8 n)=>if((UInt8.ofNat n.toNat).toNat:Int)=n then some (UInt8.ofNat n.toNat) else none
 |_=>none
def bytesOf:Ab->Option (List UInt8)
 |[]=>some []
 |x::r=>match SN x,bytesOf r with
  |some c,some l=>some (c::l)
  |_,_=>none
def Gy(t:TypeId)(x y:AV):Bool:=match x,y,P.underlying t with
 |.ptr ..,.v (.pointer none),some (.pointer _)=>true
 |.lp ..,.v (.pointer none),some (.pointer _)=>true
 |.v (.pointer none),.ptr ..,some (.pointer _)=>true
 |.v (.pointer none),.lp ..,some (.pointer _)=>true
 |.sl _ _ (_+1) _,.v (.slice none _ _),some (.slice _)=>true
 |.fn ..,.v .nilFunc,some (.func ..)=>true
 |_,_,_=>false
def B8(ρ:Operand->AV)(x:Operand):Value:=((ρ x).toVal).getD Go.undef
def Anh:Next->Option AV
 |.value y=>some (E3 y)
 |.skip=>some AV.undef
 |_=>none
def Ci:Op->Bool
 |.select ..=>false
 |_=>true
def CQ(o:Oper)(ρ:Operand->AV):Option AV:=
 if(Ci o.op&&o.op.operands.toList.all λx=>(ρ x).toVal.isSome)=true then(AD P (execOp (B8 ρ) o)).bind Anh else none
def GY(f:FuncId):Bool:=match P.funcs[f]? with
 |some fn=>fn.name != "runtime.NumGoroutine"&&fn.body.isSome
 |none=>false
def Za(g:FuncId)(args:Ab):Option AV:=match IJ args,P.funcs[g]? with
 |some us,some fn=>if(fn.name != "runtime.NumGoroutine"&&fn.body.isNone)=true then(match Extern.findNext fn,Extern.find fn with
   |none,some e=>(AD P (e us.toArray)).map E3
   |_,_=>none) else none
 |_,_=>none
def Df(t:TypeId):Bool:=match P.underlying t with
 |some (.slice _)=>true
 |_=>false
def aop(Γ:FuncId->Ab->AM AV)(o:Oper)(ρ:Operand->AV):AM AV:=match o.op with
 |.move x=>AM.ret (ρ x)
 |.assign x=>AM.ret (ρ x)
 |.pick c a b=>(match ρ c with
  |.v (.bool t)=>AM.ret (if t then ρ a else ρ b)
  |_=>AM.fail)
 |.alloc t=>allocA P t
 |.box _ x=>boxA (ρ x)
 |.build t ps=>AM.opt (Kw P t (ps.toList.map λp=>(p.1,ρ p.2)))
 |.buildSlice t n ps=>buildSliceA P t n (ps.toList.map λp=>(p.1,ρ p.2))
 |.load t a=>loadA P t (ρ a)
 |.store t a x=>storeA P t (ρ a) (ρ x)
 |.nilCheck x=>(match ρ x with
  |.ptr b o=>AM.ret (.ptr b o)
  |.lp cs=>AM.ret (.lp cs)
  |.fn (.func f) a c=>AM.ret (.fn (.func f) a c)
  |_=>AM.fail)
 |.binOp b t x y _=>if Gy P t (ρ x) (ρ y)=true then(match b with
   |.eql=>AM.ret (.v (.bool false))
   |.neq=>AM.ret (.v (.bool true))
   |_=>AM.fail) else AM.opt (CQ P o ρ)
 |.makeFunc fn a c=>AM.ret (.fn fn (a.toList.map ρ) (c.toList.map ρ))
 |.slice t x lo hi mx=>(match mx with
  |none=>(match K6 P t (ρ x) (lo.map ρ) (hi.map ρ) with
   |some r=>AM.ret r
   |none=>AM.opt (CQ P o ρ))
  |some _=>AM.fail)
 |.fieldAddr t a f=>AM.opt (HY P t (ρ a) f)
 |.field t x f=>AM.opt (O7 P t (ρ x) f)
 |.indexAddr t x i=>(match DY P t (ρ x) (ρ i) with
  |some r=>AM.ret r
  |none=>AM.opt (Lg P t (ρ x) (ρ i)))
 |.index t x i=>(match IX P t (ρ x) (ρ i) with
  |some r=>AM.ret r
  |none=>AM.opt (CQ P o ρ))
 |.extract t i=>AM.opt (Lu (ρ t) i)
 |.convert s d x=>if DU P s=true/\B7 P d=true/\QU (ρ x)=true then(newsA 1 (ρ x)).bind λr=>AM.opt ((bytesOf r.2).map λl=>.v (.string ⟨l.toArray⟩)) else
   (match B7 P s&&DU P d,ρ x with
    |true,.v (.string s)=>if s.size<=maxLen then(AM.newB ⟨s.data.toList.map Ky,true,true⟩).bind λb=>AM.ret (.sl b 0 s.size 1) else AM.fail
    |_,_=>AM.opt (CQ P o ρ))
 |.makeSlice t l c=>makeSliceA P t (ρ l) (ρ c)
 |.call c=>(match c.callee with
  |.builtin .append=>(match c.args.toList with
   |[s,x]=>appendA P c.argTypes.toList (ρ s) (ρ x)
   |_=>AM.fail)
  |.builtin .copy=>(match c.args.toList with
   |[s,x]=>copyA P c.argTypes.toList (ρ s) (ρ x)
   |_=>AM.fail)
  |.builtin .clear=>(match c.args.toList with
   |[x]=>clearA P c.argTypes.toList (ρ x)
   |_=>AM.fail)
  |.builtin .len=>(match c.args.toList,c.argTypes.toList with
   |[x],[t]=>if Df P t=true then(match AiF (ρ x) with
     |some r=>AM.ret r
     |none=>AM.opt (CQ P o ρ)) else AM.opt (CQ P o ρ)
   |_,_=>AM.fail)
  |.builtin _=>AM.opt (CQ P o ρ)
  |.value f=>(match ρ f with
   |.fn (.func g) a cs=>if GY P g=true then Γ g (a++c.args.toList.map ρ++cs) else AM.opt (Za P g (a++c.args.toList.map ρ++cs))
   |_=>AM.fail)
  |.invoke ..=>AM.fail)
 |_=>AM.opt (CQ P o ρ)
end
section
variable {P:Program}
theorem Loc.rdAt(a:AV)(n:Nat):Loc (rdAt a n):=by
 cases a<;>simp only[Go.Proofs.YtlmhajfbpplpoaaGreat.rdAt]<;>first
  |exact Loc.fail
  |exact Loc.bind (Loc.getB _) λk=>Loc.ite (Loc.ret _) Loc.fail
  |exact Loc.ite (Loc.ret _) Loc.fail
theorem Loc.loadA(t:TypeId)(a:AV):Loc (loadA P t a):=by
 grind [Go.Proofs.YtlmhajfbpplpoaaGreat.loadA,Loc.bind,Loc.fail,Loc.opt,Loc.rdAt,Loc.ret]
theorem Loc.storeA(t:TypeId)(a x:AV):Loc (storeA P t a x):=by
 unfold Go.Proofs.YtlmhajfbpplpoaaGreat.storeA;split
 .exact Loc.ite (Loc.bind (Loc.getB _) λk=>Loc.ite (Loc.bind (Loc.setB _ _) λ_=>Loc.ret _) Loc.fail) Loc.fail
 .exact Loc.fail
theorem Loc.newsA(e:Nat)(x:AV):Loc (newsA e x):=by
 unfold Go.Proofs.YtlmhajfbpplpoaaGreat.newsA;split
 .exact Loc.ite (Loc.bind (Loc.getB _) λk=>Loc.ite (Loc.ret _) Loc.fail) Loc.fail
 .exact Loc.ite (Loc.ret _) Loc.fail
 .exact Loc.ret _
 .exact Loc.ite (Loc.ret _) Loc.fail
 .exact Loc.fail
theorem Loc.newsU(u:TypeId)(z:Value)(e:Nat)(x:AV):Loc (newsU P u z e x):=by
 unfold Go.Proofs.YtlmhajfbpplpoaaGreat.newsU Go.Proofs.YtlmhajfbpplpoaaGreat.newsZ;split
 .exact Loc.newsA _ _
 .split
  .split
   .exact Loc.ite (Loc.ret _) Loc.fail
   .exact Loc.fail
  .exact Loc.fail
theorem Loc.appendA(ts:List TypeId)(s x:AV):Loc (appendA P ts s x):=by
 unfold Go.Proofs.YtlmhajfbpplpoaaGreat.appendA
 repeat' split
 all_goals first
  |exact Loc.fail
  |refine Loc.bind (Loc.newsU _ _ _ _) λr=>?_
 repeat' split
 all_goals first
  |exact Loc.fail
  |exact Loc.ret _
  |exact Loc.bind (Loc.newB _) λ_=>Loc.ret _
  |refine Loc.bind (Loc.getB _) λk=>?_
 all_goals exact Loc.ite (Loc.bind (Loc.ite (Loc.delB _) (Loc.setB _ _)) λ_=>Loc.bind (Loc.newB _) λ_=>Loc.ret _) Loc.fail
theorem Loc.copyA(ts:List TypeId)(s x:AV):Loc (copyA P ts s x):=by
 unfold Go.Proofs.YtlmhajfbpplpoaaGreat.copyA
 repeat' split
 all_goals first
  |exact Loc.fail
  |refine Loc.bind (Loc.newsA _ _) λr=>?_
 exact Loc.ite (Loc.bind (Loc.getB _) λk=>Loc.ite (Loc.bind (Loc.setB _ _) λ_=>Loc.ret _) Loc.fail) Loc.fail
theorem Loc.clearA(ts:List TypeId)(x:AV):Loc (clearA P ts x):=by
 unfold Go.Proofs.YtlmhajfbpplpoaaGreat.clearA
 repeat' split
 all_goals first
  |exact Loc.fail
  |exact Loc.bind (Loc.getB _) λk=>Loc.ite (Loc.bind (Loc.setB _ _) λ_=>Loc.ret _) Loc.fail
theorem Loc.makeSliceA(t:TypeId)(l c:AV):Loc (makeSliceA P t l c):=by
 unfold Go.Proofs.YtlmhajfbpplpoaaGreat.makeSliceA
 repeat' split
 all_goals first
  |exact Loc.fail
  |exact Loc.bind (Loc.newB _) λ_=>Loc.ret _
theorem Loc.buildSliceA(t:TypeId)(n:Nat)(ps:List (Nat × AV)):Loc (buildSliceA P t n ps):=by
 unfold Go.Proofs.YtlmhajfbpplpoaaGreat.buildSliceA
 repeat' split
 all_goals first
  |exact Loc.fail
  |exact Loc.bind (Loc.newB _) λ_=>Loc.ret _
theorem Loc.allocA(t:TypeId):Loc (allocA P t):=by
 grind [Go.Proofs.YtlmhajfbpplpoaaGreat.allocA,Loc.bind,Loc.fail,Loc.newB,Loc.ret]
theorem Loc.boxA(x:AV):Loc (boxA x):=by
 grind [Go.Proofs.YtlmhajfbpplpoaaGreat.boxA,Loc.bind,Loc.fail,Loc.newB,Loc.ret]
theorem Loc.aop{Γ:FuncId->Ab->AM AV}(hΓ:∀ f args,Loc (Γ f args))(o:Oper)(ρ:Operand->AV):Loc (aop P Γ o ρ):=by
 unfold Go.Proofs.YtlmhajfbpplpoaaGreat.aop;split
 all_goals repeat' split
 all_goals first
  |exact Loc.fail
  |exact Loc.ret _
  |exact Loc.opt _
  |exact Loc.allocA _
  |exact Loc.boxA _
  |exact Loc.buildSliceA _ _ _
  |exact Loc.loadA _ _
  |exact Loc.storeA _ _ _
  |exact Loc.makeSliceA _ _ _
  |exact Loc.appendA _ _ _
  |exact Loc.copyA _ _ _
  |exact Loc.clearA _ _
  |exact hΓ _ _
  |exact Loc.bind (Loc.newsA _ _) λ_=>Loc.opt _
  |exact Loc.bind (Loc.newB _) λ_=>Loc.ret _
end
def Post(μ:Mu)(F:AQ)(w:World)(H:AH)(r:AV)(H':AH)(u:Value)(w':World):Prop:=
 ∃ μ' F',Rep μ' F' w' r u/\HRep μ' F' w' H'.get/\Later μ μ' F F' w w'/\WStep F w w'/\∀ b,(b<H.next\/H'.next<=b)->μ' b=μ b
def B3(μ:Mu)(H:AH):Prop:=∀ b,H.next<=b->H.below b->μ b=none
def QI(P:Program)(s:Sem Next)(m:AM AV)(μ:Mu)(F:AQ)(w:World)(H:AH):Prop:=
 ∀ r H' ft,m H=some (r,H',ft)->∃ n u w',s.run P w=.ok n w'/\(n=.value u\/(n=.skip/\u=Go.undef))/\Post μ F w H r H' u w'
def ValS(P:Program)(s:Sem Value)(m:AM AV)(μ:Mu)(F:AQ)(w:World)(H:AH):Prop:=
 ∀ r H' ft,m H=some (r,H',ft)->∃ u w',s.run P w=.ok u w'/\Post μ F w H r H' u w'
section
variable {P:Program} {μ:Mu} {F:AQ} {w:World} {H:AH}
theorem bind_some{α β:Type}{m:AM α}{f:α->AM β}{H:AH}{b:β}{H':AH}{ft:Foot}(h:m.bind f H=some (b,H',ft)) :
  ∃ a H1 f1 f2,m H=some (a,H1,f1)/\f a H1=some (b,H',f2):=by
 unfold AM.bind at h
 cases e1:m H with
 |none=>simp[e1]at h
 |some r1=>
  obtain⟨a,H1,f1⟩:=r1;simp only[e1]at h
  cases e2:f a H1 with
  |none=>simp[e2]at h
  |some r2=>
   obtain⟨b',H2',f2⟩:=r2;simp only[e2,ξ,Prod.mk.injEq]at h;obtain⟨rfl,rfl,rfl⟩:=h;exact⟨a,H1,f1,f2,rfl,e2⟩
theorem Au{α:Type}{a b:α}{H H':AH}{ft:Foot}(h:AM.ret a H=some (b,H',ft)):b=a/\H'=H:=by
 grind [AM.ret]
theorem At{α:Type}{b:α}{H H':AH}{ft:Foot}(h:(AM.fail:AM α) H=some (b,H',ft)):False:=by simp[AM.fail]at h
theorem DV{α:Type}{o:Option α}{b:α}{H H':AH}{ft:Foot}(h:AM.opt o H=some (b,H',ft)):o=some b/\H'=H:=by
 cases o with
 |none=>simp[AM.opt,AM.fail]at h
 |some a=>obtain⟨rfl,rfl⟩:=Au h;exact⟨rfl,rfl⟩
theorem BY{b:Nat}{k:ABlk}{H H':AH}{ft:Foot}(h:AM.getB b H=some (k,H',ft)):H.get b=some k/\H'=H:=by
 grind [AM.getB]
theorem Hh{b:Nat}{k:ABlk}{u:Unit}{H H':AH}{ft:Foot}(h:AM.setB b k H=some (u,H',ft)):H'=H.put b k:=by
 grind [AM.setB]
theorem Rk{b:Nat}{u:Unit}{H H':AH}{ft:Foot}(h:AM.delB b H=some (u,H',ft)):H'=H.del b:=by
 grind [AM.delB]
theorem Bz{α:Type}{c:Prop}[Decidable c]{m m':AM α}{H:AH}{r:α × AH × Foot}(h:(if c then m else m') H=some r):(c/\m H=some r)\/(¬ c/\m' H=some r):=by
 grind
theorem D5{r:AV}{u:Value}(hr:Rep μ F w r u)(hH:HRep μ F w H.get):Post μ F w H r H u w:=
 ⟨μ,F,hr,hH,Later.refl _ _ _,WStep.refl _ _,λ_ _=>rfl⟩
theorem Dq{s:Sem Next}{r:AV}{u:Value}(hrun:s.run P w=.ok (.value u) w)(hr:Rep μ F w r u)(hH:HRep μ F w H.get):QI P s (AM.ret r) μ F w H:=λr' H' ft h=>by
 grind [D5,Au]
theorem ValS.next{s:Sem Value}{m:AM AV}(h:ValS P s m μ F w H):QI P (do pure (.value (←s))) m μ F w H:=λr H' ft hm=>by
 obtain⟨u,w',h1,h2⟩:=h r H' ft hm;exact⟨.value u,u,w',by simp[h1],.inl rfl,h2⟩
theorem FG{s:Sem Value}{m:AM AV}(hH:HRep μ F w H.get)(h:∀ r H' ft,m H=some (r,H',ft)->H'=H/\∃ u,s.run P w=.ok u w/\Rep μ F w r u):ValS P s m μ F w H:=λr H' ft hm=>by
 grind [D5]
theorem Hd(μ:Mu)(F:AQ)(w:World):Rep μ F w AV.undef Go.undef:=by
 simp only[AV.undef,Rep];exact⟨trivial,rfl⟩
theorem EN(μ:Mu)(F:AQ)(w:World):∀(l:AN),l.all NB=true->RepList μ F w (l.map .v) l
 |[],_=>by simp only[List.map_nil,RepList]
 |x::r,h=>by
  simp only[List.all_cons,AvF]at h;simp only[List.map_cons,RepList];exact⟨x,r,rfl,by simp only[Rep];exact⟨trivial,h.1⟩,EN μ F w r h.2⟩
theorem M6(μ:Mu)(F:AQ)(w:World)(x:Value):Rep μ F w (E3 x) x:=by
 cases x<;>simp only[E3]
 case agg cs=>
  split
  .rename_i h
   simp only[Rep];exact⟨cs,rfl,EN μ F w _ h⟩
  .simp only[Rep]
 all_goals (simp only[Rep];exact⟨trivial,rfl⟩)
theorem Aat{xs:Ab}:∀{l:AN} {us:AN},IJ xs=some l->RepList μ F w xs us->us=l:=by
 induction xs with
 |nil=>intro l us h hr;simp only[IJ,ξ]at h;simp only[RepList]at hr;rw[hr,h]
 |cons x r ih=>
  intro l us h hr
  cases x<;>simp only[IJ]at h<;>try (cases h;done)
  case v y=>
   split at h
   .rename_i l' hl
    simp only[ξ]at h;subst h;simp only[RepList]at hr;obtain⟨u,t,rfl,h1,h2⟩:=hr;simp only[Rep]at h1;rw[ih hl h2,h1.1]
   .cases h
theorem Aha{x:AV}{y u:Value}(h:x.toVal=some y)(hr:Rep μ F w x u):u=y:=by
 cases x<;>simp only[AV.toVal]at h<;>try (cases h;done)
 case v z=>
  simp only[ξ]at h;subst h;simp only[Rep]at hr;exact hr.1
 case agg cs=>
  split at h
  .rename_i l hl
   simp only[ξ]at h;subst h;simp only[Rep]at hr;obtain⟨us,rfl,h2⟩:=hr;rw[←Aat hl h2]
  .cases h
theorem XG{o:Oper}{ρ:Operand->AV}{a:Act}(hρ:∀ x∈o.op.operands,Rep μ F w (ρ x) (a.eval x))(hH:HRep μ F w H.get):QI P (execOp a.eval o) (AM.opt (CQ P o ρ)) μ F w H:=λr H' ft h=>by
 obtain⟨hg,rfl⟩:=DV h;clear h;have h:=hg;clear hg;unfold CQ at h;split at h
 .rename_i hc
  simp only[AvF,AvJ]at hc;obtain⟨hns,hall⟩:=hc
  cases hp:AD P (execOp (B8 ρ) o) with
  |none=>rw[hp]at h;simp at h
  |some n=>
   rw[hp]at h;simp only[Option.bind_some]at h;have he:execOp a.eval o=execOp (B8 ρ) o:=execOp_congr o (λcs b e=>by rw[e]at hns;simp[Ci]at hns) λx hx=>by
    have:=hall x (by simpa using hx);obtain⟨y,hy⟩:=Option.isSome_iff_exists.1 this;unfold B8;rw[hy];exact Aha hy (hρ x hx)
   have hrun:=Jf _ hp w;rw[←he]at hrun
   cases n<;>simp only[Anh]at h<;>try (cases h;done)
   all_goals (simp only[ξ]at h;subst h)
   case value y=>exact⟨_,y,w,hrun,.inl rfl,D5 (M6 _ _ _ _) hH⟩
   case skip=>exact⟨_,Go.undef,w,hrun,.inr ⟨rfl,rfl⟩,D5 (Hd _ _ _) hH⟩
 .cases h
theorem DN{g:Nat}:∀{cs:Ab} {o:Nat},(∀ i x,cs[i]? = some x->∃ u,w.cell? ⟨g,o+i,none⟩=some u/\Rep μ F w x u)->∃ us:AN,RepList μ F w cs us/\∀ j v,us[j]? = some v->w.cell? ⟨g,o+j,none⟩=some v
 |[],o,_=>⟨[],by simp only[RepList],λj v h=>by simp at h⟩
 |x::r,o,h=>by
  obtain⟨u,h1,h2⟩:=h 0 x rfl;obtain⟨us,h3,h4⟩:=DN (cs:=r) (o:=o+1) λi y hy=>by
   have:=h (i+1) y (by simpa using hy)
   rwa [show o+(i+1)=o+1+i by omega]at this
  refine⟨u::us,by simp only[RepList];exact⟨u,us,rfl,h2,h3⟩,λj v hj=>?_⟩
  cases j with
  |zero=>simp at hj;subst hj;exact h1
  |succ j=>
   have:=h4 j v (by simpa using hj)
   rwa [show o+1+j=o+(j+1) by omega]at this
theorem P4{a:AV}{u:Value}{n:Nat}{cs:Ab}{H':AH}{ft:Foot}(hr:Rep μ F w a u)(hH:HRep μ F w H.get)(h:rdAt a n H=some (cs,H',ft)) :
  H'=H/\cs.length=n/\∃ g o,u=.pointer (some ⟨g,o,none⟩)/\∃ us:AN,RepList μ F w cs us/\∀ j v,us[j]? = some v->w.cell? ⟨g,o+j,none⟩=some v:=by
 cases a<;>simp only[rdAt]at h<;>try exact(At h).elim
 case ptr b o=>
  obtain⟨k,H1,f1,f2,h1,h2⟩:=bind_some h;obtain⟨hk,rfl⟩:=BY h1;rcases Bz h2 with⟨hc,h2⟩|⟨_,h2⟩
  .obtain⟨rfl,rfl⟩:=Au h2
   simp only[Rep]at hr;obtain⟨p,hp,rfl⟩:=hr;obtain⟨p',hp',hB⟩:=hH.blk b k hk;rw[hp]at hp'
   cases hp'
   refine⟨rfl,by simp;omega,p.g,p.o+o,rfl,DN λi x hx=>?_⟩;simp only[Awj,AwI]at hx;split at hx
   .obtain⟨u,h1,h2⟩:=hB.cell (o+i) x hx
    exact⟨u,by rwa [AvQ],h2⟩
   .cases hx
  .exact(At h2).elim
 case lp l=>
  rcases Bz h with⟨hc,h2⟩|⟨_,h2⟩
  .obtain⟨rfl,rfl⟩:=Au h2
   simp only[Rep]at hr;obtain⟨_,g,o,rfl,hat⟩:=hr;refine⟨rfl,by simp;omega,g,o,rfl,DN λi x hx=>?_⟩;simp only[Awj]at hx;split at hx
   .exact(hat.get hx).2
   .cases hx
  .exact(At h2).elim
theorem CZ{t:TypeId}{n:Nat}(h:DS P t=some n):∃ i,P.info? t=some i/\i.size=n:=by
 unfold DS at h
 cases e:P.info? t with
 |none=>simp[e]at h
 |some i=>simp[e]at h;exact⟨i,rfl,h⟩
theorem JK{t:TypeId}{b:Bool}(h:Cn P t=some b):(isAgg t).run P w=.ok b w:=by
 unfold Cn at h
 cases e:P.underlying t with
 |none=>simp[e]at h
 |some d=>
  simp only[e,AvP,ξ]at h;unfold isAgg;rw[Sem.run_bind,run_underlying e w]
  cases d<;>simp_all [Ae7]
theorem KO{t:TypeId}{a:AV}{u:Value}(hr:Rep μ F w a u)(hH:HRep μ F w H.get){r:AV}{H':AH}{ft:Foot}(h:loadA P t a H=some (r,H',ft)):H'=H/\(∃ u',(Instr.loadAt t u).run P w=.ok u' w/\Rep μ F w r u')/\∃ p,u=.pointer (some p):=by
 unfold loadA at h;rcases h1:Cn P t with _|_|_<;>rw[h1]at h
 .exact(At h).elim
 rotate_left
 .rcases h2:DS P t with _|n<;>rw[h2]at h
  .exact(At h).elim
  simp only at h;obtain⟨cs,H1,f1,f2,h3,h4⟩:=bind_some h;obtain⟨rfl,hn,g,o,rfl,us,hl,hc⟩:=P4 hr hH h3;obtain⟨rfl,rfl⟩:=Au h4;obtain⟨i,hi,hsz⟩:=CZ h2;refine⟨rfl,⟨.agg us.toArray,?_,by simp only[Rep];exact⟨us.toArray,rfl,by simpa using hl⟩⟩,_,rfl⟩;have:=run_loadCells_list (P:=P) w ⟨g,o,none⟩ us (λj v hv=>by rw[Addr.add_mid];exact hc j v hv);rw[hl.length,hn]at this;simp[Instr.loadAt,Instr.sureAddr,loadVar,Sem.run_bind,JK h1,sizeOf,typeInfo,hi,hsz,this]
 .simp only at h
  obtain⟨cs,H1,f1,f2,h3,h4⟩:=bind_some h;obtain⟨rfl,hn,g,o,rfl,us,hl,hc⟩:=P4 hr hH h3;obtain⟨h5,rfl⟩:=DV h4
  match cs,hn,h5 with
  |[x],_,h5=>
   simp only[Ye,ξ]at h5;subst h5;simp only[RepList]at hl;obtain⟨v,l,rfl,hx,_⟩:=hl;refine⟨rfl,⟨v,?_,hx⟩,_,rfl⟩;have:=hc 0 v rfl;simp[Instr.loadAt,Instr.sureAddr,loadVar,Sem.run_bind,JK h1];rw[Awr]at this;simp[this]
theorem Vv{t:TypeId}{a:AV}{u:Value}(hr:Rep μ F w a u)(hH:HRep μ F w H.get):ValS P (Instr.loadAt t u) (loadA P t a) μ F w H:=FG hH λ_ _ _ h=>⟨(KO hr hH h).1,(KO hr hH h).2.1⟩
end
section
variable {P:Program} {μ:Mu} {F:AQ} {w:World} {H:AH}
theorem Gu(H:AH)(b:Nat)(k:ABlk):(H.put b k).get=λc=>if c=b then some k else H.get c:=funext λc=>AH.get_put H b c k
theorem H8(H:AH)(b:Nat)(k:ABlk)(n:Nat)(t:Option Nat):AH.get ⟨(b,k)::H.bs,n,t⟩=λc=>if c=b then some k else H.get c:=funext λc=>EX b k H n t c
theorem TU{t:TypeId}{a x:AV}{u v:Value}(hr:Rep μ F w a u)(hx:Rep μ F w x v)(hH:HRep μ F w H.get):QI P (do (Instr.storeAt t u v);pure .skip) (storeA P t a x) μ F w H:=λr H' ft h=>by
 unfold storeA at h
 cases a<;>try (exact(At h).elim)
 case ptr b o=>
  rcases h2:DS P t with _|n<;>rw[h2]at h
  .exact(At h).elim
  simp only at h;rcases Bz h with⟨⟨hn,hone⟩,h⟩|⟨_,h⟩
  rotate_left
  .exact(At h).elim
  obtain⟨k,H1,f1,f2,h3,h4⟩:=bind_some h;obtain⟨hk,rfl⟩:=BY h3;rcases Bz h4 with⟨⟨hst,hlen,hpu⟩,h4⟩|⟨_,h4⟩
  rotate_left
  .exact(At h4).elim
  obtain⟨_,H2,f3,f4,h5,h6⟩:=bind_some h4;have:=Hh h5;subst this;obtain⟨rfl,rfl⟩:=Au h6;simp only[Rep]at hr;obtain⟨p,hp,rfl⟩:=hr;have htup:IA x=false:=by
   cases x<;>simp only[IA]<;>simp[AV.cells,AV.one]at hone
  have hcl:=hx.cells htup;obtain⟨q1,q2,q3⟩:=Po hH hk hp hst o x.cells v.cells.toList (by omega) hcl (λhx=>by simpa[hx]using hpu);obtain⟨i,hi,hsz⟩:=CZ h2;have hlen2:=hcl.length;have hB:BRep μ F w p k:=by
   obtain⟨p',hp',hB⟩:=hH.blk b k hk;rw[hp]at hp';cases hp';exact hB
  have hrun:=run_storeCells_cells (P:=P) p.g (p.o+o) v.cells.toList 0 w (λj hj=>by
    obtain⟨⟨y,hy⟩,_⟩:=hB.there (o+j) (by have:=hB.room;omega);rw[←AvQ]at hy;rw[Awr,hy];rfl) (λj hj=>by
    have:=(hB.there (o+j) (by have:=hB.room;omega)).2;rw[←AvQ]at this;rw[Awr];exact this) (λy hy=>by
    obtain⟨j,hj,rfl⟩:=List.getElem_of_mem hy;have hj2:j<x.cells.length:=by omega
    obtain⟨u,h1,h2⟩:=hcl.get (Ω hj2);rw[Ω hj]at h1
    cases h1
    exact h2.one (AvJ.1 hone _ (AvN hj2)))
  refine⟨.skip,Go.undef,w.setCells p.g (p.o+o) v.cells.toList,?_,.inr ⟨rfl,rfl⟩,?_⟩
  .simp_all [Instr.storeAt,Instr.sureAddr,sizeOf,storeVar,typeInfo]
  .refine⟨μ,F,Hd _ _ _,?_,q2,q3,λ_ _=>rfl⟩
   rw[Gu];exact q1
theorem OB{p:Pl}{b c:Nat}(h:c≠b):(Mu.set μ b p) c=μ c:=by unfold Mu.set;rw[Ad h]
theorem Abz{k:Ab}{arr:Array Value}{t:TypeId}{fr:Nat × Nat}{ex:Bool}{b:Nat}{H1:AH}{ft:Foot}(hH:HRep μ F w H.get)(hf:B3 μ H)(h:AM.newB ⟨k,true,ex⟩ H=some (b,H1,ft))
  (hfr:arr.size<=fr.1\/fr.2=0) (hlen:k.length<=arr.size) (hc:RepList μ F w k (arr.toList.take k.length)) (hpu:ex=true->A6 k=true) :
  b=H.next/\H1.next=H.next+1/\HRep (μ.set b ⟨w.heap.size,0,arr.size⟩) F (w.alloc (.cells arr t fr)) H1.get/\Later μ (μ.set b ⟨w.heap.size,0,arr.size⟩) F F w (w.alloc (.cells arr t fr)):=by
 obtain⟨hb,hr⟩:=E1 h;simp only[Prod.mk.injEq]at hr;obtain⟨rfl,rfl,rfl⟩:=hr;obtain⟨q1,q2⟩:=Vk hH (hf _ (η _) hb) k arr t fr ex hfr hlen hc hpu;refine⟨rfl,rfl,?_,q2⟩;rw[H8];exact q1
theorem Je{k:Ab}{arr:Array Value}{t:TypeId}{fr:Nat × Nat}{ex:Bool}{b:Nat}{H1:AH}{ft:Foot}{r:AV}{u:Value}(hH:HRep μ F w H.get)(hf:B3 μ H)(h:AM.newB ⟨k,true,ex⟩ H=some (b,H1,ft))
  (hfr:arr.size<=fr.1\/fr.2=0) (hlen:k.length<=arr.size) (hc:RepList μ F w k (arr.toList.take k.length)) (hpu:ex=true->A6 k=true) (hr:Rep (μ.set b ⟨w.heap.size,0,arr.size⟩) F (w.alloc (.cells arr t fr)) r u):Post μ F w H r H1 u (w.alloc (.cells arr t fr)):=by
 obtain⟨rfl,hn,q1,q2⟩:=Abz (t:=t) (fr:=fr) hH hf h hfr hlen hc hpu;exact⟨_,F,hr,q1,q2,WStep.alloc _ _ _,λc hc=>OB (by omega)⟩
theorem D2{t:TypeId}{z:Value}(h:C0 P t=some z):∃ i,P.info? t=some i/\i.zero=some z/\z.cells.toList.all NB=true:=by
 unfold C0 at h
 cases e:P.info? t with
 |none=>simp[e]at h
 |some i=>
  simp only[e]at h
  cases e2:i.zero with
  |none=>simp[e2]at h
  |some z'=>
   simp only[e2]at h;split at h
   .grind
   .cases h
theorem SF{t:TypeId}(hH:HRep μ F w H.get)(hf:B3 μ H):ValS P (Instr.alloc t true (.tuple #[])) (allocA P t) μ F w H:=λr H' ft h=>by
 unfold allocA at h;rcases hz:C0 P t with _|z<;>rw[hz]at h
 .exact(At h).elim
 simp only at h;obtain⟨b,H1,f1,f2,h1,h2⟩:=bind_some h;obtain⟨rfl,rfl⟩:=Au h2;obtain⟨i,hi,hz2,hfl⟩:=D2 hz;refine⟨.pointer (some ⟨w.heap.size,0,none⟩),w.alloc (.cells z.cells t),?_,Je (t:=t) (fr:=(0,0)) hH hf h1 (.inr rfl) (by simp) (by rw[Av8,AwQ];exact EN μ F w _ hfl) (λh=>by cases h) ?_⟩
 .simp_all [Instr.alloc,newRow,newVar,typeInfo,zeroValue]
 .simp only[Rep]
  exact⟨_,by unfold Mu.set;rw[Ac rfl],by simp⟩
theorem WY{t:TypeId}{x:AV}{v:Value}(hx:Rep μ F w x v)(hH:HRep μ F w H.get)(hf:B3 μ H):ValS P (Instr.box t v) (boxA x) μ F w H:=λr H' ft h=>by
 unfold boxA at h;rcases Bz h with⟨_,h⟩|⟨hnt,h⟩
 .exact(At h).elim
 obtain⟨b,H1,f1,f2,h1,h2⟩:=bind_some h;obtain⟨rfl,rfl⟩:=Au h2;have hcl:=hx.cells (by simpa using hnt);have hl:=hcl.length;refine⟨.pointer (some ⟨w.heap.size,0,none⟩),w.alloc (.cells v.cells t),?_,Je (t:=t) (fr:=(0,0)) hH hf h1 (.inr rfl) (by rw[←hl,AwB];exact η _) (by rw[←hl,AwQ];exact hcl) (λh=>by cases h) ?_⟩
 .simp[Instr.box,newVar,newRow]
 .simp only[Rep]
  exact⟨_,by unfold Mu.set;rw[Ac rfl],by simp⟩
theorem O6{x:AV}{v:Value}{i:Nat}(hx:Rep μ F w x v)(hH:HRep μ F w H.get):ValS P (Instr.extract v i) (AM.opt (Lu x i)) μ F w H:=FG hH λr H' ft h=>by
 obtain⟨hg,rfl⟩:=DV h;clear h;have h:=hg;clear hg;unfold Lu at h
 cases x<;>try (cases h;done)
 case tup vs=>
  simp only[Rep]at hx;obtain⟨us,rfl,hl⟩:=hx;obtain⟨u,h1,h2⟩:=hl.get h;refine⟨rfl,u,?_,h2⟩;simp only[Axi]at h1;simp[Instr.extract,h1]
theorem RepList.sub{xs:Ab}{us:AN}(h:RepList μ F w xs us)(o n:Nat):RepList μ F w ((xs.drop o).take n) ((us.drop o).take n):=by
 have hl:=h.length;refine RepList.mk (by simp[hl]) λi x hx=>?_
 simp only[Awj,AwI]at hx ⊢;split at hx
 .rename_i hi
  obtain⟨u,h1,h2⟩:=h.get hx;exact⟨u,by rw[Ac hi];exact h1,h2⟩
 .cases hx
theorem NQ{t:TypeId}{cs:Ab}{us:Array Value}{off:Nat}{r:AV}(hl:RepList μ F w cs us.toList)(h:RZ P t cs off=some r):∃ u,(part t us off).run P w=.ok u w/\Rep μ F w r u:=by
 unfold RZ at h;rcases h1:Cn P t with _|_|_<;>rw[h1]at h
 .cases h
 .simp only at h
  obtain⟨u,h2,h3⟩:=hl.get h;simp only[Axi]at h2;exact⟨u,by simp[part,Sem.run_bind,JK h1,h2],h3⟩
 .rcases h2:DS P t with _|n<;>rw[h2]at h
  .cases h
  simp only[ξ]at h;subst h;obtain⟨i,hi,hsz⟩:=CZ h2;refine⟨.agg (us.extract off (off+n)),by simp[part,Sem.run_bind,JK h1,sizeOf,typeInfo,hi,hsz],?_⟩;simp only[Rep];refine⟨_,rfl,?_⟩;rw[Array.toList_extract,List.extract_eq_take_drop,Nat.add_sub_cancel_left];exact hl.sub off n
theorem H7{t:TypeId}{fs:Array Field}(h:CP P t=some fs):P.underlying t=some (.struct fs):=by
 grind [CP]
theorem CC{t e:TypeId}(h:Cs P t=some e):P.underlying t=some (.slice e):=by
 grind [Cs]
theorem Q7{t e:TypeId}{n:Nat}(h:QL P t=some (n,e)):P.underlying t=some (.array n e):=by
 grind [QL]
theorem S5{t:TypeId}{x:AV}{v:Value}{f:Nat}(hx:Rep μ F w x v)(hH:HRep μ F w H.get):ValS P (Instr.field t v f) (AM.opt (O7 P t x f)) μ F w H:=FG hH λr H' ft h=>by
 obtain⟨hg,rfl⟩:=DV h;clear h;have h:=hg;clear hg;unfold O7 at h
 cases x<;>try (cases h;done)
 case agg cs=>
  rcases h1:CP P t with _|fs<;>rw[h1]at h
  .cases h
  simp only at h;rcases h2:fs[f]? with _|fd<;>rw[h2]at h
  .cases h
  simp only at h;simp only[Rep]at hx;obtain⟨us,rfl,hl⟩:=hx;obtain⟨u,h3,h4⟩:=NQ (off:=fd.offset) hl h;refine⟨rfl,u,?_,h4⟩;simp[Instr.field,run_underlying (H7 h1),h2,asAgg,h3]
theorem NM{x r:AV}{v:Value}{n:Nat}(hx:Rep μ F w x v)(h:PF x n=some r):∃ g o,v=.pointer (some ⟨g,o,none⟩)/\Rep μ F w r (.pointer (some ⟨g,o+n,none⟩)):=by
 unfold PF at h
 cases x<;>try (cases h;done)
 case ptr b o=>
  simp only[ξ]at h;subst h;simp only[Rep]at hx ⊢;obtain⟨p,hp,rfl⟩:=hx;exact⟨p.g,p.o+o,rfl,p,hp,by rw[AvQ]⟩
 case lp cs=>
  simp only[ξ]at h;subst h;simp only[Rep]at hx ⊢;obtain⟨h0,g,o,rfl,hat⟩:=hx;refine⟨g,o,rfl,?_,g,o+n,rfl,hat.drop n⟩;rw[BN]at h0 ⊢;simp only[AvJ]at h0 ⊢;exact λx hx=>h0 x (AwE hx)
theorem MP{t:TypeId}{x:AV}{v:Value}{f:Nat}(hx:Rep μ F w x v)(hH:HRep μ F w H.get):ValS P (Instr.fieldAt t v f) (AM.opt (HY P t x f)) μ F w H:=FG hH λr H' ft h=>by
 obtain⟨hg,rfl⟩:=DV h;clear h;have h:=hg;clear hg;unfold HY at h;rcases h1:CP P t with _|fs<;>rw[h1]at h
 .cases h
 simp only at h;rcases h2:fs[f]? with _|fd<;>rw[h2]at h
 .cases h
 simp only at h;rcases h3:DS P fd.type with _|_|n<;>rw[h3]at h
 .cases h
 .cases h
 simp only at h;obtain⟨g,o,rfl,hr⟩:=NM hx h;obtain⟨i,hi,hsz⟩:=CZ h3;refine⟨rfl,_,?_,hr⟩;simp[Instr.fieldAt,run_underlying (H7 h1),h2,Instr.sureAddr,fieldPlace,sizeOf,typeInfo,hi,hsz,Addr.add_mid]
theorem EZ{x:AV}{v:Value}{i:Nat}(hx:Rep μ F w x v)(h:x.idx=some i):∃ k,v=.int k (i:Int):=by
 unfold AV.idx at h;split at h
 .grind [Rep]
 .cases h
theorem MT{t:TypeId}{x ix:AV}{v y:Value}{r:AV}(hx:Rep μ F w x v)(hy:Rep μ F w ix y)(h:DY P t x ix=some r):∃ u,(Instr.indexAt t v y).run P w=.ok u w/\Rep μ F w r u:=by
 unfold DY at h;rcases h1:ix.idx with _|i<;>rw[h1]at h
 .cases x<;>simp at h
 rcases h2:Cs P t with _|et<;>rw[h2]at h
 .cases x<;>simp at h
 obtain⟨k,rfl⟩:=EZ hy h1;have hu:=CC h2
 cases x<;>try (cases h;done)
 case sl b o n e=>
  simp only at h;split at h
  .rename_i hc
   obtain⟨hin,hse⟩:=hc;simp only[ξ]at h;subst h;simp only[Rep]at hx;obtain⟨p,hp,⟨hn0,_⟩|⟨q,c,rfl,hq,hnc,hcm,hroom⟩⟩:=hx
   .omega
   obtain⟨inf,hinf,hsz⟩:=CZ hse;have hq':=hq (by omega);refine⟨.pointer (some ⟨p.g,p.o+(o+i*e),none⟩),?_,by simp only[Rep];exact⟨p,hp,rfl⟩⟩;simp[Instr.indexAt,asIntOf,run_underlying hu,hin,sizeOf,typeInfo,hinf,hsz,Addr.add_mid,hq',AvQ]
  .cases h
 case ls xs=>
  simp only at h;rcases h3:xs[i]? with _|cs<;>rw[h3]at h
  .cases h
  simp only at h;split at h
  .rename_i hse
   simp only[ξ]at h;subst h;simp only[Rep]at hx;obtain⟨h0,A,c,rfl,hnc,hcm,hne⟩:=hx;have h0':A6 cs=true:=AvJ.1 h0 cs (List.mem_of_getElem? h3);have hil:i<xs.length:=(Av9.1 h3).1;obtain⟨g,o,e,rfl,hrows⟩:=hne (by rintro rfl;simp at hil);obtain⟨hce,hat⟩:=hrows.get h3;obtain⟨inf,hinf,hsz⟩:=CZ hse;refine⟨.pointer (some ⟨g,o+i*e,none⟩),?_,by simp only[Rep];exact⟨h0',g,_,rfl,hat⟩⟩;simp[Instr.indexAt,asIntOf,run_underlying hu,hil,sizeOf,typeInfo,hinf,hsz,hce,Addr.add_mid]
  .cases h
theorem ON{t:TypeId}{x ix:AV}{v y:Value}{r:AV}(hx:Rep μ F w x v)(hy:Rep μ F w ix y)(h:Lg P t x ix=some r):∃ u,(Instr.indexAt t v y).run P w=.ok u w/\Rep μ F w r u:=by
 unfold Lg at h;rcases h2:QL P t with _|⟨n,et⟩<;>rw[h2]at h
 .cases h
 rcases h1:ix.idx with _|i<;>rw[h1]at h
 .cases h
 simp only at h;rcases h3:DS P et with _|e<;>rw[h3]at h
 .cases h
 simp only at h;split at h
 .rename_i hin
  obtain⟨k,rfl⟩:=EZ hy h1;obtain⟨g,o,rfl,hr⟩:=NM hx h;obtain⟨inf,hinf,hsz⟩:=CZ h3;refine⟨_,?_,hr⟩;simp[Instr.indexAt,asIntOf,run_underlying (Q7 h2),Instr.sureAddr,hin,sizeOf,typeInfo,hinf,hsz,Addr.add_mid]
 .cases h
theorem S9{t:TypeId}{x ix:AV}{v y:Value}{r:AV}(hx:Rep μ F w x v)(hy:Rep μ F w ix y)(h:IX P t x ix=some r):∃ u,(Instr.index t v y).run P w=.ok u w/\Rep μ F w r u:=by
 unfold IX at h
 cases x<;>try (cases h;done)
 case agg cs=>
  rcases h2:QL P t with _|⟨n,et⟩<;>rw[h2]at h
  .cases h
  rcases h1:ix.idx with _|i<;>rw[h1]at h
  .cases h
  simp only at h;rcases h3:DS P et with _|e<;>rw[h3]at h
  .cases h
  simp only at h;split at h
  .rename_i hin
   obtain⟨k,rfl⟩:=EZ hy h1;simp only[Rep]at hx;obtain⟨us,rfl,hl⟩:=hx;obtain⟨u,h4,h5⟩:=NQ (off:=i*e) hl h;obtain⟨inf,hinf,hsz⟩:=CZ h3;refine⟨u,?_,h5⟩;simp[Instr.index,asIntOf,run_underlying (Q7 h2),hin,sizeOf,typeInfo,hinf,hsz,h4]
  .cases h
end
section
variable {P:Program} {μ:Mu} {F:AQ} {w:World} {H:AH}
theorem RepList.set{xs:Ab}{us:AN}(h:RepList μ F w xs us){x:AV}{u:Value}(hx:Rep μ F w x u)(i:Nat):RepList μ F w (xs.set i x) (us.set i u):=by
 refine RepList.mk (by simp[h.length]) λj y hy=>?_
 rw[List.getElem?_set]at hy ⊢
 by_cases e:i=j
 .subst e
  rw[Ac rfl]at hy ⊢;rw[h.length];split at hy
  .grind
  .cases hy
 .rw[Ad e]at hy ⊢
  exact h.get hy
theorem Mf(off:Nat):∀(vs:Ab) (us:AN) (k:Nat) (cs:Ab) (arr:Array Value),RepList μ F w vs us->RepList μ F w cs arr.toList->
  RepList μ F w ((vs.zipIdx k).foldl (λcs p=>cs.set (off+p.2) p.1) cs) ((us.zipIdx k).foldl (λ(cs:Array Value) p=>cs.setIfInBounds (off+p.2) p.1) arr).toList
 |[],us,k,cs,arr,h,hc=>by simp only[RepList]at h;subst h;exact hc
 |x::r,us,k,cs,arr,h,hc=>by
  simp only[RepList]at h;obtain⟨u,t,rfl,h1,h2⟩:=h;simp only[List.zipIdx_cons,Axu];refine Mf off r t (k+1) _ _ h2 ?_;rw[Array.toList_setIfInBounds];exact hc.set h1 _
def IL(μ:Mu)(F:AQ)(w:World):List (Nat × AV)->List (Nat × Value)->Prop
 |[],vs=>vs=[]
 |(i,x)::r,vs=>∃ v t,vs=(i,v)::t/\Rep μ F w x v/\IL μ F w r t
theorem Gs{place:Nat->Option (Nat × Nat)}:∀(ps:List (Nat × AV)) (vs:List (Nat × Value)) (cs:Ab) (arr:Array Value) {out:Ab},IL μ F w ps vs->ps.any (λp=>IA p.2)=false->RepList μ F w cs arr.toList->
  FQ place cs ps=some out->∃ arr',Instr.fill place arr vs=some arr'/\RepList μ F w out arr'.toList
 |[],vs,cs,arr,out,hp,_,hc,h=>by
  simp only[IL]at hp;subst hp;simp only[FQ,ξ]at h;subst h;exact⟨arr,rfl,hc⟩
 | (i,x)::r,vs,cs,arr,out,hp,ht,hc,h=>by
  simp only[IL]at hp;obtain⟨v,t,rfl,h1,h2⟩:=hp;simp only[List.any_cons,Bool.or_eq_false_iff]at ht;have hcl:=h1.cells ht.1;have hl:=hcl.length;rw[AwB]at hl;have hl2:=hc.length;rw[AwB]at hl2;simp only[FQ]at h;simp only[Instr.fill]
  cases e:place i with
  |none=>rw[e]at h;cases h
  |some q=>
   obtain⟨off,size⟩:=q;rw[e]at h;simp only at h ⊢;split at h
   .cases h
   .rename_i hn
    rw[Ad (by simp only[Bool.or_eq_true,decide_eq_true_eq];omega)];have:=Mf (w:=w) off x.cells v.cells.toList 0 cs arr hcl hc;refine Gs r t _ _ h2 ht.2 ?_ h;rw[←Array.foldl_toList,Array.toList_zipIdx];exact this
theorem QQ{t:TypeId}{ps:List (Nat × AV)}{vs:Array (Nat × Value)}(hp:IL μ F w ps vs.toList)(hH:HRep μ F w H.get):ValS P (Instr.build t vs) (AM.opt (Om P t ps)) μ F w H:=FG hH λr H' ft h=>by
 obtain⟨hg,rfl⟩:=DV h;unfold Om at hg;rcases h1:C0 P t with _|z<;>rw[h1]at hg
 .cases hg
 rcases h2:CP P t with _|fs<;>rw[h2]at hg
 .cases hg
 simp only at hg;rcases h3:JF P fs.toList with _|pl<;>rw[h3]at hg
 .cases hg
 simp only at hg;split at hg
 .cases hg
 .rename_i ht
  rcases h4:FQ (λx=>pl[x]?) (z.cells.toList.map .v) ps with _|out<;>rw[h4]at hg
  .cases hg
  simp only[AvP,ξ]at hg;subst hg;obtain⟨i,hi,hz,hfl⟩:=D2 h1;obtain⟨arr',h5,h6⟩:=Gs ps vs.toList _ z.cells hp (by simpa using ht) (EN μ F w _ hfl) h4;refine⟨rfl,.agg arr',?_,by simp only[Rep];exact⟨arr',rfl,h6⟩⟩;refine run_build w t vs arr' ?_;unfold Program.built;unfold JF at h3;simp only[hi,H7 h2,hz,h3];simpa using h5
theorem WV{t e:TypeId}(h:OO P t=some e):∃ n,P.underlying t=some (.array n e):=by
 grind [OO]
theorem QP{t:TypeId}{ps:List (Nat × AV)}{vs:Array (Nat × Value)}(hp:IL μ F w ps vs.toList)(hH:HRep μ F w H.get):ValS P (Instr.build t vs) (AM.opt (Ol P t ps)) μ F w H:=FG hH λr H' ft h=>by
 obtain⟨hg,rfl⟩:=DV h;unfold Ol at hg;rcases h1:C0 P t with _|z<;>rw[h1]at hg
 .cases hg
 rcases h2:OO P t with _|et<;>rw[h2]at hg
 .cases hg
 simp only at hg;rcases h3:DS P et with _|e<;>rw[h3]at hg
 .cases hg
 simp only at hg;split at hg
 .cases hg
 .rename_i ht
  rcases h4:FQ (λi=>some (i*e,e)) (z.cells.toList.map .v) ps with _|out<;>rw[h4]at hg
  .cases hg
  simp only[AvP,ξ]at hg;subst hg;obtain⟨i,hi,hz,hfl⟩:=D2 h1;obtain⟨n,hu⟩:=WV h2;obtain⟨ie,hie,hsz⟩:=CZ h3;subst hsz;obtain⟨arr',h5,h6⟩:=Gs ps vs.toList _ z.cells hp (by simpa using ht) (EN μ F w _ hfl) h4;refine⟨rfl,.agg arr',?_,by simp only[Rep];exact⟨arr',rfl,h6⟩⟩;refine run_build w t vs arr' ?_;unfold Program.built;simp only[hi,hu,hz,hie];exact h5
theorem SM{t:TypeId}{ps:List (Nat × AV)}{vs:Array (Nat × Value)}(hp:IL μ F w ps vs.toList)(hH:HRep μ F w H.get):ValS P (Instr.build t vs) (AM.opt (Kw P t ps)) μ F w H:=by
 grind [Kw,QP,QQ]
theorem GJ(z:Array Value)(n:Nat)(hz:z.toList.all NB=true):RepList μ F w (Cr (z.toList.map .v) n) ((Axx n).map (λi=>z[i % z.size]!)).toList:=by
 unfold Cr;refine RepList.mk (by rw[AwB,Array.size_map,Array.size_range,Av8,AxN]) λi x hx=>?_
 have hi:i<n:=by have:=(Av9.1 hx).1;simpa using this
 simp only[AwC,List.getElem?_range hi,AvP,ξ,Av8,AwB]at hx;refine⟨z[i % z.size]!,by simp[hi],?_⟩;subst hx
 by_cases h:i % z.size<z.size
 .grind [Rep]
 .rw[Axi,AwF (by omega)]
  simp only[Option.map_none,Option.getD_none,Rep];exact⟨by simp[h],rfl⟩
theorem Ja(z:AN)(n:Nat):A6 (Cr (z.map .v) n)=true:=by
 rw[BN,AvJ];intro x hx;unfold Cr at hx;simp only[List.mem_map,Av8,AwC]at hx;obtain⟨i,_,rfl⟩:=hx
 cases z[i % z.length]?<;>rfl
theorem Lm{t:TypeId}{n:Nat}{ps:List (Nat × AV)}{vs:Array (Nat × Value)}(hp:IL μ F w ps vs.toList)(hH:HRep μ F w H.get)(hf:B3 μ H):ValS P (Instr.buildSlice t n vs) (buildSliceA P t n ps) μ F w H:=λr H' ft h=>by
 unfold buildSliceA at h;rcases h1:Cs P t with _|et<;>rw[h1]at h
 .exact(At h).elim
 simp only at h;rcases h2:DS P et with _|e<;>rw[h2]at h
 .exact(At h).elim
 rcases h3:C0 P et with _|z<;>rw[h3]at h
 .exact(At h).elim
 simp only at h;rcases Bz h with⟨⟨c1,c2,c3⟩,h⟩|⟨_,h⟩
 rotate_left
 .exact(At h).elim
 rcases h4:FQ (λi=>some (i*e,e)) (Cr (z.cells.toList.map .v) (n*e)) ps with _|cs<;>rw[h4]at h
 .exact(At h).elim
 simp only at h;obtain⟨ex,hpu,h⟩:∃ ex:Bool,(ex=true->A6 cs=true)/\((AM.newB ⟨cs,true,ex⟩).bind λb=>AM.ret (.sl b 0 n e)) H=some (r,H',ft):=by
  grind
 obtain⟨b,H1,f1,f2,h5,h6⟩:=bind_some h;obtain⟨rfl,rfl⟩:=Au h6;obtain⟨i,hi,hz,hfl⟩:=D2 h3;obtain⟨i',hi',hsz⟩:=CZ h2;rw[hi]at hi'
 cases hi'
 obtain⟨arr',h7,h8⟩:=Gs ps vs.toList _ _ hp c3 (GJ z.cells (n*e) hfl) h4;have hl:=h8.length;rw[AwB]at hl;have hlen:∀(ps:List (Nat × AV)) (cs out:Ab),FQ (λi=>some (i*e,e)) cs ps=some out->out.length=cs.length:=by
  intro ps
  induction ps with
  |nil=>intro cs out h;simp only[FQ,ξ]at h;rw[h]
  |cons p r ih=>
   intro cs out h;obtain⟨j,x⟩:=p;simp only[FQ]at h;split at h
   .cases h
   .have:=ih _ _ h
    rw[this];unfold AgR;have gen:∀(l:List (AV × Nat)) (cs:Ab),(l.foldl (λcs p=>cs.set (j*e+p.2) p.1) cs).length=cs.length:=by
     intro l
     induction l with
     |nil=>intro cs;rfl
     |cons q l ih=>intro cs;simp only[Axu];rw[ih];simp
    exact gen _ _
 have hcs:=hlen _ _ _ h4;have hcs2:cs.length=n*e:=by rw[hcs];unfold Cr;rw[Av8,AxN]
 refine⟨.slice (some ⟨w.heap.size,0,none⟩) n n,w.alloc (.cells arr' et),?_,Je (t:=et) (fr:=(0,0)) hH hf h5 (.inr rfl) (by omega) (by rw[←AwB,h8.length]at hl;rw[←h8.length,AwQ];exact h8) hpu ?_⟩
 .have hbig:¬ (n*i.size > 2 ^ 24):=by rw[hsz];omega
  subst hsz
  by_cases h0:n*i.size=0
  .simp[Instr.buildSlice,run_underlying (CC h1),sizeOf,typeInfo,hi,h0,newRow]
   have:Instr.fill (λj=>some (j*i.size,i.size)) #[] vs.toList=some arr':=by
    grind
   rw[show (Array.map (λ_=>(default:Value)) (Axx 0))=#[] from by rw[Array.range_zero'];simp,this];rfl
  .simp[Instr.buildSlice,run_underlying (CC h1),sizeOf,typeInfo,zeroValue,hi,hz,h0,newRow]
   rw[Ad (by omega)];rw[h7];rfl
 .simp only[Rep]
  exact⟨_,by unfold Mu.set;rw[Ac rfl],.inr ⟨0,n,rfl,λ_=>rfl,η _,c2,by simp only;omega⟩⟩
theorem M2{t:TypeId}{l c:AV}{vl vc:Value}(hl:Rep μ F w l vl)(hc:Rep μ F w c vc)(hH:HRep μ F w H.get)(hf:B3 μ H):ValS P (Instr.makeSlice t vl vc) (makeSliceA P t l c) μ F w H:=λr H' ft h=>by
 unfold makeSliceA at h;rcases h1:Cs P t with _|et<;>rw[h1]at h
 .exact(At h).elim
 rcases h2:l.idx with _|n<;>rw[h2]at h
 .exact(At h).elim
 rcases h3:c.idx with _|m<;>rw[h3]at h
 .exact(At h).elim
 simp only at h;rcases h4:P.info? et with _|i<;>rw[h4]at h
 .exact(At h).elim
 simp only at h;rcases h5:C0 P et with _|z<;>rw[h5]at h
 .exact(At h).elim
 simp only at h;rcases Bz h with⟨⟨c1,c2,c3,c4,c5⟩,h⟩|⟨_,h⟩
 rotate_left
 .exact(At h).elim
 obtain⟨b,H1,f1,f2,h6,h7⟩:=bind_some h;obtain⟨rfl,rfl⟩:=Au h7;obtain⟨k1,rfl⟩:=EZ hl h2;obtain⟨k2,rfl⟩:=EZ hc h3;obtain⟨i',hi',hz,hfl⟩:=D2 h5;rw[h4]at hi'
 cases hi'
 have hm63:(m:Int)<=9223372036854775807:=by have:=c3;simp only[maxLen]at this;omega
 have hrun:=run_make (P:=P) w t et i z (CC h1) h4 hz k1 k2 (n:Int) (m:Int) (by omega) (by omega) (by
  have:i.bytes*m<=281474976710656:=by rw[Nat.mul_comm];omega
  have h9:=Int.ofNat_le.2 this;rw[Int.natCast_mul]at h9;exact h9) hm63
 simp only[Int.toNat_natCast]at hrun;have hle:n*i.size<=m*i.size:=Nat.mul_le_mul_right _ c1;refine⟨_,_,hrun,Je (t:=et) (fr:=(0,0)) hH hf h6 (.inr rfl) (by rw[size_madeCells];unfold Cr;rw[Av8,AxN];exact hle) ?_ (λ_=>Ja _ _) ?_⟩
 .have:=GJ (μ:=μ) (F:=F) (w:=w) z.cells (m*i.size) hfl
  have h9:=this.sub 0 (n*i.size);simp only[List.drop_zero]at h9;have hlz:(Cr (z.cells.toList.map .v) (n*i.size)).length=n*i.size:=by unfold Cr;rw[Av8,AxN]
  rw[hlz];have e1:(Cr (z.cells.toList.map .v) (m*i.size)).take (n*i.size)=Cr (z.cells.toList.map .v) (n*i.size):=by
   unfold Cr;rw[←List.map_take,List.take_range,Nat.min_eq_left hle]
  rw[e1]at h9;exact h9
 .simp only[Rep]
  exact⟨_,by unfold Mu.set;rw[Ac rfl],.inr ⟨0,m,rfl,λ_=>rfl,c1,c3,by simp only[size_madeCells];omega⟩⟩
theorem Ani{n i:Nat}{o:Option AV}{v:Option Value}(hr:match o,v with|some x,some y=>Rep μ F w x y|none,none=>True|_,_=>False)(h:EL n o=some i) :
  (o=none/\v=none/\i=n)\/(∃ k,v=some (.int k (i:Int))/\o.isSome=true):=by
 cases o with
 |none=>
  cases v with
  |none=>simp only[EL,ξ]at h;exact .inl ⟨rfl,rfl,h.symm⟩
  |some y=>exact hr.elim
 |some x=>
  cases v with
  |none=>exact hr.elim
  |some y=>
   obtain⟨k,rfl⟩:=EZ hr h;exact .inr ⟨k,rfl,rfl⟩
theorem RepRows.sub{g e:Nat}{xs:List Ab}{o:Nat}(h:RepRows μ F w g e xs o)(l k:Nat):RepRows μ F w g e ((xs.take k).drop l) (o+l*e):=
 RepRows.mk λi x hx=>by
  simp only[AwI,Awj]at hx;split at hx
  .have:=h.get hx
   rwa [Aws,←AvQ]at this
  .cases hx
theorem En{v:Value}{k:IntKind}{i n:Nat}{c:BoundsCode}(hv:v=.int k (i:Int))(h:i<=n):(Instr.sliceBound v n c).run P w=.ok i w:=by
 simp_all [Instr.sliceBound,asIntOf]
def AhH(μ:Mu)(F:AQ)(w:World):Option AV->Option Value->Prop
 |none,none=>True
 |some x,some y=>Rep μ F w x y
 |_,_=>False
theorem DM{n i:Nat}{o:Option AV}{v:Option Value}(hr:AhH μ F w o v)(h:EL n o=some i) :
  (v=none/\i=n)\/(∃ k,v=some (.int k (i:Int))):=by
 cases o with
 |none=>
  cases v with
  |none=>simp only[EL,ξ]at h;exact .inl ⟨rfl,h.symm⟩
  |some y=>exact hr.elim
 |some x=>
  cases v with
  |none=>exact hr.elim
  |some y=>
   obtain⟨k,rfl⟩:=EZ hr h;exact .inr ⟨k,rfl⟩
theorem KY{len cap l h:Nat}{lo hi:Option Value}(hlo:(lo=none/\l=0)\/∃ k,lo=some (.int k (l:Int)))(hhi:(hi=none/\h=len)\/∃ k,hi=some (.int k (h:Int)))(h1:l<=h)(h2:h<=cap) :
  (Instr.sliceBounds true len cap lo hi none).run P w=.ok (l,h,cap) w:=by
 rcases hlo with⟨rfl,rfl⟩|⟨k,rfl⟩<;>rcases hhi with⟨rfl,rfl⟩|⟨k',rfl⟩
 .simp[Instr.sliceBounds]
 .simp[Instr.sliceBounds,En rfl h2]
 .simp[Instr.sliceBounds,En rfl h1]
 .simp[Instr.sliceBounds,En rfl h1,En rfl h2]
theorem TQ{t:TypeId}{x:AV}{v:Value}{lo hi:Option AV}{vlo vhi:Option Value}{r:AV}(hx:Rep μ F w x v)(hlo:AhH μ F w lo vlo)(hhi:AhH μ F w hi vhi)(h:K6 P t x lo hi=some r) :
  ∃ u,(Instr.sliceAt t v vlo vhi none).run P w=.ok u w/\Rep μ F w r u:=by
 unfold K6 at h;rcases h1:Cs P t with _|et<;>rw[h1]at h
 .cases x<;>simp at h
 have hu:=CC h1
 cases x<;>try (cases h;done)
 case sl b o n e=>
  simp only at h;rcases h2:EL 0 lo with _|l<;>rw[h2]at h
  .cases h
  rcases h3:EL n hi with _|hh<;>rw[h3]at h
  .cases h
  simp only at h;split at h
  .rename_i hc
   obtain⟨c1,c2,c3⟩:=hc;simp only[ξ]at h;subst h;simp only[Rep]at hx;obtain⟨p,hp,⟨hn0,rfl⟩|⟨q,c,rfl,hq,hnc,hcm,hroom⟩⟩:=hx
   .subst hn0
    obtain⟨inf,hinf,hsz⟩:=CZ c3;have hl0:l=0:=by omega
    have hh0:hh=0:=by omega
    subst hl0 hh0;have hb:=KY (P:=P) (w:=w) (len:=0) (cap:=0) (DM hlo h2) (DM hhi h3) c1 (by omega);refine⟨.slice none 0 0,by simp[Instr.sliceAt,Instr.slice,run_underlying hu,hb,sizeOf,typeInfo,hinf],?_⟩;simp only[Rep];exact⟨p,hp,.inl ⟨by simp,trivial⟩⟩
   obtain⟨inf,hinf,hsz⟩:=CZ c3;have hb:=KY (P:=P) (w:=w) (len:=n) (cap:=c) (DM hlo h2) (DM hhi h3) c1 (by omega);refine⟨.slice (some (if c=l then ⟨p.g,q,none⟩ else ⟨p.g,q+l*e,none⟩)) (hh-l) (c-l),?_,?_⟩
   .by_cases hcl:c=l
    .simp_all [Instr.slice,Instr.sliceAt,sizeOf,typeInfo,run_underlying]
    .simp_all [Instr.slice,Instr.sliceAt,sizeOf,typeInfo,Addr.add_mid,run_underlying]
   .simp only[Rep]
    refine⟨p,hp,.inr ⟨if c=l then q else q+l*e,c-l,by split<;>rfl,λhne=>?_,by omega,by omega,?_⟩⟩
    .grind
    .have:(c-l)*e+l*e=c*e:=by rw[←Aws];congr 1;omega
     omega
  .cases h
 case ls xs=>
  simp only at h;rcases h2:EL 0 lo with _|l<;>rw[h2]at h
  .cases h
  rcases h3:EL xs.length hi with _|hh<;>rw[h3]at h
  .cases h
  simp only at h;split at h
  .rename_i hc
   obtain⟨c1,c2,c4,c3⟩:=hc;simp only[ξ]at h;subst h;simp only[Rep]at hx;obtain⟨h0,A,c,rfl,hnc,hcm,hne⟩:=hx;have hb:=KY (P:=P) (w:=w) (len:=xs.length) (cap:=c) (DM hlo h2) (DM hhi h3) c1 (by omega);have hl2:((xs.take hh).drop l).length=hh-l:=by simp;omega
   cases hin:P.info? et with
   |none=>simp[DS,hin]at c4
   |some inf=>
   refine⟨.slice (if c=l then A else A.map (·.add (l*inf.size))) (hh-l) (c-l),?_,?_⟩
   .simp_all [Instr.slice,Instr.sliceAt,sizeOf,typeInfo,run_underlying]
   .simp only[Rep,hl2]
    refine⟨AvJ.2 λx hx=>AvJ.1 h0 x (AwZ (AwE hx)),_,c-l,rfl,by omega,by omega,λhne2=>?_⟩;have hpos:0<hh-l:=by rw[←hl2];exact List.length_pos_iff.2 hne2
    obtain⟨g,o,e,rfl,hrows⟩:=hne (by rintro rfl;simp at c2;omega);have he:inf.size=e:=by
     have h0:0<xs.length:=by omega
     have h4:=hrows.get (Ω h0);have h5:=AvJ.1 c3 _ (AvN h0);simp only[DS,hin,AvP,beq_iff_eq,ξ]at h5;rw[h5,h4.1]
    refine⟨g,o+l*e,e,?_,hrows.sub l hh⟩;rw[Ad (by omega),he];simp[Addr.add_mid]
  .cases h
theorem XX{t:TypeId}{ty:TypeId}{x:AV}{v:Value}{r:AV}(hx:Rep μ F w x v)(ht:Df P t=true)(h:AiF x=some r):∃ u,(Builtin.len_ #[t] ty #[v]).run P w=.ok u w/\Rep μ F w r u:=by
 obtain⟨e,hu⟩:∃ e,P.underlying t=some (.slice e):=by
  grind [Df]
 unfold AiF at h
 cases x<;>try (cases h;done)
 case sl b o n e'=>
  simp only[ξ]at h;subst h;simp only[Rep]at hx;obtain⟨p,hp,⟨rfl,rfl⟩|⟨q,c,rfl,_⟩⟩:=hx
  .exact⟨.int .i64 0,by simp[Builtin.len_,run_underlying hu,goInt],by simp only[Rep];exact⟨rfl,rfl⟩⟩
  .exact⟨.int .i64 n,by simp[Builtin.len_,run_underlying hu,goInt],by simp only[Rep];exact⟨trivial,rfl⟩⟩
 case ls xs=>
  simp only[ξ]at h;subst h;simp only[Rep]at hx;obtain⟨_,A,c,rfl,_⟩:=hx;exact⟨.int .i64 xs.length,by simp[Builtin.len_,run_underlying hu,goInt],by simp only[Rep];exact⟨trivial,rfl⟩⟩
end
end Go.Proofs.YtlmhajfbpplpoaaGreat
