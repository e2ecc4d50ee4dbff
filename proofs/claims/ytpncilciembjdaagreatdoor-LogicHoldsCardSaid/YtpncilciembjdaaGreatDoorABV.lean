/-
  What an argument reads as (XBase's D), as a value of the small heap. No program in sight.
-/
import Derived.Test.YtpncilciembjdaaGreatDoorAAN
import Derived.Test.YtpncilciembjdaaGreatDoorAAV
set_option linter.unusedSectionVars false
set_option linter.unusedSimpArgs false
set_option linter.unusedVariables false
namespace Go.Proofs.YtpncilciembjdaaGreatDoor
open Go.RowKit
set_option linter.unusedSectionVars false

mutual
def D.av:D->List AV
 |.int k n=>[.v (.int k n)]
 |.bool b=>[.v (.bool b)]
 |.str s=>[.v (.string s)]
 |.slice _ xs=>[.ls (avRows xs)]
 |.agg xs=>avCat xs
def avRows:List D->List (List AV)
 |[]=>[]
 |x::r=>x.av::avRows r
def avCat:List D->List AV
 |[]=>[]
 |x::r=>x.av++avCat r
end
theorem avRows_len:∀ xs:List D,(avRows xs).length=xs.length
 |[]=>rfl
 |x::r=>by rw[avRows,List.length_cons,avRows_len r,List.length_cons]
theorem avRows_map:∀ xs:List D,avRows xs=xs.map D.av
 |[]=>rfl
 |x::r=>by rw[avRows,avRows_map r];rfl
theorem noidL_two:∀(a b:List AV),noidL a=true->noidL b=true->noidL (a++b)=true
 |[],_,_,hb=>hb
 |x::a,b,ha,hb=>by
  rw[List.cons_append]
  rw[noidL,Bool.and_eq_true]at ha ⊢
  exact⟨ha.1,noidL_two a b ha.2 hb⟩
mutual
theorem av_noid:∀ x:D,noidL x.av=true
 |.int _ _=>rfl
 |.bool _=>rfl
 |.str _=>rfl
 |.slice _ _=>rfl
 |.agg xs=>by rw[D.av];exact avCat_noid xs
theorem avCat_noid:∀ xs:List D,noidL (avCat xs)=true
 |[]=>rfl
 |x::r=>by rw[avCat];exact noidL_two _ _ (av_noid x) (avCat_noid r)
end
theorem avRows_noid:∀ xs:List D,noidR (avRows xs)=true
 |[]=>rfl
 |x::r=>by
  rw[avRows]
  have ih:=avRows_noid r
  unfold noidR at ih ⊢
  rw[List.all_cons,av_noid x,ih]
  rfl
section
variable {μ:Mu} {F:Prot} {w:World}
theorem repList_two:∀(a b:List AV) (us ts:List Value),RepList μ F w a us->RepList μ F w b ts->RepList μ F w (a++b) (us++ts)
 |[],b,us,ts,ha,hb=>by
  rw[RepList]at ha
  subst ha
  exact hb
 |x::a,b,us,ts,ha,hb=>by
  rw[RepList]at ha
  obtain⟨u,t,rfl,h1,h2⟩:=ha
  rw[List.cons_append,List.cons_append,RepList]
  exact⟨u,t++ts,rfl,h1,repList_two a b t ts h2 hb⟩
theorem repList_one{x:AV}{u:Value}(h:Rep μ F w x u):RepList μ F w [x] [u]:=by
 rw[RepList]
 exact⟨u,[],rfl,h,by rw[RepList]⟩
theorem repAt_of{g:Nat}(hF:∀ o,F g o):∀(a:List AV) (us:List Value) (o:Nat),RepList μ F w a us->(∀ j u,us[j]? = some u->w.cell? ⟨g,o+j,none⟩=some u)->RepAt μ F w g a o
 |[],us,o,_,_=>by rw[RepAt];trivial
 |x::a,us,o,h,hc=>by
  rw[RepList]at h
  obtain⟨u,t,rfl,h1,h2⟩:=h
  rw[RepAt]
  refine⟨⟨hF o,u,hc 0 u rfl,h1⟩,repAt_of hF a t (o+1) h2 fun j v hj=>?_⟩
  have:=hc (j+1) v hj
  rwa [show o+(j+1)=o+1+j by omega]at this
theorem repList_len:∀(a:List AV) (us:List Value),RepList μ F w a us->a.length=us.length
 |[],us,h=>by rw[RepList]at h;rw[h];rfl
 |x::a,us,h=>by
  rw[RepList]at h
  obtain⟨u,t,rfl,h1,h2⟩:=h
  rw[List.length_cons,List.length_cons,repList_len a t h2]
variable {S:Nat->Prop} (hS:∀ g,S g->∀ o,F g o)
include hS
mutual
theorem is_rep:∀(x:D) (cs:List Value),D.Is w S x cs->RepList μ F w x.av cs
 |.int k n,cs,h=>by
  rw[D.Is]at h
  subst h
  exact repList_one (by rw[Rep];exact⟨rfl,rfl⟩)
 |.bool b,cs,h=>by
  rw[D.Is]at h
  subst h
  exact repList_one (by rw[Rep];exact⟨rfl,rfl⟩)
 |.str s,cs,h=>by
  rw[D.Is]at h
  obtain⟨rfl,hs⟩:=h
  exact repList_one (by rw[Rep];exact⟨rfl,rfl⟩)
 |.slice e xs,cs,h=>by
  rw[D.Is]at h
  obtain⟨A,c,rfl,h1,h2,h3⟩:=h
  rw[D.av]
  refine repList_one ?_
  rw[Rep]
  refine⟨avRows_noid xs,A,c,by rw[avRows_len],by rw[avRows_len];exact h1,h2,fun hne=>?_⟩
  obtain⟨b,o,hA,hb,hr⟩:=h3 (by rintro rfl;exact hne rfl)
  exact⟨b,o,e,hA,row_rep b hb xs o hr⟩
 |.agg xs,cs,h=>by
  rw[D.Is]at h
  rw[D.av]
  exact cat_rep xs cs h
theorem row_rep{e:Nat}(b:Nat)(hb:S b):∀(xs:List D) (o:Nat),D.Row w S e b xs o->RepRows μ F w b e (avRows xs) o
 |[],o,_=>by rw[avRows,RepRows];trivial
 |x::r,o,h=>by
  rw[D.Row]at h
  obtain⟨⟨cs,h1,h2,h3⟩,h4⟩:=h
  have g:=is_rep x cs h3
  rw[avRows,RepRows]
  exact⟨by rw[repList_len _ _ g,h1],repAt_of (hS b hb) _ _ _ g h2,row_rep b hb r (o+e) h4⟩
theorem cat_rep:∀(xs:List D) (cs:List Value),D.Cat w S xs cs->RepList μ F w (avCat xs) cs
 |[],cs,h=>by
  rw[D.Cat]at h
  subst h
  rw[avCat,RepList]
 |x::r,cs,h=>by
  rw[D.Cat]at h
  obtain⟨c1,c2,rfl,h1,h2⟩:=h
  rw[avCat]
  exact repList_two _ _ _ _ (is_rep x c1 h1) (cat_rep r c2 h2)
end
end
end Go.Proofs.YtpncilciembjdaaGreatDoor
