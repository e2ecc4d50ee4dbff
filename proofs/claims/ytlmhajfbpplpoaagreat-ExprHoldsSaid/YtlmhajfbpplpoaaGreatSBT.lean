/- What an argument reads as (XBase's D), as a value -/
import Derived.Test.YtlmhajfbpplpoaaGreatSAR
import Derived.Test.YtlmhajfbpplpoaaGreatSAB
set_option linter.unusedSectionVars false
set_option linter.unusedSimpArgs false
set_option linter.unusedVariables false
namespace Go.Proofs.YtlmhajfbpplpoaaGreat
open Go.RowKit
set_option linter.unusedSectionVars false
mutual
def D.av:D->List AV
 |.int k n=>[.v (.int k n)]
 |.bool b=>[.v (.bool b)]
 |.str s=>[.v (.string s)]
 |.slice _ xs=>[.ls (EU xs)]
 |.agg xs=>Jq xs
def EU:List D->List (List AV)
 |[]=>[]
 |x::r=>x.av::EU r
def Jq:List D->List AV
 |[]=>[]
 |x::r=>x.av++Jq r
end
theorem IS:∀ xs:List D,(EU xs).length=xs.length
 |[]=>rfl
 |x::r=>by rw[EU,List.length_cons,IS r,List.length_cons]
theorem D4:∀ xs:List D,EU xs=xs.map D.av
 |[]=>rfl
 |x::r=>by rw[EU,D4 r];rfl
theorem Pc:∀(a b:List AV),A8 a=true->A8 b=true->A8 (a++b)=true
 |[],_,_,hb=>hb
 |x::a,b,ha,hb=>by
  rw[List.cons_append]
  rw[A8,Bool.and_eq_true]at ha ⊢
  exact⟨ha.1,Pc a b ha.2 hb⟩
mutual
theorem UH:∀ x:D,A8 x.av=true
 |.int _ _=>rfl
 |.bool _=>rfl
 |.str _=>rfl
 |.slice _ _=>rfl
 |.agg xs=>by rw[D.av];exact MA xs
theorem MA:∀ xs:List D,A8 (Jq xs)=true
 |[]=>rfl
 |x::r=>by rw[Jq];exact Pc _ _ (UH x) (MA r)
end
theorem Lm:∀ xs:List D,Hq (EU xs)=true
 |[]=>rfl
 |x::r=>by
  rw[EU]
  have ih:=Lm r
  unfold Hq at ih ⊢
  rw[List.all_cons,UH x,ih]
  rfl
section
variable {μ:Mu} {F:AT} {w:World}
theorem LK:∀(a b:List AV) (us ts:List Value),RepList μ F w a us->RepList μ F w b ts->RepList μ F w (a++b) (us++ts)
 |[],b,us,ts,ha,hb=>by
  rw[RepList]at ha
  subst ha
  exact hb
 |x::a,b,us,ts,ha,hb=>by
  rw[RepList]at ha
  obtain⟨u,t,rfl,h1,h2⟩:=ha
  rw[List.cons_append,List.cons_append,RepList]
  exact⟨u,t++ts,rfl,h1,LK a b t ts h2 hb⟩
theorem Fy{x:AV}{u:Value}(h:Rep μ F w x u):RepList μ F w [x] [u]:=by
 rw[RepList]
 exact⟨u,[],rfl,h,by rw[RepList]⟩
theorem Su{g:Nat}(hF:∀ o,F g o):∀(a:List AV) (us:List Value) (o:Nat),RepList μ F w a us->(∀ j u,us[j]? = some u->w.cell? ⟨g,o+j,none⟩=some u)->RepAt μ F w g a o
 |[],us,o,_,_=>by rw[RepAt];trivial
 |x::a,us,o,h,hc=>by
  rw[RepList]at h
  obtain⟨u,t,rfl,h1,h2⟩:=h
  rw[RepAt]
  refine⟨⟨hF o,u,hc 0 u rfl,h1⟩,Su hF a t (o+1) h2 fun j v hj=>?_⟩
  have:=hc (j+1) v hj
  rwa [show o+(j+1)=o+1+j by omega]at this
theorem LJ:∀(a:List AV) (us:List Value),RepList μ F w a us->a.length=us.length
 |[],us,h=>by rw[RepList]at h;rw[h];rfl
 |x::a,us,h=>by
  rw[RepList]at h
  obtain⟨u,t,rfl,h1,h2⟩:=h
  rw[List.length_cons,List.length_cons,LJ a t h2]
variable {S:Nat->Prop} (hS:∀ g,S g->∀ o,F g o)
include hS
mutual
theorem Nj:∀(x:D) (cs:List Value),D.Is w S x cs->RepList μ F w x.av cs
 |.int k n,cs,h=>by
  rw[D.Is]at h
  subst h
  exact Fy (by rw[Rep];exact⟨rfl,rfl⟩)
 |.bool b,cs,h=>by
  rw[D.Is]at h
  subst h
  exact Fy (by rw[Rep];exact⟨rfl,rfl⟩)
 |.str s,cs,h=>by
  rw[D.Is]at h
  obtain⟨rfl,hs⟩:=h
  exact Fy (by rw[Rep];exact⟨rfl,rfl⟩)
 |.slice e xs,cs,h=>by
  rw[D.Is]at h
  obtain⟨A,c,rfl,h1,h2,h3⟩:=h
  rw[D.av]
  refine Fy ?_
  rw[Rep]
  refine⟨Lm xs,A,c,by rw[IS],by rw[IS];exact h1,h2,fun hne=>?_⟩
  obtain⟨b,o,hA,hb,hr⟩:=h3 (by rintro rfl;exact hne rfl)
  exact⟨b,o,e,hA,VE b hb xs o hr⟩
 |.agg xs,cs,h=>by
  rw[D.Is]at h
  rw[D.av]
  exact UL xs cs h
theorem VE{e:Nat}(b:Nat)(hb:S b):∀(xs:List D) (o:Nat),D.Row w S e b xs o->RepRows μ F w b e (EU xs) o
 |[],o,_=>by rw[EU,RepRows];trivial
 |x::r,o,h=>by
  rw[D.Row]at h
  obtain⟨⟨cs,h1,h2,h3⟩,h4⟩:=h
  have g:=Nj x cs h3
  rw[EU,RepRows]
  exact⟨by rw[LJ _ _ g,h1],Su (hS b hb) _ _ _ g h2,VE b hb r (o+e) h4⟩
theorem UL:∀(xs:List D) (cs:List Value),D.Cat w S xs cs->RepList μ F w (Jq xs) cs
 |[],cs,h=>by
  rw[D.Cat]at h
  subst h
  rw[Jq,RepList]
 |x::r,cs,h=>by
  rw[D.Cat]at h
  obtain⟨c1,c2,rfl,h1,h2⟩:=h
  rw[Jq]
  exact LK _ _ _ _ (Nj x c1 h1) (UL r c2 h2)
end
end
end Go.Proofs.YtlmhajfbpplpoaaGreat
