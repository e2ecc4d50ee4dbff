/- What an argument reads a -/
import Derived.Test.YtlmhajfbpplpoaaGreatOAR
import Derived.Test.YtlmhajfbpplpoaaGreatOAB
set_option linter.all false
open List renaming cons_append->AqN,length_cons->Apw
namespace Go.Proofs.YtlmhajfbpplpoaaGreat
open Go.RowKit
set_option linter.unusedSectionVars false
mutual
def D.av:D->List AV
 |.int k n=>[.v (.int k n)]
 |.bool b=>[.v (.bool b)]
 |.str s=>[.v (.string s)]
 |.slice _ xs=>[.ls (EQ xs)]
 |.agg xs=>JM xs
def EQ:List D->List (List AV)
 |[]=>[]
 |x::r=>x.av::EQ r
def JM:List D->List AV
 |[]=>[]
 |x::r=>x.av++JM r
end
theorem Je:∀ xs:List D,(EQ xs).length=xs.length
 |[]=>rfl
 |x::r=>by rw[EQ,Apw,Je r,Apw]
theorem ER:∀ xs:List D,EQ xs=xs.map D.av
 |[]=>rfl
 |x::r=>by rw[EQ,ER r];rfl
theorem PW:∀(a b:List AV),AW a=true->AW b=true->AW (a++b)=true
 |[],_,_,hb=>hb
 |x::a,b,ha,hb=>by
  rw[AqN];rw[AW,Bool.and_eq_true]at ha ⊢;exact⟨ha.1,PW a b ha.2 hb⟩
mutual
theorem VK:∀ x:D,AW x.av=true
 |.int _ _=>rfl
 |.bool _=>rfl
 |.str _=>rfl
 |.slice _ _=>rfl
 |.agg xs=>by rw[D.av];exact Nb xs
theorem Nb:∀ xs:List D,AW (JM xs)=true
 |[]=>rfl
 |x::r=>by rw[JM];exact PW _ _ (VK x) (Nb r)
end
theorem LO:∀ xs:List D,HS (EQ xs)=true
 |[]=>rfl
 |x::r=>by
  rw[EQ];have ih:=LO r;unfold HS at ih ⊢;rw[List.all_cons,VK x,ih];rfl
section
variable {μ:Mu} {F:AG} {w:World}
theorem Mg:∀(a b:List AV) (us ts:List Value),RepList μ F w a us->RepList μ F w b ts->RepList μ F w (a++b) (us++ts)
 |[],b,us,ts,ha,hb=>by
  rw[RepList]at ha;subst ha;exact hb
 |x::a,b,us,ts,ha,hb=>by
  rw[RepList]at ha;obtain⟨u,t,rfl,h1,h2⟩:=ha;rw[AqN,AqN,RepList];exact⟨u,t++ts,rfl,h1,Mg a b t ts h2 hb⟩
theorem FE{x:AV}{u:Value}(h:Rep μ F w x u):RepList μ F w [x] [u]:=by
 rw[RepList];exact⟨u,[],rfl,h,by rw[RepList]⟩
theorem Th{g:Nat}(hF:∀ o,F g o):∀(a:List AV) (us:List Value) (o:Nat),RepList μ F w a us->(∀ j u,us[j]? = some u->w.cell? ⟨g,o+j,none⟩=some u)->RepAt μ F w g a o
 |[],us,o,_,_=>by rw[RepAt];trivial
 |x::a,us,o,h,hc=>by
  rw[RepList]at h;obtain⟨u,t,rfl,h1,h2⟩:=h;rw[RepAt];refine⟨⟨hF o,u,hc 0 u rfl,h1⟩,Th hF a t (o+1) h2 λj v hj=>?_⟩;have:=hc (j+1) v hj
  rwa [show o+(j+1)=o+1+j by omega]at this
theorem Mf:∀(a:List AV) (us:List Value),RepList μ F w a us->a.length=us.length
 |[],us,h=>by rw[RepList]at h;rw[h];rfl
 |x::a,us,h=>by
  rw[RepList]at h;obtain⟨u,t,rfl,h1,h2⟩:=h;rw[Apw,Apw,Mf a t h2]
variable {S:Nat->Prop} (hS:∀ g,S g->∀ o,F g o)
include hS
mutual
theorem Q7:∀(x:D) (cs:List Value),D.Is w S x cs->RepList μ F w x.av cs
 |.int k n,cs,h=>by
  rw[D.Is]at h;subst h;exact FE (by rw[Rep];exact⟨rfl,rfl⟩)
 |.bool b,cs,h=>by
  rw[D.Is]at h;subst h;exact FE (by rw[Rep];exact⟨rfl,rfl⟩)
 |.str s,cs,h=>by
  rw[D.Is]at h;obtain⟨rfl,hs⟩:=h;exact FE (by rw[Rep];exact⟨rfl,rfl⟩)
 |.slice e xs,cs,h=>by
  rw[D.Is]at h;obtain⟨A,c,rfl,h1,h2,h3⟩:=h;rw[D.av];refine FE ?_;rw[Rep];refine⟨LO xs,A,c,by rw[Je],by rw[Je];exact h1,h2,λhne=>?_⟩;obtain⟨b,o,hA,hb,hr⟩:=h3 (by rintro rfl;exact hne rfl);exact⟨b,o,e,hA,WQ b hb xs o hr⟩
 |.agg xs,cs,h=>by
  rw[D.Is]at h;rw[D.av];exact VO xs cs h
theorem WQ{e:Nat}(b:Nat)(hb:S b):∀(xs:List D) (o:Nat),D.Row w S e b xs o->RepRows μ F w b e (EQ xs) o
 |[],o,_=>by rw[EQ,RepRows];trivial
 |x::r,o,h=>by
  rw[D.Row]at h;obtain⟨⟨cs,h1,h2,h3⟩,h4⟩:=h;have g:=Q7 x cs h3;rw[EQ,RepRows];exact⟨by rw[Mf _ _ g,h1],Th (hS b hb) _ _ _ g h2,WQ b hb r (o+e) h4⟩
theorem VO:∀(xs:List D) (cs:List Value),D.Cat w S xs cs->RepList μ F w (JM xs) cs
 |[],cs,h=>by
  rw[D.Cat]at h;subst h;rw[JM,RepList]
 |x::r,cs,h=>by
  rw[D.Cat]at h;obtain⟨c1,c2,rfl,h1,h2⟩:=h;rw[JM];exact Mg _ _ _ _ (Q7 x c1 h1) (VO r c2 h2)
end
end
end Go.Proofs.YtlmhajfbpplpoaaGreat
