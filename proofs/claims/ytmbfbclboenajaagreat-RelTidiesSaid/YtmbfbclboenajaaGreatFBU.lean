/- What an argument reads a -/
import Derived.Test.YtmbfbclboenajaaGreatFAL
import Derived.Test.YtmbfbclboenajaaGreatFAO
set_option linter.all false
open List renaming cons_append->Arm,length_cons->AqR
namespace Go.Proofs.YtmbfbclboenajaaGreat
open Go.RowKit
set_option linter.unusedSectionVars false
mutual
def D.av:D->List AV
 |.int k n=>[.v (.int k n)]
 |.bool b=>[.v (.bool b)]
 |.str s=>[.v (.string s)]
 |.slice _ xs=>[.ls (Fc xs)]
 |.agg xs=>Hy xs
def Fc:List D->List (List AV)
 |[]=>[]
 |x::r=>x.av::Fc r
def Hy:List D->List AV
 |[]=>[]
 |x::r=>x.av++Hy r
end
theorem Js:∀ xs:List D,(Fc xs).length=xs.length
 |[]=>rfl
 |x::r=>by rw[Fc,AqR,Js r,AqR]
theorem GH:∀ xs:List D,Fc xs=xs.map D.av
 |[]=>rfl
 |x::r=>by rw[Fc,GH r];rfl
theorem QP:∀(a b:List AV),AU a=true->AU b=true->AU (a++b)=true
 |[],_,_,hb=>hb
 |x::a,b,ha,hb=>by
  rw[Arm];rw[AU,Bool.and_eq_true]at ha ⊢;exact⟨ha.1,QP a b ha.2 hb⟩
mutual
theorem Xf:∀ x:D,AU x.av=true
 |.int _ _=>rfl
 |.bool _=>rfl
 |.str _=>rfl
 |.slice _ _=>rfl
 |.agg xs=>by rw[D.av];exact NL xs
theorem NL:∀ xs:List D,AU (Hy xs)=true
 |[]=>rfl
 |x::r=>by rw[Hy];exact QP _ _ (Xf x) (NL r)
end
theorem Mz:∀ xs:List D,Jf (Fc xs)=true
 |[]=>rfl
 |x::r=>by
  rw[Fc];have ih:=Mz r;unfold Jf at ih ⊢;rw[List.all_cons,Xf x,ih];rfl
section
variable {μ:Mu} {F:AS} {w:World}
theorem MU:∀(a b:List AV) (us ts:List Value),RepList μ F w a us->RepList μ F w b ts->RepList μ F w (a++b) (us++ts)
 |[],b,us,ts,ha,hb=>by
  rw[RepList]at ha;subst ha;exact hb
 |x::a,b,us,ts,ha,hb=>by
  rw[RepList]at ha;obtain⟨u,t,rfl,h1,h2⟩:=ha;rw[Arm,Arm,RepList];exact⟨u,t++ts,rfl,h1,MU a b t ts h2 hb⟩
theorem FM{x:AV}{u:Value}(h:Rep μ F w x u):RepList μ F w [x] [u]:=by
 rw[RepList];exact⟨u,[],rfl,h,by rw[RepList]⟩
theorem UI{g:Nat}(hF:∀ o,F g o):∀(a:List AV) (us:List Value) (o:Nat),RepList μ F w a us->(∀ j u,us[j]? = some u->w.cell? ⟨g,o+j,none⟩=some u)->RepAt μ F w g a o
 |[],us,o,_,_=>by rw[RepAt];trivial
 |x::a,us,o,h,hc=>by
  rw[RepList]at h;obtain⟨u,t,rfl,h1,h2⟩:=h;rw[RepAt];refine⟨⟨hF o,u,hc 0 u rfl,h1⟩,UI hF a t (o+1) h2 λj v hj=>?_⟩;have:=hc (j+1) v hj
  rwa [show o+(j+1)=o+1+j by omega]at this
theorem MT:∀(a:List AV) (us:List Value),RepList μ F w a us->a.length=us.length
 |[],us,h=>by rw[RepList]at h;rw[h];rfl
 |x::a,us,h=>by
  rw[RepList]at h;obtain⟨u,t,rfl,h1,h2⟩:=h;rw[AqR,AqR,MT a t h2]
variable {S:Nat->Prop} (hS:∀ g,S g->∀ o,F g o)
include hS
mutual
theorem Wm:∀(x:D) (cs:List Value),D.Is w S x cs->RepList μ F w x.av cs
 |.int k n,cs,h=>by
  rw[D.Is]at h;subst h;exact FM (by rw[Rep];exact⟨rfl,rfl⟩)
 |.bool b,cs,h=>by
  rw[D.Is]at h;subst h;exact FM (by rw[Rep];exact⟨rfl,rfl⟩)
 |.str s,cs,h=>by
  rw[D.Is]at h;obtain⟨rfl,hs⟩:=h;exact FM (by rw[Rep];exact⟨rfl,rfl⟩)
 |.slice e xs,cs,h=>by
  rw[D.Is]at h;obtain⟨A,c,rfl,h1,h2,h3⟩:=h;rw[D.av];refine FM ?_;rw[Rep];refine⟨Mz xs,A,c,by rw[Js],by rw[Js];exact h1,h2,λhne=>?_⟩;obtain⟨b,o,hA,hb,hr⟩:=h3 (by rintro rfl;exact hne rfl);exact⟨b,o,e,hA,Yk b hb xs o hr⟩
 |.agg xs,cs,h=>by
  rw[D.Is]at h;rw[D.av];exact Xh xs cs h
theorem Yk{e:Nat}(b:Nat)(hb:S b):∀(xs:List D) (o:Nat),D.Row w S e b xs o->RepRows μ F w b e (Fc xs) o
 |[],o,_=>by rw[Fc,RepRows];trivial
 |x::r,o,h=>by
  rw[D.Row]at h;obtain⟨⟨cs,h1,h2,h3⟩,h4⟩:=h;have g:=Wm x cs h3;rw[Fc,RepRows];exact⟨by rw[MT _ _ g,h1],UI (hS b hb) _ _ _ g h2,Yk b hb r (o+e) h4⟩
theorem Xh:∀(xs:List D) (cs:List Value),D.Cat w S xs cs->RepList μ F w (Hy xs) cs
 |[],cs,h=>by
  rw[D.Cat]at h;subst h;rw[Hy,RepList]
 |x::r,cs,h=>by
  rw[D.Cat]at h;obtain⟨c1,c2,rfl,h1,h2⟩:=h;rw[Hy];exact MU _ _ _ _ (Wm x c1 h1) (Xh r c2 h2)
end
