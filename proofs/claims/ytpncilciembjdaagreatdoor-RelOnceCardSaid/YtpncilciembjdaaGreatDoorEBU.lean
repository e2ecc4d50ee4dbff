/- What an argument reads a -/
import Derived.Test.YtpncilciembjdaaGreatDoorEAL
import Derived.Test.YtpncilciembjdaaGreatDoorEAO
set_option linter.all false
open List renaming cons_append->AsK,length_cons->ε
namespace Go.Proofs.YtpncilciembjdaaGreatDoor
open Go.RowKit
set_option linter.unusedSectionVars false
mutual
def D.av:D->List AV
 |.int k n=>[.v (.int k n)]
 |.bool b=>[.v (.bool b)]
 |.str s=>[.v (.string s)]
 |.slice _ xs=>[.ls (Fb xs)]
 |.agg xs=>Hw xs
def Fb:List D->List (List AV)
 |[]=>[]
 |x::r=>x.av::Fb r
def Hw:List D->List AV
 |[]=>[]
 |x::r=>x.av++Hw r
end
theorem Jg:∀ xs:List D,(Fb xs).length=xs.length
 |[]=>rfl
 |x::r=>by rw[Fb,ε,Jg r,ε]
theorem GI:∀ xs:List D,Fb xs=xs.map D.av
 |[]=>rfl
 |x::r=>by rw[Fb,GI r];rfl
theorem QK:∀(a b:List AV),AQ a=true->AQ b=true->AQ (a++b)=true
 |[],_,_,hb=>hb
 |x::a,b,ha,hb=>by
  rw[AsK];rw[AQ,Bool.and_eq_true]at ha ⊢;exact⟨ha.1,QK a b ha.2 hb⟩
mutual
theorem W8:∀ x:D,AQ x.av=true
 |.int _ _=>rfl
 |.bool _=>rfl
 |.str _=>rfl
 |.slice _ _=>rfl
 |.agg xs=>by rw[D.av];exact NG xs
theorem NG:∀ xs:List D,AQ (Hw xs)=true
 |[]=>rfl
 |x::r=>by rw[Hw];exact QK _ _ (W8 x) (NG r)
end
theorem Mf:∀ xs:List D,I6 (Fb xs)=true
 |[]=>rfl
 |x::r=>by
  rw[Fb];have ih:=Mf r;unfold I6 at ih ⊢;rw[List.all_cons,W8 x,ih];rfl
section
variable {μ:Mu} {F:AI} {w:World}
theorem MA:∀(a b:List AV) (us ts:List Value),RepList μ F w a us->RepList μ F w b ts->RepList μ F w (a++b) (us++ts)
 |[],b,us,ts,ha,hb=>by
  rw[RepList]at ha;subst ha;exact hb
 |x::a,b,us,ts,ha,hb=>by
  rw[RepList]at ha;obtain⟨u,t,rfl,h1,h2⟩:=ha;rw[AsK,AsK,RepList];exact⟨u,t++ts,rfl,h1,MA a b t ts h2 hb⟩
theorem FQ{x:AV}{u:Value}(h:Rep μ F w x u):RepList μ F w [x] [u]:=by
 rw[RepList];exact⟨u,[],rfl,h,by rw[RepList]⟩
theorem UG{g:Nat}(hF:∀ o,F g o):∀(a:List AV) (us:List Value) (o:Nat),RepList μ F w a us->(∀ j u,us[j]? = some u->w.cell? ⟨g,o+j,none⟩=some u)->RepAt μ F w g a o
 |[],us,o,_,_=>by rw[RepAt];trivial
 |x::a,us,o,h,hc=>by
  rw[RepList]at h;obtain⟨u,t,rfl,h1,h2⟩:=h;rw[RepAt];refine⟨⟨hF o,u,hc 0 u rfl,h1⟩,UG hF a t (o+1) h2 λj v hj=>?_⟩;have:=hc (j+1) v hj
  rwa [show o+(j+1)=o+1+j by omega]at this
theorem Mz:∀(a:List AV) (us:List Value),RepList μ F w a us->a.length=us.length
 |[],us,h=>by rw[RepList]at h;rw[h];rfl
 |x::a,us,h=>by
  rw[RepList]at h;obtain⟨u,t,rfl,h1,h2⟩:=h;rw[ε,ε,Mz a t h2]
variable {S:Nat->Prop} (hS:∀ g,S g->∀ o,F g o)
include hS
mutual
theorem RY:∀(x:D) (cs:List Value),D.Is w S x cs->RepList μ F w x.av cs
 |.int k n,cs,h=>by
  rw[D.Is]at h;subst h;exact FQ (by rw[Rep];exact⟨rfl,rfl⟩)
 |.bool b,cs,h=>by
  rw[D.Is]at h;subst h;exact FQ (by rw[Rep];exact⟨rfl,rfl⟩)
 |.str s,cs,h=>by
  rw[D.Is]at h;obtain⟨rfl,hs⟩:=h;exact FQ (by rw[Rep];exact⟨rfl,rfl⟩)
 |.slice e xs,cs,h=>by
  rw[D.Is]at h;obtain⟨A,c,rfl,h1,h2,h3⟩:=h;rw[D.av];refine FQ ?_;rw[Rep];refine⟨Mf xs,A,c,by rw[Jg],by rw[Jg];exact h1,h2,λhne=>?_⟩;obtain⟨b,o,hA,hb,hr⟩:=h3 (by rintro rfl;exact hne rfl);exact⟨b,o,e,hA,Yg b hb xs o hr⟩
 |.agg xs,cs,h=>by
  rw[D.Is]at h;rw[D.av];exact Xa xs cs h
theorem Yg{e:Nat}(b:Nat)(hb:S b):∀(xs:List D) (o:Nat),D.Row w S e b xs o->RepRows μ F w b e (Fb xs) o
 |[],o,_=>by rw[Fb,RepRows];trivial
 |x::r,o,h=>by
  rw[D.Row]at h;obtain⟨⟨cs,h1,h2,h3⟩,h4⟩:=h;have g:=RY x cs h3;rw[Fb,RepRows];exact⟨by rw[Mz _ _ g,h1],UG (hS b hb) _ _ _ g h2,Yg b hb r (o+e) h4⟩
theorem Xa:∀(xs:List D) (cs:List Value),D.Cat w S xs cs->RepList μ F w (Hw xs) cs
 |[],cs,h=>by
  rw[D.Cat]at h;subst h;rw[Hw,RepList]
 |x::r,cs,h=>by
  rw[D.Cat]at h;obtain⟨c1,c2,rfl,h1,h2⟩:=h;rw[Hw];exact MA _ _ _ _ (RY x c1 h1) (Xa r c2 h2)
end
