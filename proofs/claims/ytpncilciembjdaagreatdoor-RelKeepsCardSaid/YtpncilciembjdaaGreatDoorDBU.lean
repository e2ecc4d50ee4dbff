/- What an argument reads a -/
import Derived.Test.YtpncilciembjdaaGreatDoorDAL
import Derived.Test.YtpncilciembjdaaGreatDoorDAO
set_option linter.all false
open List renaming cons_append->AqE,length_cons->ο
namespace Go.Proofs.YtpncilciembjdaaGreatDoor
open Go.RowKit
set_option linter.unusedSectionVars false
mutual
def D.av:D->List AV
 |.int k n=>[.v (.int k n)]
 |.bool b=>[.v (.bool b)]
 |.str s=>[.v (.string s)]
 |.slice _ xs=>[.ls (E4 xs)]
 |.agg xs=>He xs
def E4:List D->List (List AV)
 |[]=>[]
 |x::r=>x.av::E4 r
def He:List D->List AV
 |[]=>[]
 |x::r=>x.av++He r
end
theorem I6:∀ xs:List D,(E4 xs).length=xs.length
 |[]=>rfl
 |x::r=>by rw[E4,ο,I6 r,ο]
theorem E5:∀ xs:List D,E4 xs=xs.map D.av
 |[]=>rfl
 |x::r=>by rw[E4,E5 r];rfl
theorem Ql:∀(a b:List AV),AO a=true->AO b=true->AO (a++b)=true
 |[],_,_,hb=>hb
 |x::a,b,ha,hb=>by
  rw[AqE];rw[AO,Bool.and_eq_true]at ha ⊢;exact⟨ha.1,Ql a b ha.2 hb⟩
mutual
theorem WG:∀ x:D,AO x.av=true
 |.int _ _=>rfl
 |.bool _=>rfl
 |.str _=>rfl
 |.slice _ _=>rfl
 |.agg xs=>by rw[D.av];exact Nf xs
theorem Nf:∀ xs:List D,AO (He xs)=true
 |[]=>rfl
 |x::r=>by rw[He];exact Ql _ _ (WG x) (Nf r)
end
theorem LS:∀ xs:List D,IU (E4 xs)=true
 |[]=>rfl
 |x::r=>by
  rw[E4];have ih:=LS r;unfold IU at ih ⊢;rw[List.all_cons,WG x,ih];rfl
section
variable {μ:Mu} {F:AG} {w:World}
theorem Mj:∀(a b:List AV) (us ts:List Value),RepList μ F w a us->RepList μ F w b ts->RepList μ F w (a++b) (us++ts)
 |[],b,us,ts,ha,hb=>by
  rw[RepList]at ha;subst ha;exact hb
 |x::a,b,us,ts,ha,hb=>by
  rw[RepList]at ha;obtain⟨u,t,rfl,h1,h2⟩:=ha;rw[AqE,AqE,RepList];exact⟨u,t++ts,rfl,h1,Mj a b t ts h2 hb⟩
theorem FM{x:AV}{u:Value}(h:Rep μ F w x u):RepList μ F w [x] [u]:=by
 rw[RepList];exact⟨u,[],rfl,h,by rw[RepList]⟩
theorem Uf{g:Nat}(hF:∀ o,F g o):∀(a:List AV) (us:List Value) (o:Nat),RepList μ F w a us->(∀ j u,us[j]? = some u->w.cell? ⟨g,o+j,none⟩=some u)->RepAt μ F w g a o
 |[],us,o,_,_=>by rw[RepAt];trivial
 |x::a,us,o,h,hc=>by
  rw[RepList]at h;obtain⟨u,t,rfl,h1,h2⟩:=h;rw[RepAt];refine⟨⟨hF o,u,hc 0 u rfl,h1⟩,Uf hF a t (o+1) h2 λj v hj=>?_⟩;have:=hc (j+1) v hj
  rwa [show o+(j+1)=o+1+j by omega]at this
theorem Mi:∀(a:List AV) (us:List Value),RepList μ F w a us->a.length=us.length
 |[],us,h=>by rw[RepList]at h;rw[h];rfl
 |x::a,us,h=>by
  rw[RepList]at h;obtain⟨u,t,rfl,h1,h2⟩:=h;rw[ο,ο,Mi a t h2]
variable {S:Nat->Prop} (hS:∀ g,S g->∀ o,F g o)
include hS
mutual
theorem Rs:∀(x:D) (cs:List Value),D.Is w S x cs->RepList μ F w x.av cs
 |.int k n,cs,h=>by
  rw[D.Is]at h;subst h;exact FM (by rw[Rep];exact⟨rfl,rfl⟩)
 |.bool b,cs,h=>by
  rw[D.Is]at h;subst h;exact FM (by rw[Rep];exact⟨rfl,rfl⟩)
 |.str s,cs,h=>by
  rw[D.Is]at h;obtain⟨rfl,hs⟩:=h;exact FM (by rw[Rep];exact⟨rfl,rfl⟩)
 |.slice e xs,cs,h=>by
  rw[D.Is]at h;obtain⟨A,c,rfl,h1,h2,h3⟩:=h;rw[D.av];refine FM ?_;rw[Rep];refine⟨LS xs,A,c,by rw[I6],by rw[I6];exact h1,h2,λhne=>?_⟩;obtain⟨b,o,hA,hb,hr⟩:=h3 (by rintro rfl;exact hne rfl);exact⟨b,o,e,hA,XG b hb xs o hr⟩
 |.agg xs,cs,h=>by
  rw[D.Is]at h;rw[D.av];exact WI xs cs h
theorem XG{e:Nat}(b:Nat)(hb:S b):∀(xs:List D) (o:Nat),D.Row w S e b xs o->RepRows μ F w b e (E4 xs) o
 |[],o,_=>by rw[E4,RepRows];trivial
 |x::r,o,h=>by
  rw[D.Row]at h;obtain⟨⟨cs,h1,h2,h3⟩,h4⟩:=h;have g:=Rs x cs h3;rw[E4,RepRows];exact⟨by rw[Mi _ _ g,h1],Uf (hS b hb) _ _ _ g h2,XG b hb r (o+e) h4⟩
theorem WI:∀(xs:List D) (cs:List Value),D.Cat w S xs cs->RepList μ F w (He xs) cs
 |[],cs,h=>by
  rw[D.Cat]at h;subst h;rw[He,RepList]
 |x::r,cs,h=>by
  rw[D.Cat]at h;obtain⟨c1,c2,rfl,h1,h2⟩:=h;rw[He];exact Mj _ _ _ _ (Rs x c1 h1) (WI r c2 h2)
end
