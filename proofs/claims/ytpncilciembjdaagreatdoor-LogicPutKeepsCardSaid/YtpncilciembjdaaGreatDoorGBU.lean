/- What an argument reads a -/
import Derived.Test.YtpncilciembjdaaGreatDoorGAL
import Derived.Test.YtpncilciembjdaaGreatDoorGAO
set_option linter.all false
open List renaming cons_append->ArY,length_cons->ε
namespace Go.Proofs.YtpncilciembjdaaGreatDoor
open Go.RowKit
set_option linter.unusedSectionVars false
mutual
def D.av:D->List AV
 |.int k n=>[.v (.int k n)]
 |.bool b=>[.v (.bool b)]
 |.str s=>[.v (.string s)]
 |.slice _ xs=>[.ls (Ep xs)]
 |.agg xs=>Gs xs
def Ep:List D->List (List AV)
 |[]=>[]
 |x::r=>x.av::Ep r
def Gs:List D->List AV
 |[]=>[]
 |x::r=>x.av++Gs r
end
theorem II:∀ xs:List D,(Ep xs).length=xs.length
 |[]=>rfl
 |x::r=>by rw[Ep,ε,II r,ε]
theorem DM:∀ xs:List D,Ep xs=xs.map D.av
 |[]=>rfl
 |x::r=>by rw[Ep,DM r];rfl
theorem Pe:∀(a b:List AV),AA a=true->AA b=true->AA (a++b)=true
 |[],_,_,hb=>hb
 |x::a,b,ha,hb=>by
  rw[ArY];rw[AA,Bool.and_eq_true]at ha ⊢;exact⟨ha.1,Pe a b ha.2 hb⟩
mutual
theorem U2:∀ x:D,AA x.av=true
 |.int _ _=>rfl
 |.bool _=>rfl
 |.str _=>rfl
 |.slice _ _=>rfl
 |.agg xs=>by rw[D.av];exact My xs
theorem My:∀ xs:List D,AA (Gs xs)=true
 |[]=>rfl
 |x::r=>by rw[Gs];exact Pe _ _ (U2 x) (My r)
end
theorem Lh:∀ xs:List D,Fz (Ep xs)=true
 |[]=>rfl
 |x::r=>by
  rw[Ep];have ih:=Lh r;unfold Fz at ih ⊢;rw[List.all_cons,U2 x,ih];rfl
section
variable {μ:Mu} {F:Az} {w:World}
theorem LK:∀(a b:List AV) (us ts:List Value),RepList μ F w a us->RepList μ F w b ts->RepList μ F w (a++b) (us++ts)
 |[],b,us,ts,ha,hb=>by
  rw[RepList]at ha;subst ha;exact hb
 |x::a,b,us,ts,ha,hb=>by
  rw[RepList]at ha;obtain⟨u,t,rfl,h1,h2⟩:=ha;rw[ArY,ArY,RepList];exact⟨u,t++ts,rfl,h1,LK a b t ts h2 hb⟩
theorem EY{x:AV}{u:Value}(h:Rep μ F w x u):RepList μ F w [x] [u]:=by
 rw[RepList];exact⟨u,[],rfl,h,by rw[RepList]⟩
theorem SJ{g:Nat}(hF:∀ o,F g o):∀(a:List AV) (us:List Value) (o:Nat),RepList μ F w a us->(∀ j u,us[j]? = some u->w.cell? ⟨g,o+j,none⟩=some u)->RepAt μ F w g a o
 |[],us,o,_,_=>by rw[RepAt];trivial
 |x::a,us,o,h,hc=>by
  rw[RepList]at h;obtain⟨u,t,rfl,h1,h2⟩:=h;rw[RepAt];refine⟨⟨hF o,u,hc 0 u rfl,h1⟩,SJ hF a t (o+1) h2 λj v hj=>?_⟩;have:=hc (j+1) v hj
  rwa [show o+(j+1)=o+1+j by omega]at this
theorem LJ:∀(a:List AV) (us:List Value),RepList μ F w a us->a.length=us.length
 |[],us,h=>by rw[RepList]at h;rw[h];rfl
 |x::a,us,h=>by
  rw[RepList]at h;obtain⟨u,t,rfl,h1,h2⟩:=h;rw[ε,ε,LJ a t h2]
variable {S:Nat->Prop} (hS:∀ g,S g->∀ o,F g o)
include hS
mutual
theorem Np:∀(x:D) (cs:List Value),D.Is w S x cs->RepList μ F w x.av cs
 |.int k n,cs,h=>by
  rw[D.Is]at h;subst h;exact EY (by rw[Rep];exact⟨rfl,rfl⟩)
 |.bool b,cs,h=>by
  rw[D.Is]at h;subst h;exact EY (by rw[Rep];exact⟨rfl,rfl⟩)
 |.str s,cs,h=>by
  rw[D.Is]at h;obtain⟨rfl,hs⟩:=h;exact EY (by rw[Rep];exact⟨rfl,rfl⟩)
 |.slice e xs,cs,h=>by
  rw[D.Is]at h;obtain⟨A,c,rfl,h1,h2,h3⟩:=h;rw[D.av];refine EY ?_;rw[Rep];refine⟨Lh xs,A,c,by rw[II],by rw[II];exact h1,h2,λhne=>?_⟩;obtain⟨b,o,hA,hb,hr⟩:=h3 (by rintro rfl;exact hne rfl);exact⟨b,o,e,hA,VS b hb xs o hr⟩
 |.agg xs,cs,h=>by
  rw[D.Is]at h;rw[D.av];exact U4 xs cs h
theorem VS{e:Nat}(b:Nat)(hb:S b):∀(xs:List D) (o:Nat),D.Row w S e b xs o->RepRows μ F w b e (Ep xs) o
 |[],o,_=>by rw[Ep,RepRows];trivial
 |x::r,o,h=>by
  rw[D.Row]at h;obtain⟨⟨cs,h1,h2,h3⟩,h4⟩:=h;have g:=Np x cs h3;rw[Ep,RepRows];exact⟨by rw[LJ _ _ g,h1],SJ (hS b hb) _ _ _ g h2,VS b hb r (o+e) h4⟩
theorem U4:∀(xs:List D) (cs:List Value),D.Cat w S xs cs->RepList μ F w (Gs xs) cs
 |[],cs,h=>by
  rw[D.Cat]at h;subst h;rw[Gs,RepList]
 |x::r,cs,h=>by
  rw[D.Cat]at h;obtain⟨c1,c2,rfl,h1,h2⟩:=h;rw[Gs];exact LK _ _ _ _ (Np x c1 h1) (U4 r c2 h2)
end
