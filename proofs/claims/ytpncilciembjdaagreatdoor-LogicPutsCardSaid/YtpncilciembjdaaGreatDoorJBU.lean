/- What an argument reads a -/
import Derived.Test.YtpncilciembjdaaGreatDoorJAL
import Derived.Test.YtpncilciembjdaaGreatDoorJAO
set_option linter.all false
open List renaming cons_append->AuM,length_cons->Ate
namespace Go.Proofs.YtpncilciembjdaaGreatDoor
open Go.RowKit
set_option linter.unusedSectionVars false
mutual
def D.av:D->Aa
 |.int k n=>[.v (.int k n)]
 |.bool b=>[.v (.bool b)]
 |.str s=>[.v (.string s)]
 |.slice _ xs=>[.ls (EK xs)]
 |.agg xs=>GK xs
def EK:List D->Rw
 |[]=>[]
 |x::r=>x.av::EK r
def GK:List D->Aa
 |[]=>[]
 |x::r=>x.av++GK r
end
theorem IL:∀ xs:List D,(EK xs).length=xs.length
 |[]=>rfl
 |x::r=>by rw[EK,Ate,IL r,Ate]
theorem D2:∀ xs:List D,EK xs=xs.map D.av
 |[]=>rfl
 |x::r=>by rw[EK,D2 r];rfl
theorem PI:∀(a b:Aa),AU a=true->AU b=true->AU (a++b)=true
 |[],_,_,hb=>hb
 |x::a,b,ha,hb=>by
  rw[AuM];rw[AU,Bool.and_eq_true]at ha ⊢;exact⟨ha.1,PI a b ha.2 hb⟩
mutual
theorem VO:∀ x:D,AU x.av=true
 |.int _ _=>rfl
 |.bool _=>rfl
 |.str _=>rfl
 |.slice _ _=>rfl
 |.agg xs=>by rw[D.av];exact MZ xs
theorem MZ:∀ xs:List D,AU (GK xs)=true
 |[]=>rfl
 |x::r=>by rw[GK];exact PI _ _ (VO x) (MZ r)
end
theorem LF:∀ xs:List D,ID (EK xs)=true
 |[]=>rfl
 |x::r=>by
  rw[EK];have ih:=LF r;unfold ID at ih ⊢;rw[List.all_cons,VO x,ih];rfl
section
variable {μ:Mu} {F:AP} {w:World}
theorem L8:∀(a b:Aa) (us ts:AA),RepList μ F w a us->RepList μ F w b ts->RepList μ F w (a++b) (us++ts)
 |[],b,us,ts,ha,hb=>by
  grind [RepList]
 |x::a,b,us,ts,ha,hb=>by
  rw[RepList]at ha;obtain⟨u,t,rfl,h1,h2⟩:=ha;rw[AuM,AuM,RepList];exact⟨u,t++ts,rfl,h1,L8 a b t ts h2 hb⟩
theorem Fp{x:AV}{u:Value}(h:Rep μ F w x u):RepList μ F w [x] [u]:=by
 rw[RepList];exact⟨u,[],rfl,h,by rw[RepList]⟩
theorem Te{g:Nat}(hF:∀ o,F g o):∀(a:Aa) (us:AA) (o:Nat),RepList μ F w a us->(∀ j u,us[j]? = some u->w.cell? ⟨g,o+j,none⟩=some u)->RepAt μ F w g a o
 |[],us,o,_,_=>by rw[RepAt];trivial
 |x::a,us,o,h,hc=>by
  rw[RepList]at h;obtain⟨u,t,rfl,h1,h2⟩:=h;rw[RepAt];refine⟨⟨hF o,u,hc 0 u rfl,h1⟩,Te hF a t (o+1) h2 λj v hj=>?_⟩;have:=hc (j+1) v hj
  rwa [show o+(j+1)=o+1+j by omega]at this
theorem L7:∀(a:Aa) (us:AA),RepList μ F w a us->a.length=us.length
 |[],us,h=>by rw[RepList]at h;rw[h];rfl
 |x::a,us,h=>by
  rw[RepList]at h;obtain⟨u,t,rfl,h1,h2⟩:=h;rw[Ate,Ate,L7 a t h2]
variable {S:Nat->Prop} (hS:∀ g,S g->∀ o,F g o)
include hS
mutual
theorem KZ:∀(x:D) (cs:AA),D.Is w S x cs->RepList μ F w x.av cs
 |.int k n,cs,h=>by
  rw[D.Is]at h;subst h;exact Fp (by rw[Rep];exact⟨rfl,rfl⟩)
 |.bool b,cs,h=>by
  rw[D.Is]at h;subst h;exact Fp (by rw[Rep];exact⟨rfl,rfl⟩)
 |.str s,cs,h=>by
  rw[D.Is]at h;obtain⟨rfl,hs⟩:=h;exact Fp (by rw[Rep];exact⟨rfl,rfl⟩)
 |.slice e xs,cs,h=>by
  rw[D.Is]at h;obtain⟨A,c,rfl,h1,h2,h3⟩:=h;rw[D.av];refine Fp ?_;rw[Rep];refine⟨LF xs,A,c,by rw[IL],by rw[IL];exact h1,h2,λhne=>?_⟩;obtain⟨b,o,hA,hb,hr⟩:=h3 (by rintro rfl;exact hne rfl);exact⟨b,o,e,hA,WN b hb xs o hr⟩
 |.agg xs,cs,h=>by
  rw[D.Is]at h;rw[D.av];exact VR xs cs h
theorem WN{e:Nat}(b:Nat)(hb:S b):∀(xs:List D) (o:Nat),D.Row w S e b xs o->RepRows μ F w b e (EK xs) o
 |[],o,_=>by rw[EK,RepRows];trivial
 |x::r,o,h=>by
  rw[D.Row]at h;obtain⟨⟨cs,h1,h2,h3⟩,h4⟩:=h;have g:=KZ x cs h3;rw[EK,RepRows];exact⟨by rw[L7 _ _ g,h1],Te (hS b hb) _ _ _ g h2,WN b hb r (o+e) h4⟩
theorem VR:∀(xs:List D) (cs:AA),D.Cat w S xs cs->RepList μ F w (GK xs) cs
 |[],cs,h=>by
  rw[D.Cat]at h;subst h;rw[GK,RepList]
 |x::r,cs,h=>by
  rw[D.Cat]at h;obtain⟨c1,c2,rfl,h1,h2⟩:=h;rw[GK];exact L8 _ _ _ _ (KZ x c1 h1) (VR r c2 h2)
end
