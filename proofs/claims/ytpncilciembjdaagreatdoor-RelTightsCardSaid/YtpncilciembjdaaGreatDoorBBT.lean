/- What an argument reads a -/
import Derived.Test.YtpncilciembjdaaGreatDoorBAN
import Derived.Test.YtpncilciembjdaaGreatDoorBAQ
set_option linter.all false
open List renaming cons_append->Aqz,length_cons->π
namespace Go.Proofs.YtpncilciembjdaaGreatDoor
open Go.RowKit
set_option linter.unusedSectionVars false
mutual
def D.av:D->List AV
 |.int k n=>[.v (.int k n)]
 |.bool b=>[.v (.bool b)]
 |.str s=>[.v (.string s)]
 |.slice _ xs=>[.ls (Ey xs)]
 |.agg xs=>Gl xs
def Ey:List D->List (List AV)
 |[]=>[]
 |x::r=>x.av::Ey r
def Gl:List D->List AV
 |[]=>[]
 |x::r=>x.av++Gl r
end
theorem HJ:∀ xs:List D,(Ey xs).length=xs.length
 |[]=>rfl
 |x::r=>by rw[Ey,π,HJ r,π]
theorem HK:∀ xs:List D,Ey xs=xs.map D.av
 |[]=>rfl
 |x::r=>by rw[Ey,HK r];rfl
theorem Of:∀(a b:List AV),AZ a=true->AZ b=true->AZ (a++b)=true
 |[],_,_,hb=>hb
 |x::a,b,ha,hb=>by
  rw[Aqz];rw[AZ,Bool.and_eq_true]at ha ⊢;exact⟨ha.1,Of a b ha.2 hb⟩
mutual
theorem Tz:∀ x:D,AZ x.av=true
 |.int _ _=>rfl
 |.bool _=>rfl
 |.str _=>rfl
 |.slice _ _=>rfl
 |.agg xs=>by rw[D.av];exact LG xs
theorem LG:∀ xs:List D,AZ (Gl xs)=true
 |[]=>rfl
 |x::r=>by rw[Gl];exact Of _ _ (Tz x) (LG r)
end
theorem JZ:∀ xs:List D,IS (Ey xs)=true
 |[]=>rfl
 |x::r=>by
  rw[Ey];have ih:=JZ r;unfold IS at ih ⊢;rw[List.all_cons,Tz x,ih];rfl
section
variable {μ:Mu} {F:AQ} {w:World}
theorem KF:∀(a b:List AV) (us ts:List Value),RepList μ F w a us->RepList μ F w b ts->RepList μ F w (a++b) (us++ts)
 |[],b,us,ts,ha,hb=>by
  rw[RepList]at ha;subst ha;exact hb
 |x::a,b,us,ts,ha,hb=>by
  rw[RepList]at ha;obtain⟨u,t,rfl,h1,h2⟩:=ha;rw[Aqz,Aqz,RepList];exact⟨u,t++ts,rfl,h1,KF a b t ts h2 hb⟩
theorem E5{x:AV}{u:Value}(h:Rep μ F w x u):RepList μ F w [x] [u]:=by
 rw[RepList];exact⟨u,[],rfl,h,by rw[RepList]⟩
theorem Rk{g:Nat}(hF:∀ o,F g o):∀(a:List AV) (us:List Value) (o:Nat),RepList μ F w a us->(∀ j u,us[j]? = some u->w.cell? ⟨g,o+j,none⟩=some u)->RepAt μ F w g a o
 |[],us,o,_,_=>by rw[RepAt];trivial
 |x::a,us,o,h,hc=>by
  rw[RepList]at h;obtain⟨u,t,rfl,h1,h2⟩:=h;rw[RepAt];refine⟨⟨hF o,u,hc 0 u rfl,h1⟩,Rk hF a t (o+1) h2 λj v hj=>?_⟩;have:=hc (j+1) v hj
  rwa [show o+(j+1)=o+1+j by omega]at this
theorem KE:∀(a:List AV) (us:List Value),RepList μ F w a us->a.length=us.length
 |[],us,h=>by rw[RepList]at h;rw[h];rfl
 |x::a,us,h=>by
  rw[RepList]at h;obtain⟨u,t,rfl,h1,h2⟩:=h;rw[π,π,KE a t h2]
variable {S:Nat->Prop} (hS:∀ g,S g->∀ o,F g o)
include hS
mutual
theorem Pj:∀(x:D) (cs:List Value),D.Is w S x cs->RepList μ F w x.av cs
 |.int k n,cs,h=>by
  rw[D.Is]at h;subst h;exact E5 (by rw[Rep];exact⟨rfl,rfl⟩)
 |.bool b,cs,h=>by
  rw[D.Is]at h;subst h;exact E5 (by rw[Rep];exact⟨rfl,rfl⟩)
 |.str s,cs,h=>by
  rw[D.Is]at h;obtain⟨rfl,hs⟩:=h;exact E5 (by rw[Rep];exact⟨rfl,rfl⟩)
 |.slice e xs,cs,h=>by
  rw[D.Is]at h;obtain⟨A,c,rfl,h1,h2,h3⟩:=h;rw[D.av];refine E5 ?_;rw[Rep];refine⟨JZ xs,A,c,by rw[HJ],by rw[HJ];exact h1,h2,λhne=>?_⟩;obtain⟨b,o,hA,hb,hr⟩:=h3 (by rintro rfl;exact hne rfl);exact⟨b,o,e,hA,UE b hb xs o hr⟩
 |.agg xs,cs,h=>by
  rw[D.Is]at h;rw[D.av];exact TB xs cs h
theorem UE{e:Nat}(b:Nat)(hb:S b):∀(xs:List D) (o:Nat),D.Row w S e b xs o->RepRows μ F w b e (Ey xs) o
 |[],o,_=>by rw[Ey,RepRows];trivial
 |x::r,o,h=>by
  rw[D.Row]at h;obtain⟨⟨cs,h1,h2,h3⟩,h4⟩:=h;have g:=Pj x cs h3;rw[Ey,RepRows];exact⟨by rw[KE _ _ g,h1],Rk (hS b hb) _ _ _ g h2,UE b hb r (o+e) h4⟩
theorem TB:∀(xs:List D) (cs:List Value),D.Cat w S xs cs->RepList μ F w (Gl xs) cs
 |[],cs,h=>by
  rw[D.Cat]at h;subst h;rw[Gl,RepList]
 |x::r,cs,h=>by
  rw[D.Cat]at h;obtain⟨c1,c2,rfl,h1,h2⟩:=h;rw[Gl];exact KF _ _ _ _ (Pj x c1 h1) (TB r c2 h2)
end
end
end Go.Proofs.YtpncilciembjdaaGreatDoor
