/- What an argument reads a -/
import Derived.Test.YtpncilciembjdaaGreatDoorHAL
import Derived.Test.YtpncilciembjdaaGreatDoorHAO
set_option linter.all false
open List renaming cons_append->AxC,length_cons->γ
namespace Go.Proofs.YtpncilciembjdaaGreatDoor
open Go.RowKit
set_option linter.unusedSectionVars false
mutual
def D.av:D->Ab
 |.int k n=>[.v (.int k n)]
 |.bool b=>[.v (.bool b)]
 |.str s=>[.v (.string s)]
 |.slice _ xs=>[.ls (Fs xs)]
 |.agg xs=>HI xs
def Fs:List D->Rw
 |[]=>[]
 |x::r=>x.av::Fs r
def HI:List D->Ab
 |[]=>[]
 |x::r=>x.av++HI r
end
theorem JG:∀ xs:List D,(Fs xs).length=xs.length
 |[]=>rfl
 |x::r=>by rw[Fs,γ,JG r,γ]
theorem G8:∀ xs:List D,Fs xs=xs.map D.av
 |[]=>rfl
 |x::r=>by rw[Fs,G8 r];rfl
theorem Q5:∀(a b:Ab),Bj a=true->Bj b=true->Bj (a++b)=true
 |[],_,_,hb=>hb
 |x::a,b,ha,hb=>by
  rw[AxC];rw[Bj,Bool.and_eq_true]at ha ⊢;exact⟨ha.1,Q5 a b ha.2 hb⟩
mutual
theorem Xz:∀ x:D,Bj x.av=true
 |.int _ _=>rfl
 |.bool _=>rfl
 |.str _=>rfl
 |.slice _ _=>rfl
 |.agg xs=>by rw[D.av];exact NW xs
theorem NW:∀ xs:List D,Bj (HI xs)=true
 |[]=>rfl
 |x::r=>by rw[HI];exact Q5 _ _ (Xz x) (NW r)
end
theorem Mz:∀ xs:List D,Jv (Fs xs)=true
 |[]=>rfl
 |x::r=>by
  rw[Fs];have ih:=Mz r;unfold Jv at ih ⊢;rw[List.all_cons,Xz x,ih];rfl
section
variable {μ:Mu} {F:Bf} {w:World}
theorem MZ:∀(a b:Ab) (us ts:AO),RepList μ F w a us->RepList μ F w b ts->RepList μ F w (a++b) (us++ts)
 |[],b,us,ts,ha,hb=>by
  grind [RepList]
 |x::a,b,us,ts,ha,hb=>by
  rw[RepList]at ha;obtain⟨u,t,rfl,h1,h2⟩:=ha;rw[AxC,AxC,RepList];exact⟨u,t++ts,rfl,h1,MZ a b t ts h2 hb⟩
theorem Gb{x:AV}{u:Value}(h:Rep μ F w x u):RepList μ F w [x] [u]:=by
 rw[RepList];exact⟨u,[],rfl,h,by rw[RepList]⟩
theorem UX{g:Nat}(hF:∀ o,F g o):∀(a:Ab) (us:AO) (o:Nat),RepList μ F w a us->(∀ j u,us[j]? = some u->w.cell? ⟨g,o+j,none⟩=some u)->RepAt μ F w g a o
 |[],us,o,_,_=>by rw[RepAt];trivial
 |x::a,us,o,h,hc=>by
  rw[RepList]at h;obtain⟨u,t,rfl,h1,h2⟩:=h;rw[RepAt];refine⟨⟨hF o,u,hc 0 u rfl,h1⟩,UX hF a t (o+1) h2 λj v hj=>?_⟩;have:=hc (j+1) v hj
  rwa [show o+(j+1)=o+1+j by omega]at this
theorem MY:∀(a:Ab) (us:AO),RepList μ F w a us->a.length=us.length
 |[],us,h=>by rw[RepList]at h;rw[h];rfl
 |x::a,us,h=>by
  rw[RepList]at h;obtain⟨u,t,rfl,h1,h2⟩:=h;rw[γ,γ,MY a t h2]
variable {S:Nat->Prop} (hS:∀ g,S g->∀ o,F g o)
include hS
mutual
theorem So:∀(x:D) (cs:AO),D.Is w S x cs->RepList μ F w x.av cs
 |.int k n,cs,h=>by
  rw[D.Is]at h;subst h;exact Gb (by rw[Rep];exact⟨rfl,rfl⟩)
 |.bool b,cs,h=>by
  rw[D.Is]at h;subst h;exact Gb (by rw[Rep];exact⟨rfl,rfl⟩)
 |.str s,cs,h=>by
  rw[D.Is]at h;obtain⟨rfl,hs⟩:=h;exact Gb (by rw[Rep];exact⟨rfl,rfl⟩)
 |.slice e xs,cs,h=>by
  rw[D.Is]at h;obtain⟨A,c,rfl,h1,h2,h3⟩:=h;rw[D.av];refine Gb ?_;rw[Rep];refine⟨Mz xs,A,c,by rw[JG],by rw[JG];exact h1,h2,λhne=>?_⟩;obtain⟨b,o,hA,hb,hr⟩:=h3 (by rintro rfl;exact hne rfl);exact⟨b,o,e,hA,YT b hb xs o hr⟩
 |.agg xs,cs,h=>by
  rw[D.Is]at h;rw[D.av];exact XC xs cs h
theorem YT{e:Nat}(b:Nat)(hb:S b):∀(xs:List D) (o:Nat),D.Row w S e b xs o->RepRows μ F w b e (Fs xs) o
 |[],o,_=>by rw[Fs,RepRows];trivial
 |x::r,o,h=>by
  rw[D.Row]at h;obtain⟨⟨cs,h1,h2,h3⟩,h4⟩:=h;have g:=So x cs h3;rw[Fs,RepRows];exact⟨by rw[MY _ _ g,h1],UX (hS b hb) _ _ _ g h2,YT b hb r (o+e) h4⟩
theorem XC:∀(xs:List D) (cs:AO),D.Cat w S xs cs->RepList μ F w (HI xs) cs
 |[],cs,h=>by
  rw[D.Cat]at h;subst h;rw[HI,RepList]
 |x::r,cs,h=>by
  rw[D.Cat]at h;obtain⟨c1,c2,rfl,h1,h2⟩:=h;rw[HI];exact MZ _ _ _ _ (So x c1 h1) (XC r c2 h2)
end
