/- What an argument reads a -/
import Derived.Test.YtpncilciembjdaaGreatDoorCAL
import Derived.Test.YtpncilciembjdaaGreatDoorCAO
set_option linter.all false
open List renaming cons_append->AuH,length_cons->γ
namespace Go.Proofs.YtpncilciembjdaaGreatDoor
open Go.RowKit
set_option linter.unusedSectionVars false
mutual
def D.av:D->List AV
 |.int k n=>[.v (.int k n)]
 |.bool b=>[.v (.bool b)]
 |.str s=>[.v (.string s)]
 |.slice _ xs=>[.ls (E9 xs)]
 |.agg xs=>Ja xs
def E9:List D->List (List AV)
 |[]=>[]
 |x::r=>x.av::E9 r
def Ja:List D->List AV
 |[]=>[]
 |x::r=>x.av++Ja r
end
theorem Jr:∀ xs:List D,(E9 xs).length=xs.length
 |[]=>rfl
 |x::r=>by rw[E9,γ,Jr r,γ]
theorem GM:∀ xs:List D,E9 xs=xs.map D.av
 |[]=>rfl
 |x::r=>by rw[E9,GM r];rfl
theorem QB:∀(a b:List AV),AQ a=true->AQ b=true->AQ (a++b)=true
 |[],_,_,hb=>hb
 |x::a,b,ha,hb=>by
  rw[AuH];rw[AQ,Bool.and_eq_true]at ha ⊢;exact⟨ha.1,QB a b ha.2 hb⟩
mutual
theorem WG:∀ x:D,AQ x.av=true
 |.int _ _=>rfl
 |.bool _=>rfl
 |.str _=>rfl
 |.slice _ _=>rfl
 |.agg xs=>by rw[D.av];exact Nz xs
theorem Nz:∀ xs:List D,AQ (Ja xs)=true
 |[]=>rfl
 |x::r=>by rw[Ja];exact QB _ _ (WG x) (Nz r)
end
theorem Mj:∀ xs:List D,Jh (E9 xs)=true
 |[]=>rfl
 |x::r=>by
  rw[E9];have ih:=Mj r;unfold Jh at ih ⊢;rw[List.all_cons,WG x,ih];rfl
section
variable {μ:Mu} {F:AN} {w:World}
theorem MG:∀(a b:List AV) (us ts:List Value),RepList μ F w a us->RepList μ F w b ts->RepList μ F w (a++b) (us++ts)
 |[],b,us,ts,ha,hb=>by
  rw[RepList]at ha;subst ha;exact hb
 |x::a,b,us,ts,ha,hb=>by
  rw[RepList]at ha;obtain⟨u,t,rfl,h1,h2⟩:=ha;rw[AuH,AuH,RepList];exact⟨u,t++ts,rfl,h1,MG a b t ts h2 hb⟩
theorem FQ{x:AV}{u:Value}(h:Rep μ F w x u):RepList μ F w [x] [u]:=by
 rw[RepList];exact⟨u,[],rfl,h,by rw[RepList]⟩
theorem Ui{g:Nat}(hF:∀ o,F g o):∀(a:List AV) (us:List Value) (o:Nat),RepList μ F w a us->(∀ j u,us[j]? = some u->w.cell? ⟨g,o+j,none⟩=some u)->RepAt μ F w g a o
 |[],us,o,_,_=>by rw[RepAt];trivial
 |x::a,us,o,h,hc=>by
  rw[RepList]at h;obtain⟨u,t,rfl,h1,h2⟩:=h;rw[RepAt];refine⟨⟨hF o,u,hc 0 u rfl,h1⟩,Ui hF a t (o+1) h2 λj v hj=>?_⟩;have:=hc (j+1) v hj
  rwa [show o+(j+1)=o+1+j by omega]at this
theorem MF:∀(a:List AV) (us:List Value),RepList μ F w a us->a.length=us.length
 |[],us,h=>by rw[RepList]at h;rw[h];rfl
 |x::a,us,h=>by
  rw[RepList]at h;obtain⟨u,t,rfl,h1,h2⟩:=h;rw[γ,γ,MF a t h2]
variable {S:Nat->Prop} (hS:∀ g,S g->∀ o,F g o)
include hS
mutual
theorem OG:∀(x:D) (cs:List Value),D.Is w S x cs->RepList μ F w x.av cs
 |.int k n,cs,h=>by
  rw[D.Is]at h;subst h;exact FQ (by rw[Rep];exact⟨rfl,rfl⟩)
 |.bool b,cs,h=>by
  rw[D.Is]at h;subst h;exact FQ (by rw[Rep];exact⟨rfl,rfl⟩)
 |.str s,cs,h=>by
  rw[D.Is]at h;obtain⟨rfl,hs⟩:=h;exact FQ (by rw[Rep];exact⟨rfl,rfl⟩)
 |.slice e xs,cs,h=>by
  rw[D.Is]at h;obtain⟨A,c,rfl,h1,h2,h3⟩:=h;rw[D.av];refine FQ ?_;rw[Rep];refine⟨Mj xs,A,c,by rw[Jr],by rw[Jr];exact h1,h2,λhne=>?_⟩;obtain⟨b,o,hA,hb,hr⟩:=h3 (by rintro rfl;exact hne rfl);exact⟨b,o,e,hA,XX b hb xs o hr⟩
 |.agg xs,cs,h=>by
  rw[D.Is]at h;rw[D.av];exact WI xs cs h
theorem XX{e:Nat}(b:Nat)(hb:S b):∀(xs:List D) (o:Nat),D.Row w S e b xs o->RepRows μ F w b e (E9 xs) o
 |[],o,_=>by rw[E9,RepRows];trivial
 |x::r,o,h=>by
  rw[D.Row]at h;obtain⟨⟨cs,h1,h2,h3⟩,h4⟩:=h;have g:=OG x cs h3;rw[E9,RepRows];exact⟨by rw[MF _ _ g,h1],Ui (hS b hb) _ _ _ g h2,XX b hb r (o+e) h4⟩
theorem WI:∀(xs:List D) (cs:List Value),D.Cat w S xs cs->RepList μ F w (Ja xs) cs
 |[],cs,h=>by
  rw[D.Cat]at h;subst h;rw[Ja,RepList]
 |x::r,cs,h=>by
  rw[D.Cat]at h;obtain⟨c1,c2,rfl,h1,h2⟩:=h;rw[Ja];exact MG _ _ _ _ (OG x c1 h1) (WI r c2 h2)
end
