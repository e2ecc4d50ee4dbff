/- What an argument reads a -/
import Derived.Test.YtlmhajfbpplpoaaGreatPAR
import Derived.Test.YtlmhajfbpplpoaaGreatPAB
set_option linter.all false
open List renaming cons_append->ArR,length_cons->ν
namespace Go.Proofs.YtlmhajfbpplpoaaGreat
open Go.RowKit
set_option linter.unusedSectionVars false
mutual
def D.av:D->List AV
 |.int k n=>[.v (.int k n)]
 |.bool b=>[.v (.bool b)]
 |.str s=>[.v (.string s)]
 |.slice _ xs=>[.ls (FK xs)]
 |.agg xs=>JQ xs
def FK:List D->List (List AV)
 |[]=>[]
 |x::r=>x.av::FK r
def JQ:List D->List AV
 |[]=>[]
 |x::r=>x.av++JQ r
end
theorem Kc:∀ xs:List D,(FK xs).length=xs.length
 |[]=>rfl
 |x::r=>by rw[FK,ν,Kc r,ν]
theorem FL:∀ xs:List D,FK xs=xs.map D.av
 |[]=>rfl
 |x::r=>by rw[FK,FL r];rfl
theorem Q5:∀(a b:List AV),AP a=true->AP b=true->AP (a++b)=true
 |[],_,_,hb=>hb
 |x::a,b,ha,hb=>by
  rw[ArR];rw[AP,Bool.and_eq_true]at ha ⊢;exact⟨ha.1,Q5 a b ha.2 hb⟩
mutual
theorem W8:∀ x:D,AP x.av=true
 |.int _ _=>rfl
 |.bool _=>rfl
 |.str _=>rfl
 |.slice _ _=>rfl
 |.agg xs=>by rw[D.av];exact Oj xs
theorem Oj:∀ xs:List D,AP (JQ xs)=true
 |[]=>rfl
 |x::r=>by rw[JQ];exact Q5 _ _ (W8 x) (Oj r)
end
theorem M7:∀ xs:List D,I7 (FK xs)=true
 |[]=>rfl
 |x::r=>by
  rw[FK];have ih:=M7 r;unfold I7 at ih ⊢;rw[List.all_cons,W8 x,ih];rfl
section
variable {μ:Mu} {F:Az} {w:World}
theorem Nt:∀(a b:List AV) (us ts:List Value),RepList μ F w a us->RepList μ F w b ts->RepList μ F w (a++b) (us++ts)
 |[],b,us,ts,ha,hb=>by
  rw[RepList]at ha;subst ha;exact hb
 |x::a,b,us,ts,ha,hb=>by
  rw[RepList]at ha;obtain⟨u,t,rfl,h1,h2⟩:=ha;rw[ArR,ArR,RepList];exact⟨u,t++ts,rfl,h1,Nt a b t ts h2 hb⟩
theorem GA{x:AV}{u:Value}(h:Rep μ F w x u):RepList μ F w [x] [u]:=by
 rw[RepList];exact⟨u,[],rfl,h,by rw[RepList]⟩
theorem UH{g:Nat}(hF:∀ o,F g o):∀(a:List AV) (us:List Value) (o:Nat),RepList μ F w a us->(∀ j u,us[j]? = some u->w.cell? ⟨g,o+j,none⟩=some u)->RepAt μ F w g a o
 |[],us,o,_,_=>by rw[RepAt];trivial
 |x::a,us,o,h,hc=>by
  rw[RepList]at h;obtain⟨u,t,rfl,h1,h2⟩:=h;rw[RepAt];refine⟨⟨hF o,u,hc 0 u rfl,h1⟩,UH hF a t (o+1) h2 λj v hj=>?_⟩;have:=hc (j+1) v hj
  rwa [show o+(j+1)=o+1+j by omega]at this
theorem Ns:∀(a:List AV) (us:List Value),RepList μ F w a us->a.length=us.length
 |[],us,h=>by rw[RepList]at h;rw[h];rfl
 |x::a,us,h=>by
  rw[RepList]at h;obtain⟨u,t,rfl,h1,h2⟩:=h;rw[ν,ν,Ns a t h2]
variable {S:Nat->Prop} (hS:∀ g,S g->∀ o,F g o)
include hS
mutual
theorem Sa:∀(x:D) (cs:List Value),D.Is w S x cs->RepList μ F w x.av cs
 |.int k n,cs,h=>by
  rw[D.Is]at h;subst h;exact GA (by rw[Rep];exact⟨rfl,rfl⟩)
 |.bool b,cs,h=>by
  rw[D.Is]at h;subst h;exact GA (by rw[Rep];exact⟨rfl,rfl⟩)
 |.str s,cs,h=>by
  rw[D.Is]at h;obtain⟨rfl,hs⟩:=h;exact GA (by rw[Rep];exact⟨rfl,rfl⟩)
 |.slice e xs,cs,h=>by
  rw[D.Is]at h;obtain⟨A,c,rfl,h1,h2,h3⟩:=h;rw[D.av];refine GA ?_;rw[Rep];refine⟨M7 xs,A,c,by rw[Kc],by rw[Kc];exact h1,h2,λhne=>?_⟩;obtain⟨b,o,hA,hb,hr⟩:=h3 (by rintro rfl;exact hne rfl);exact⟨b,o,e,hA,Yi b hb xs o hr⟩
 |.agg xs,cs,h=>by
  rw[D.Is]at h;rw[D.av];exact Xd xs cs h
theorem Yi{e:Nat}(b:Nat)(hb:S b):∀(xs:List D) (o:Nat),D.Row w S e b xs o->RepRows μ F w b e (FK xs) o
 |[],o,_=>by rw[FK,RepRows];trivial
 |x::r,o,h=>by
  rw[D.Row]at h;obtain⟨⟨cs,h1,h2,h3⟩,h4⟩:=h;have g:=Sa x cs h3;rw[FK,RepRows];exact⟨by rw[Ns _ _ g,h1],UH (hS b hb) _ _ _ g h2,Yi b hb r (o+e) h4⟩
theorem Xd:∀(xs:List D) (cs:List Value),D.Cat w S xs cs->RepList μ F w (JQ xs) cs
 |[],cs,h=>by
  rw[D.Cat]at h;subst h;rw[JQ,RepList]
 |x::r,cs,h=>by
  rw[D.Cat]at h;obtain⟨c1,c2,rfl,h1,h2⟩:=h;rw[JQ];exact Nt _ _ _ _ (Sa x c1 h1) (Xd r c2 h2)
end
end
end Go.Proofs.YtlmhajfbpplpoaaGreat
