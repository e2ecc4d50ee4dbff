/- What an argument reads as (XBase's D), as a value -/
import Derived.Test.YtlmhajfbpplpoaaGreatOAR
import Derived.Test.YtlmhajfbpplpoaaGreatOAB
set_option linter.all false
open List renaming cons_append->AqX,length_cons->ApI
namespace Go.Proofs.YtlmhajfbpplpoaaGreat
open Go.RowKit
set_option linter.unusedSectionVars false
mutual
def D.av:D->List AV
 |.int k n=>[.v (.int k n)]
 |.bool b=>[.v (.bool b)]
 |.str s=>[.v (.string s)]
 |.slice _ xs=>[.ls (EZ xs)]
 |.agg xs=>JO xs
def EZ:List D->List (List AV)
 |[]=>[]
 |x::r=>x.av::EZ r
def JO:List D->List AV
 |[]=>[]
 |x::r=>x.av++JO r
end
theorem Je:∀ xs:List D,(EZ xs).length=xs.length
 |[]=>rfl
 |x::r=>by rw[EZ,ApI,Je r,ApI]
theorem E0:∀ xs:List D,EZ xs=xs.map D.av
 |[]=>rfl
 |x::r=>by rw[EZ,E0 r];rfl
theorem P2:∀(a b:List AV),A8 a=true->A8 b=true->A8 (a++b)=true
 |[],_,_,hb=>hb
 |x::a,b,ha,hb=>by
  rw[AqX];rw[A8,Bool.and_eq_true]at ha ⊢;exact⟨ha.1,P2 a b ha.2 hb⟩
mutual
theorem VN:∀ x:D,A8 x.av=true
 |.int _ _=>rfl
 |.bool _=>rfl
 |.str _=>rfl
 |.slice _ _=>rfl
 |.agg xs=>by rw[D.av];exact Nh xs
theorem Nh:∀ xs:List D,A8 (JO xs)=true
 |[]=>rfl
 |x::r=>by rw[JO];exact P2 _ _ (VN x) (Nh r)
end
theorem LV:∀ xs:List D,H8 (EZ xs)=true
 |[]=>rfl
 |x::r=>by
  rw[EZ];have ih:=LV r;unfold H8 at ih ⊢;rw[List.all_cons,VN x,ih];rfl
section
variable {μ:Mu} {F:AP} {w:World}
theorem Mm:∀(a b:List AV) (us ts:List Value),RepList μ F w a us->RepList μ F w b ts->RepList μ F w (a++b) (us++ts)
 |[],b,us,ts,ha,hb=>by
  rw[RepList]at ha;subst ha;exact hb
 |x::a,b,us,ts,ha,hb=>by
  rw[RepList]at ha;obtain⟨u,t,rfl,h1,h2⟩:=ha;rw[AqX,AqX,RepList];exact⟨u,t++ts,rfl,h1,Mm a b t ts h2 hb⟩
theorem FL{x:AV}{u:Value}(h:Rep μ F w x u):RepList μ F w [x] [u]:=by
 rw[RepList];exact⟨u,[],rfl,h,by rw[RepList]⟩
theorem Tl{g:Nat}(hF:∀ o,F g o):∀(a:List AV) (us:List Value) (o:Nat),RepList μ F w a us->(∀ j u,us[j]? = some u->w.cell? ⟨g,o+j,none⟩=some u)->RepAt μ F w g a o
 |[],us,o,_,_=>by rw[RepAt];trivial
 |x::a,us,o,h,hc=>by
  rw[RepList]at h;obtain⟨u,t,rfl,h1,h2⟩:=h;rw[RepAt];refine⟨⟨hF o,u,hc 0 u rfl,h1⟩,Tl hF a t (o+1) h2 λj v hj=>?_⟩;have:=hc (j+1) v hj
  rwa [show o+(j+1)=o+1+j by omega]at this
theorem Ml:∀(a:List AV) (us:List Value),RepList μ F w a us->a.length=us.length
 |[],us,h=>by rw[RepList]at h;rw[h];rfl
 |x::a,us,h=>by
  rw[RepList]at h;obtain⟨u,t,rfl,h1,h2⟩:=h;rw[ApI,ApI,Ml a t h2]
variable {S:Nat->Prop} (hS:∀ g,S g->∀ o,F g o)
include hS
mutual
theorem Ra:∀(x:D) (cs:List Value),D.Is w S x cs->RepList μ F w x.av cs
 |.int k n,cs,h=>by
  rw[D.Is]at h;subst h;exact FL (by rw[Rep];exact⟨rfl,rfl⟩)
 |.bool b,cs,h=>by
  rw[D.Is]at h;subst h;exact FL (by rw[Rep];exact⟨rfl,rfl⟩)
 |.str s,cs,h=>by
  rw[D.Is]at h;obtain⟨rfl,hs⟩:=h;exact FL (by rw[Rep];exact⟨rfl,rfl⟩)
 |.slice e xs,cs,h=>by
  rw[D.Is]at h;obtain⟨A,c,rfl,h1,h2,h3⟩:=h;rw[D.av];refine FL ?_;rw[Rep];refine⟨LV xs,A,c,by rw[Je],by rw[Je];exact h1,h2,λhne=>?_⟩;obtain⟨b,o,hA,hb,hr⟩:=h3 (by rintro rfl;exact hne rfl);exact⟨b,o,e,hA,WR b hb xs o hr⟩
 |.agg xs,cs,h=>by
  rw[D.Is]at h;rw[D.av];exact VR xs cs h
theorem WR{e:Nat}(b:Nat)(hb:S b):∀(xs:List D) (o:Nat),D.Row w S e b xs o->RepRows μ F w b e (EZ xs) o
 |[],o,_=>by rw[EZ,RepRows];trivial
 |x::r,o,h=>by
  rw[D.Row]at h;obtain⟨⟨cs,h1,h2,h3⟩,h4⟩:=h;have g:=Ra x cs h3;rw[EZ,RepRows];exact⟨by rw[Ml _ _ g,h1],Tl (hS b hb) _ _ _ g h2,WR b hb r (o+e) h4⟩
theorem VR:∀(xs:List D) (cs:List Value),D.Cat w S xs cs->RepList μ F w (JO xs) cs
 |[],cs,h=>by
  rw[D.Cat]at h;subst h;rw[JO,RepList]
 |x::r,cs,h=>by
  rw[D.Cat]at h;obtain⟨c1,c2,rfl,h1,h2⟩:=h;rw[JO];exact Mm _ _ _ _ (Ra x c1 h1) (VR r c2 h2)
end
end
end Go.Proofs.YtlmhajfbpplpoaaGreat
