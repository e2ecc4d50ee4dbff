/- When two formulas are th -/
import Derived.Test.YtmbfbclboenajaaGreatFBF
set_option linter.all false
open Bool renaming false->Φ,true->Δ
open Int renaming lt_trichotomy->AsO,mul_neg->At5,mul_one->Auv,natAbs_natCast->AsK,neg_neg->AtG
open List renaming append_nil->ArB,cons_append->Arm,drop_eq_getElem_cons->κ,drop_eq_nil_of_le->AqX,drop_zero->AqQ,filterMap_append->At7,filterMap_cons->Ast,filterMap_eq_nil_iff->AsS,filterMap_nil->Auh,filter_cons->AsZ,foldl_cons->Asn,getElem?_eq_getElem->ξ,getElem_mem->Arc,getElem_take->Aur,length_append->υ,length_cons->AqR,length_map->Aq7,length_set->Are,length_take->Aq9,map_congr_left->Ar4,map_cons->Aq8,map_eq_nil_iff->Asj,map_id->Au3,map_map->Asa,mem_append->Arr,mem_append_left->Atz,mem_append_right->Atw,mem_cons->AqU,mem_cons_of_mem->ο,mem_cons_self->AqS,mem_filterMap->Asf,mem_iff_getElem->Aud,mem_map->Arj,mem_singleton->Arh,nil_append->Aq4,nodup_append->Atj,nodup_cons->Asy,nodup_nil->AtC,pairwise_cons->Arx,pairwise_map->AsR
open Nat renaming add_sub_cancel->Ar1,gcd->Asi,le_refl->π,le_trans->ArJ
open Option renaming none->Ξ,some->Θ,map_some->Arv
open Prod renaming ext_iff->Au2
namespace Go.Proofs.YtmbfbclboenajaaGreat
open ABlk renaming mk->θ
open Option.some renaming injEq->ψ
open Go.RowKit
def IS(a b:Int):Int:=if a=0 then b else a
theorem O0{a b:Int}:IS a b=0 ↔ a=0/\b=0:=by
 unfold IS;split<;>simp_all
theorem E6{a b:Int}:Cp a b=0 ↔ a=b:=by
 unfold Cp;split
 .omega
 .split<;>omega
def Gc(p q:Int × Int):Int:=IS (Cp p.1 q.1) (Cp p.2 q.2)
theorem N3{p q:Int × Int}:Gc p q=0 ↔ p=q:=by
 unfold Gc;rw[O0,E6,E6,Au2]
def GO:List (Int × Int)->List (Int × Int)->Option Int
 |[],_=>Ξ
 |_::_,[]=>Θ 1
 |p::a,q::b=>if Gc p q=0 then GO a b else Θ (Gc p q)
def HI(a b:List (Int × Int)):Int:=match GO a b with
 |some n=>n
 |none=>if a.length<b.length then -1 else 0
theorem RG:∀{a b:List (Int × Int)} {n:Int},GO a b=Θ n->n≠0
 |[],_,_,h=>by cases h
 |_::_,[],n,h=>by
  rw[GO]at h;injection h with h
  omega
 |p::a,q::b,n,h=>by
  rw[GO]at h;split at h
  .exact RG h
  .rename_i h0
   injection h with h
   rw[←h];exact h0
theorem Qg:∀{a b:List (Int × Int)},GO a b=Ξ->¬ a.length<b.length->a=b
 |[],b,_,h=>by
  cases b with
  |nil=>rfl
  |cons _ _=>simp at h
 |_::_,[],h,_=>by cases h
 |p::a,q::b,h,hl=>by
  rw[GO]at h;split at h
  .rename_i h0
   rw[N3.1 h0,Qg h (by simpa using hl)]
  .cases h
theorem Qh:∀ a:List (Int × Int),GO a a=Ξ
 |[]=>rfl
 |p::a=>by rw[GO,if_pos (N3.2 rfl),Qh a]
theorem VD{a b:List (Int × Int)}:HI a b=0 ↔ a=b:=by
 unfold HI;constructor
 .intro h
  cases e:GO a b with
  |some n=>
   rw[e]at h;exact absurd h (RG e)
  |none=>
   rw[e]at h;refine Qg e λhl=>?_
   simp only[if_pos hl]at h;omega
 .rintro rfl
  rw[Qh];simp
def M7(a b:Lf):Int:=IS (HI a.ps b.ps) (Cp a.k b.k)
theorem LD{a b:Lf}:M7 a b=0 ↔ a=b:=by
 obtain⟨p,k⟩:=a;obtain⟨q,j⟩:=b;unfold M7;rw[O0,VD,E6];simp
def UG(e:Bool):Int:=if e then 1 else 0
def Tw(a b:Lf)(e f:Bool):Int:=IS (M7 a b) (Cp (UG e) (UG f))
theorem YZ{a b:Lf}{e f:Bool}:Tw a b e f=0 ↔ a=b/\e=f:=by
 unfold Tw;rw[O0,LD,E6]
 cases e<;>cases f<;>simp[UG]
theorem CanFs.mem:∀{l:List Fm},CanFs l->∀ x∈l,CanF x
 |_::_,.cons h hr,x,hx=>by
  rcases AqU.1 hx with rfl|hx
  .exact h
  .exact hr.mem x hx
theorem CanF.kids{x:Fm}(h:CanF x):∀ y∈x.kids,CanF y:=by
 cases h with
 |tru b=>intro y hy;cases b<;>cases hy
 |atom l e h=>intro y hy;cases hy
 |no x h=>intro y hy;rcases Arh.1 hy with rfl;exact h
 |and l h=>exact h.mem
 |or l h=>exact h.mem
 |no0=>intro y hy;cases hy
theorem CanF.head{x:Fm}(h:CanF x):(x.kind=2/\x.kids=[]/\∃ l:Lf,l.pln=l/\x.tm=l.tm)\/(x.kind≠2/\x.tm=Tm0/\x.eq=Φ):=by
 cases h with
 |tru b=>exact .inr ⟨by cases b<;>decide,rfl,rfl⟩
 |atom l e h=>exact .inl ⟨rfl,rfl,l,h,rfl⟩
 |no x h=>exact .inr ⟨by show (3:Int)≠2;decide,rfl,rfl⟩
 |and l h=>exact .inr ⟨by show (4:Int)≠2;decide,rfl,rfl⟩
 |or l h=>exact .inr ⟨by show (5:Int)≠2;decide,rfl,rfl⟩
 |no0=>exact .inr ⟨by show (3:Int)≠2;decide,rfl,rfl⟩
def LU:List Int->List Int->Int
 |[],[]=>0
 |[],_::_=>-1
 |_::_,[]=>1
 |a::r,b::s=>IS (Cp a b) (LU r s)
def Y3:List (Int × Int)->List Int
 |[]=>[0]
 |p::r=>1::p.1::p.2::Y3 r
def Ai3(x:Lf × Bool):List Int:=Y3 x.1.ps++[x.1.k,UG x.2]
theorem L6(a b c:Int):IS (IS a b) c=IS a (IS b c):=by
 unfold IS
 by_cases h:a=0
 .rw[if_pos h,if_pos h]
 .rw[if_neg h,if_neg h,if_neg h]
theorem AjX(a:Int):IS a 0=a:=by
 unfold IS;split<;>omega
theorem VC(p q:Int × Int)(a b:List (Int × Int)):HI (p::a) (q::b)=IS (Gc p q) (HI a b):=by
 unfold HI IS;rw[GO]
 by_cases h:Gc p q=0
 .rw[if_pos h,if_pos h]
  simp only[AqR,Nat.add_lt_add_iff_right]
 .rw[if_neg h,if_neg h]
theorem XI:∀(a b:List (Int × Int)) (u v:List Int),LU (Y3 a++u) (Y3 b++v)=IS (HI a b) (LU u v)
 |[],[],u,v=>rfl
 |[],q::b,u,v=>rfl
 |p::a,[],u,v=>rfl
 |p::a,q::b,u,v=>by
  rw[VC,L6,←XI a b u v]
  show IS (Cp 1 1) (IS (Cp p.1 q.1) (IS (Cp p.2 q.2) (LU (Y3 a++u) (Y3 b++v))))=_
  unfold Gc;rw[L6];rfl
def DY(x y:Lf × Bool):Int:=Tw x.1 y.1 x.2 y.2
theorem N4(x y:Lf × Bool):DY x y=LU (Ai3 x) (Ai3 y):=by
 unfold Ai3 DY Tw M7;rw[XI,L6]
 show IS _ (IS _ _)=IS _ (IS _ (IS _ 0))
 rw[AjX]
theorem RH(a b:Int):Cp a b<0 ↔ a<b:=by
 unfold Cp;split
 .omega
 .split<;>omega
theorem Aa7(a b:Int):Cp b a=-Cp a b:=by
 unfold Cp
 repeat' split
 all_goals omega
theorem XJ:∀ a b:List Int,LU b a=-LU a b
 |[],[]=>rfl
 |[],_::_=>rfl
 |_::_,[]=>rfl
 |a::r,b::s=>by
  rw[LU,LU,XJ r s,Aa7 a b];unfold IS;split<;>split<;>omega
theorem QC:∀{a b c:List Int},LU a b<0->LU b c<0->LU a c<0
 |[],_,[],h1,h2=>by
  rename_i b
  cases b with
  |nil=>exact h1
  |cons=>exact absurd h2 (by decide:¬ (1:Int)<0)
 |[],_,_::_,_,_=>(by decide:(-1:Int)<0)
 |_::_,[],_,h1,_=>absurd h1 (by decide:¬ (1:Int)<0)
 |_::_,_::_,[],_,h2=>absurd h2 (by decide:¬ (1:Int)<0)
 |a::r,b::s,c::t,h1,h2=>by
  rw[LU]at h1 h2 ⊢;unfold IS at h1 h2 ⊢
  by_cases e1:Cp a b=0
  .rw[if_pos e1]at h1
   have:=E6.1 e1;subst this
   by_cases e2:Cp a c=0
   .rw[if_pos e2]at h2 ⊢
    exact QC h1 h2
   .rw[if_neg e2]at h2 ⊢
    exact h2
  .rw[if_neg e1,RH]at h1
   by_cases e2:Cp b c=0
   .have:=E6.1 e2
    subst this;rw[if_neg e1,RH];exact h1
   .rw[if_neg e2,RH]at h2
    have h3:Cp a c<0:=(RH a c).2 (by omega);rw[if_neg (by omega)];exact h3
theorem J9(x y:Lf × Bool):DY y x=-DY x y:=by rw[N4,N4,XJ]
theorem N5{x y z:Lf × Bool}(h1:DY x y<0)(h2:DY y z<0):DY x z<0:=by
 rw[N4]at *;exact QC h1 h2
theorem IH{x y:Lf × Bool}:DY x y=0 ↔ x=y:=by
 unfold DY;rw[YZ,Au2]
theorem IG(x:Lf × Bool):DY x x=0:=IH.2 rfl
def IZ(l:List (Lf × Bool)):Prop:=l.Pairwise λx y=>DY x y<0
theorem Tl:∀{a b:List (Lf × Bool)},IZ a->IZ b->(∀ x,x∈a ↔ x∈b)->a=b
 |[],[],_,_,_=>rfl
 |[],y::b,_,_,h=>absurd ((h y).2 (AqS ..)) (by simp)
 |x::a,[],_,_,h=>absurd ((h x).1 (AqS ..)) (by simp)
 |x::a,y::b,ha,hb,h=>by
  unfold IZ at ha hb;obtain⟨a1,a2⟩:=Arx.1 ha;obtain⟨b1,b2⟩:=Arx.1 hb;have hxy:x=y:=by
   rcases AqU.1 ((h x).1 (AqS ..)) with h1|h1
   .exact h1
   .rcases AqU.1 ((h y).2 (AqS ..)) with h2|h2
    .exact h2.symm
    .have h3:=a1 y h2
     have h4:=b1 x h1;rw[J9 x y]at h4;omega
  subst hxy;rw[Tl a2 b2 λz=>?_];constructor
  .intro hz
   rcases AqU.1 ((h z).1 (ο _ hz)) with h1|h1
   .have:=a1 z hz
    rw[h1,IG]at this;omega
   .exact h1
  .intro hz
   rcases AqU.1 ((h z).2 (ο _ hz)) with h1|h1
   .have:=b1 z hz
    rw[h1,IG]at this;omega
   .exact h1
def ET(r:Lf × Bool):List (Lf × Bool)->List (Lf × Bool)
 |[]=>[r]
 |s::l=>if DY r s<=0 then r::s::l else s::ET r l
theorem D7(r x:Lf × Bool):∀ l,x∈ET r l ↔ x=r\/x∈l
 |[]=>by simp[ET]
 |s::l=>by
  unfold ET;split
  .simp
  .rw[AqU,AqU,D7 r x l]
   constructor
   .rintro (h|h|h)
    .exact .inr (.inl h)
    .exact .inl h
    .exact .inr (.inr h)
   .rintro (h|h|h)
    .exact .inr (.inl h)
    .exact .inl h
    .exact .inr (.inr h)
theorem Gj{r:Lf × Bool}:∀{l:List (Lf × Bool)},IZ l->r∉l->IZ (ET r l)
 |[],_,_=>List.pairwise_singleton _ _
 |s::l,ha,hr=>by
  unfold IZ at ha;obtain⟨a1,a2⟩:=Arx.1 ha;unfold ET;have hne:DY r s≠0:=λh=>hr (by rw[IH.1 h];exact AqS ..)
  split
  .refine Arx.2 ⟨λx hx=>?_,ha⟩
   have h1:DY r s<0:=by omega
   rcases AqU.1 hx with rfl|hx
   .exact h1
   .exact N5 h1 (a1 x hx)
  .refine Arx.2 ⟨λx hx=>?_,Gj a2 λh=>hr (ο _ h)⟩
   rcases (D7 r x l).1 hx with rfl|hx
   .have:=J9 s x
    omega
   .exact a1 x hx
theorem Fk(r:Lf × Bool):∀ l:List (Lf × Bool),(ET r l).length=l.length+1
 |[]=>rfl
 |s::l=>by
  unfold ET;split
  .rfl
  .rw[AqR,Fk r l,AqR]
theorem Aa8(p:Tm):∀ q∈AO p.lf.ps,(Cu p:Int) ∣ q.2:=λq hq=>Int.natAbs_dvd_natAbs.1 (by rw[AsK];exact(Ko (AO p.lf.ps) 0).2 q hq)
abbrev RL:Type:=Lf × Bool
def He:List (Int × Int)->Int
 |[]=>0
 |p::_=>p.2
def negP(l:List (Int × Int)):List (Int × Int):=l.map λp=>(p.1,-p.2)
theorem Ck(l:List (Int × Int)):negP (negP l)=l:=by
 unfold negP;rw[Asa]
 conv=>rhs;rw[←Au3 l]
 refine Ar4 λp _=>?_
 show ((p.1,- -p.2):Int × Int)=p
 rw[AtG]
theorem CW(l:List (Int × Int)):He (negP l)=-He l:=by
 cases l with
 |nil=>rfl
 |cons p r=>rfl
structure TgR (r:RL):Prop where
 pln:Pln r.1.ps
 ne:r.1.ps≠[]
 one:DZ 0 r.1.ps=1
 eq:r.2=Δ->0<He r.1.ps
theorem TgR.hd{r:RL}(h:TgR r):He r.1.ps≠0:=by
 cases e:r.1.ps with
 |nil=>exact absurd e h.ne
 |cons p l=>exact h.pln.nz p (by rw[e];exact AqS ..)
structure Ln where
 ps:List (Int × Int)
 lo:Option Int
 hi:Option Int
def PZ(o:Option Int)(n:Int):Option Int:=match o with
 |none=>Θ n
 |some m=>if m<n then Θ n else Θ m
def Wu(o:Option Int)(n:Int):Option Int:=match o with
 |none=>Θ n
 |some m=>if n<m then Θ n else Θ m
def Hp(p:List (Int × Int))(f:Ln->Ln):List Ln->List Ln
 |[]=>[f ⟨p,Ξ,Ξ⟩]
 |x::r=>if x.ps=p then f x::r else x::Hp p f r
def I2(n:Int)(x:Ln):Ln:=⟨x.ps,PZ x.lo n,x.hi⟩
def FF(n:Int)(x:Ln):Ln:=⟨x.ps,x.lo,Wu x.hi n⟩
def EO(ls:List Ln)(r:RL):List Ln:=
 if 0<He r.1.ps then Hp r.1.ps (λx=>if r.2=Δ then FF (-r.1.k) (I2 (-r.1.k) x) else I2 (-r.1.k) x) ls
 else Hp (negP r.1.ps) (FF r.1.k) ls
def Ajt(T:List RL):List Ln:=T.foldl EO []
def GV(l:List Int):Option Int:=l.foldl PZ Ξ
def KO(l:List Int):Option Int:=l.foldl Wu Ξ
def KG(p:List (Int × Int))(r:RL):Option Int:=if r.1.ps=p then Θ (-r.1.k) else Ξ
def FG(p:List (Int × Int))(r:RL):Option Int:=if r.1.ps=p then(if r.2=Δ then Θ (-r.1.k) else Ξ) else if r.1.ps=negP p then Θ r.1.k else Ξ
def JY(T:List RL)(p:List (Int × Int)):Option Int:=GV (T.filterMap (KG p))
def JH(T:List RL)(p:List (Int × Int)):Option Int:=KO (T.filterMap (FG p))
def Lr(T:List RL)(p:List (Int × Int)):Prop:=0<He p/\∃ r∈T,r.1.ps=p\/r.1.ps=negP p
theorem Zs(l:List Int)(n:Int):GV (l++[n])=PZ (GV l) n:=by simp[GV]
theorem Zw(l:List Int)(n:Int):KO (l++[n])=Wu (KO l) n:=by simp[KO]
theorem Aih(z y:Int):PZ (Θ z) y=Θ (if z<y then y else z):=by
 show (if z<y then Θ y else Θ z)=_
 split<;>rfl
theorem Er:∀{l:List Int} {m:Int},GV l=Θ m ↔ m∈l/\∀ x∈l,x<=m:=by
 have key:∀(l:List Int) (o:Option Int) (m:Int),l.foldl PZ o=Θ m ↔ (m∈l\/o=Θ m)/\(∀ x∈l,x<=m)/\∀ x,o=Θ x->x<=m:=by
  intro l
  induction l with
  |nil=>
   intro o m;simp only[List.foldl_nil];constructor
   .intro h
    exact⟨.inr h,by simp,λx hx=>by rw[h]at hx;injection hx with hx;omega⟩
   .rintro⟨h|h,_⟩
    .simp at h
    .exact h
  |cons y l ih=>
   intro o m;rw[Asn,ih]
   have e:∀ x,PZ o y=Θ x ↔ (x=y/\∀ z,o=Θ z->z<=y)\/(o=Θ x/\y<=x):=λx=>by
    unfold PZ
    cases o with
    |none=>simp[eq_comm]
    |some z=>
     simp only[ψ];split
     .simp only[ψ]
      constructor
      .intro h
       exact .inl ⟨h.symm,λw hw=>by omega⟩
      .rintro (⟨h,_⟩|⟨h,h2⟩)<;>omega
     .simp only[ψ]
      constructor
      .intro h
       exact .inr ⟨h,by omega⟩
      .rintro (⟨h,h2⟩|⟨h,_⟩)
       .have:=h2 z rfl
        omega
       .exact h
   constructor
   .rintro⟨h1,h2,h3⟩
    refine⟨?_,?_,?_⟩
    .rcases h1 with h|h
     .exact .inl (ο _ h)
     .rcases (e m).1 h with⟨h,_⟩|⟨h,_⟩
      .rw[h];exact .inl (AqS ..)
      .exact .inr h
    .intro x hx
     rcases AqU.1 hx with rfl|hx
     .cases o with
      |none=>exact h3 x rfl
      |some z=>
       have:=h3 _ (Aih z x);split at this<;>omega
     .exact h2 x hx
    .intro x hx
     subst hx;have:=h3 _ (Aih x y);split at this<;>omega
   .rintro⟨h1,h2,h3⟩
    have hy:=h2 y (AqS ..);refine⟨?_,λx hx=>h2 x (ο _ hx),λx hx=>?_⟩
    .rcases h1 with h|h
     .rcases AqU.1 h with rfl|h
      .exact .inr ((e m).2 (.inl ⟨rfl,h3⟩))
      .exact .inl h
     .exact .inr ((e m).2 (.inr ⟨h,hy⟩))
    .rcases (e x).1 hx with⟨rfl,_⟩|⟨h,_⟩
     .exact hy
     .exact h3 x h
 intro l m;unfold GV;rw[key];simp
theorem Gn(l:List Int):KO l=(GV (l.map (- ·))).map (- ·):=by
 have key:∀(l:List Int) (o:Option Int),l.foldl Wu o=((l.map (- ·)).foldl PZ (o.map (- ·))).map (- ·):=by
  intro l
  induction l with
  |nil=>intro o;cases o<;>simp
  |cons y l ih=>
   intro o;rw[Asn,ih,Aq8,Asn]
   congr 2
   cases o with
   |none=>rfl
   |some z=>
    unfold Wu PZ;simp only[Arv]
    by_cases h:y<z
    .rw[if_pos h,if_pos (by omega)];rfl
    .rw[if_neg h,if_neg (by omega)];rfl
 exact key l Ξ
theorem Zx{l:List Int}{m:Int}:KO l=Θ m ↔ m∈l/\∀ x∈l,m<=x:=by
 rw[Gn,Option.map_eq_some_iff];constructor
 .rintro⟨a,ha,rfl⟩
  obtain⟨h1,h2⟩:=Er.1 ha;obtain⟨b,hb,rfl⟩:=Arj.1 h1;refine⟨by simpa using hb,λx hx=>?_⟩;have:-x ≤ -b:=h2 (-x) (Arj.2 ⟨x,hx,rfl⟩)
  show - -b<=x
  omega
 .rintro⟨h1,h2⟩
  refine⟨-m,Er.2 ⟨Arj.2 ⟨m,h1,rfl⟩,λx hx=>?_⟩,by simp⟩;obtain⟨b,hb,rfl⟩:=Arj.1 hx;have:=h2 b hb
  show -b ≤ -m
  omega
theorem Uq{a b:List Int}(h:∀ x,x∈a ↔ x∈b):GV a=GV b:=by
 cases e:GV a with
 |some m=>
  obtain⟨h1,h2⟩:=Er.1 e;exact(Er.2 ⟨(h m).1 h1,λx hx=>h2 x ((h x).2 hx)⟩).symm
 |none=>
  cases e2:GV b with
  |none=>rfl
  |some m=>
   obtain⟨h1,h2⟩:=Er.1 e2;rw[Er.2 ⟨(h m).2 h1,λx hx=>h2 x ((h x).1 hx)⟩]at e
   cases e
theorem AcN{a b:List Int}(h:∀ x,x∈a ↔ x∈b):KO a=KO b:=by
 rw[Gn,Gn,Uq λx=>?_];rw[Arj,Arj];constructor
 .rintro⟨y,hy,rfl⟩;exact⟨y,(h y).1 hy,rfl⟩
 .rintro⟨y,hy,rfl⟩;exact⟨y,(h y).2 hy,rfl⟩
theorem XK{S T:List RL}(h:∀ x,x∈S ↔ x∈T)(p:List (Int × Int)):JY S p=JY T p:=Uq λx=>by
 rw[Asf,Asf];constructor
 .rintro⟨y,hy,e⟩;exact⟨y,(h y).1 hy,e⟩
 .rintro⟨y,hy,e⟩;exact⟨y,(h y).2 hy,e⟩
theorem XB{S T:List RL}(h:∀ x,x∈S ↔ x∈T)(p:List (Int × Int)):JH S p=JH T p:=AcN λx=>by
 rw[Asf,Asf];constructor
 .rintro⟨y,hy,e⟩;exact⟨y,(h y).1 hy,e⟩
 .rintro⟨y,hy,e⟩;exact⟨y,(h y).2 hy,e⟩
structure LnOk (T:List RL) (x:Ln):Prop where
 lo:x.lo=JY T x.ps
 hi:x.hi=JH T x.ps
 key:Lr T x.ps
structure LsOk (T:List RL) (ls:List Ln):Prop where
 ok:∀ x∈ls,LnOk T x
 nodup:(ls.map Ln.ps).Nodup
 all:∀ p,Lr T p->p∈ls.map Ln.ps
theorem S5(p:List (Int × Int))(f:Ln->Ln)(hf:∀ x,(f x).ps=x.ps):∀ ls:List Ln,(Hp p f ls).map Ln.ps=if p∈ls.map Ln.ps then ls.map Ln.ps else ls.map Ln.ps++[p]
 |[]=>by simp[Hp,hf]
 |x::r=>by
  unfold Hp
  by_cases h:x.ps=p
  .rw[if_pos h,Aq8,hf,Aq8,if_pos (by rw[h];exact AqS ..)]
  .rw[if_neg h,Aq8,S5 p f hf r,Aq8]
   by_cases h2:p∈r.map Ln.ps
   .rw[if_pos h2,if_pos (ο _ h2)]
   .rw[if_neg h2,if_neg (λh3=>(AqU.1 h3).elim (λh4=>h h4.symm) h2)]
    rfl
theorem Vg(p:List (Int × Int))(f:Ln->Ln):∀(ls:List Ln),(ls.map Ln.ps).Nodup->∀ y,y∈Hp p f ls->(y∈ls/\y.ps≠p)\/(∃ x∈ls,x.ps=p/\y=f x)\/(p∉ls.map Ln.ps/\y=f ⟨p,Ξ,Ξ⟩)
 |[],_,y,hy=>by
  simp[Hp]at hy;exact .inr (.inr ⟨by simp,hy⟩)
 |x::r,hn,y,hy=>by
  rw[Aq8,Asy]at hn;unfold Hp at hy
  by_cases h:x.ps=p
  .rw[if_pos h]at hy
   rcases AqU.1 hy with rfl|hy
   .exact .inr (.inl ⟨x,AqS ..,h,rfl⟩)
   .refine .inl ⟨ο _ hy,λh2=>hn.1 ?_⟩
    rw[h,←h2];exact Arj.2 ⟨y,hy,rfl⟩
  .rw[if_neg h]at hy
   rcases AqU.1 hy with rfl|hy
   .exact .inl ⟨AqS ..,h⟩
   .rcases Vg p f r hn.2 y hy with⟨h1,h2⟩|⟨z,h1,h2,h3⟩|⟨h1,h2⟩
    .exact .inl ⟨ο _ h1,h2⟩
    .exact .inr (.inl ⟨z,ο _ h1,h2,h3⟩)
    .refine .inr (.inr ⟨λh3=>?_,h2⟩)
     rw[Aq8]at h3;rcases AqU.1 h3 with h4|h4
     .exact h h4.symm
     .exact h1 h4
theorem Wy{p:List (Int × Int)}(h:0<He p):negP p≠p:=λe=>by
 have:=CW p;rw[e]at this;omega
theorem ON(T:List RL)(r:RL)(p:List (Int × Int)):JY (T++[r]) p=match KG p r with
  |some n=>PZ (JY T p) n
  |none=>JY T p:=by
 unfold JY;rw[At7]
 cases h:KG p r with
 |none=>simp[h]
 |some n=>simp only[Ast,h,Auh];exact Zs _ _
theorem Oq(T:List RL)(r:RL)(p:List (Int × Int)):JH (T++[r]) p=match FG p r with
  |some n=>Wu (JH T p) n
  |none=>JH T p:=by
 unfold JH;rw[At7]
 cases h:FG p r with
 |none=>simp[h]
 |some n=>simp only[Ast,h,Auh];exact Zw _ _
theorem AjS{T:List RL}{p:List (Int × Int)}(hp:0<He p)(h:¬ Lr T p):JY T p=Ξ/\JH T p=Ξ:=by
 have h1:T.filterMap (KG p)=[]:=by
  rw[AsS];intro r hr;unfold KG;rw[if_neg λe=>h ⟨hp,r,hr,.inl e⟩]
 have h2:T.filterMap (FG p)=[]:=by
  rw[AsS];intro r hr;unfold FG;rw[if_neg λe=>h ⟨hp,r,hr,.inl e⟩,if_neg λe=>h ⟨hp,r,hr,.inr e⟩]
 unfold JY JH;rw[h1,h2];exact⟨rfl,rfl⟩
theorem AfV{T:List RL}{ls:List Ln}{r:RL}(hr:He r.1.ps≠0)(he:r.2=Δ->0<He r.1.ps)(h:LsOk T ls):LsOk (T++[r]) (EO ls r):=by
 obtain⟨p,f,hp,hf,hkp,hlo,hhi,hoth,hu⟩:∃(p:List (Int × Int)) (f:Ln->Ln),0<He p/\(∀ x,(f x).ps=x.ps)/\(r.1.ps=p\/r.1.ps=negP p)/\(∀ x:Ln,(f x).lo=match KG p r with|some n=>PZ x.lo n|none=>x.lo)/\(∀ x:Ln,(f x).hi=match FG p r with|some n=>Wu x.hi n|none=>x.hi)/\(∀ q,0<He q->q≠p->r.1.ps≠q/\r.1.ps≠negP q)/\EO ls r=Hp p f ls:=by
  by_cases h0:0<He r.1.ps
  .refine⟨r.1.ps,λx=>if r.2=Δ then FF (-r.1.k) (I2 (-r.1.k) x) else I2 (-r.1.k) x,h0,λx=>?_,.inl rfl,λx=>?_,λx=>?_,λq hq hne=>⟨λe=>hne e.symm,λe=>?_⟩,if_pos h0⟩
   .simp only
    split<;>rfl
   .unfold KG
    rw[if_pos rfl];simp only;split<;>rfl
   .unfold FG
    rw[if_pos rfl];simp only
    by_cases h2:r.2=Δ
    .rw[if_pos h2,if_pos h2];rfl
    .rw[if_neg h2,if_neg h2];rfl
   .have:=CW q
    rw[←e]at this;omega
  .refine⟨negP r.1.ps,FF r.1.k,by rw[CW];omega,λx=>rfl,.inr (Ck _).symm,λx=>?_,λx=>?_,λq hq hne=>⟨λe=>h0 (by rw[e];exact hq),λe=>hne (by rw[e,Ck])⟩,if_neg h0⟩
   .have:r.1.ps≠negP r.1.ps:=λe=>by
     have:=CW r.1.ps;rw[←e]at this;omega
    unfold KG;rw[if_neg this];rfl
   .have:r.1.ps≠negP r.1.ps:=λe=>by
     have:=CW r.1.ps;rw[←e]at this;omega
    unfold FG;rw[if_neg this,Ck,if_pos rfl];rfl
 have hkey:∀ q,Lr (T++[r]) q ↔ Lr T q\/q=p:=λq=>by
  constructor
  .rintro⟨h1,s,hs,h2⟩
   rcases Arr.1 hs with hs|hs
   .exact .inl ⟨h1,s,hs,h2⟩
   .rw[Arh]at hs
    subst hs;refine .inr ?_;rcases Classical.em (q=p) with e|e
    .exact e
    .obtain⟨a,b⟩:=hoth q h1 e
     rcases h2 with h2|h2
     .exact absurd h2 a
     .exact absurd h2 b
  .rintro (⟨h1,s,hs,h2⟩|rfl)
   .exact⟨h1,s,Atz _ hs,h2⟩
   .exact⟨hp,r,Atw _ (Arh.2 rfl),hkp⟩
 rw[hu];refine⟨λy hy=>?_,?_,λq hq=>?_⟩
 .rcases Vg p f ls h.nodup y hy with⟨h1,h2⟩|⟨x,h1,h2,rfl⟩|⟨h1,rfl⟩
  .have ok:=h.ok y h1
   obtain⟨a,b⟩:=hoth y.ps ok.key.1 h2;refine⟨?_,?_,(hkey _).2 (.inl ok.key)⟩
   .rw[ON]
    unfold KG;rw[if_neg a];exact ok.lo
   .rw[Oq]
    unfold FG;rw[if_neg a,if_neg b];exact ok.hi
  .have ok:=h.ok x h1
   refine⟨?_,?_,(hkey _).2 (.inr (by rw[hf,h2]))⟩
   .rw[hlo,hf,h2,ON,ok.lo,h2]
   .rw[hhi,hf,h2,Oq,ok.hi,h2]
  .have hnk:¬ Lr T p:=λhk=>h1 (h.all p hk)
   obtain⟨n1,n2⟩:=AjS hp hnk;refine⟨?_,?_,(hkey _).2 (.inr (by rw[hf]))⟩
   .rw[hlo,hf,ON,n1]
   .rw[hhi,hf,Oq,n2]
 .rw[S5 p f hf]
  split
  .exact h.nodup
  .rename_i hn
   rw[Atj];refine⟨h.nodup,Asy.2 ⟨by simp,AtC⟩,λa ha b hb e=>?_⟩;rw[Arh]at hb;subst hb;subst e;exact hn ha
 .rw[S5 p f hf]
  rcases (hkey q).1 hq with h1|rfl
  .split
   .exact h.all q h1
   .exact Atz _ (h.all q h1)
  .split
   .assumption
   .exact Atw _ (Arh.2 rfl)
theorem Um:∀(S T:List RL) (ls:List Ln),LsOk T ls->(∀ r∈S,TgR r)->LsOk (T++S) (S.foldl EO ls)
 |[],T,ls,h,_=>by rw[ArB];exact h
 |r::S,T,ls,h,hS=>by
  have hr:=hS r (AqS ..);have:=Um S (T++[r]) (EO ls r) (AfV hr.hd hr.eq h) λx hx=>hS x (ο _ hx)
  rw[List.append_assoc]at this;exact this
theorem LV{T:List RL}(h:∀ r∈T,TgR r):LsOk T (Ajt T):=by
 have:=Um T [] [] ⟨by simp,by simp,λp hp=>by obtain⟨_,r,hr,_⟩:=hp;cases hr⟩ h;rw[Aq4]at this;exact this
def Hc(p:List (Int × Int))(lo hi:Option Int)(r:RL):Prop:=
 (∃ a,lo=Θ a/\hi=Θ a/\r=(⟨p,-a⟩,Δ))\/(lo≠hi/\((∃ a,lo=Θ a/\r=(⟨p,-a⟩,Φ))\/∃ b,hi=Θ b/\r=(⟨negP p,b⟩,Φ)))
def Rm(T:List RL)(r:RL):Prop:=∃ p,Lr T p/\Hc p (JY T p) (JH T p) r
def AkC(T:List RL):Prop:=∀ p,Lr T p->∀ a b,JY T p=Θ a->JH T p=Θ b->a<=b
def Ht(T:List RL):Option (List RL)->Prop
 |none=>¬ AkC T
 |some l=>AkC T/\IZ l/\∀ r,r∈l ↔ Rm T r
theorem Aaj{T:List RL}:∀{o o':Option (List RL)},Ht T o->Ht T o'->o=o'
 |none,Ξ,_,_=>rfl
 |none,Θ _,h,h'=>absurd h'.1 h
 |some _,Ξ,h,h'=>absurd h.1 h'
 |some a,Θ b,h,h'=>congrArg Θ (Tl h.2.1 h'.2.1 λr=>by rw[h.2.2,h'.2.2])
theorem Ui{S T:List RL}(h:∀ x,x∈S ↔ x∈T)(p:List (Int × Int)):Lr S p ↔ Lr T p:=
 ⟨λ⟨a,r,b,c⟩=>⟨a,r,(h r).1 b,c⟩,λ⟨a,r,b,c⟩=>⟨a,r,(h r).2 b,c⟩⟩
theorem Ac0{S T:List RL}(h:∀ x,x∈S ↔ x∈T)(r:RL):Rm S r ↔ Rm T r:=by
 unfold Rm;constructor
 .rintro⟨p,hp,g⟩
  rw[XK h,XB h]at g;exact⟨p,(Ui h p).1 hp,g⟩
 .rintro⟨p,hp,g⟩
  rw[←XK h,←XB h]at g;exact⟨p,(Ui h p).2 hp,g⟩
def FL(x:Ln):Option (List RL):=match x.lo,x.hi with
 |some a,Θ b=>if b<a then Ξ else if a=b then Θ [(⟨x.ps,-a⟩,Δ)] else Θ [(⟨x.ps,-a⟩,Φ),(⟨negP x.ps,b⟩,Φ)]
 |some a,Ξ=>Θ [(⟨x.ps,-a⟩,Φ)]
 |none,Θ b=>Θ [(⟨negP x.ps,b⟩,Φ)]
 |none,Ξ=>Θ []
def Hk:List Ln->Option (List RL)
 |[]=>Θ []
 |x::r=>match FL x with
  |none=>Ξ
  |some l=>match Hk r with
   |none=>Ξ
   |some m=>Θ (l++m)
theorem Pe{x:Ln}{l:List RL}(h:FL x=Θ l):(∀ r,r∈l ↔ Hc x.ps x.lo x.hi r)/\(∀ a b,x.lo=Θ a->x.hi=Θ b->a<=b):=by
 obtain⟨ps,lo,hi⟩:=x;unfold FL at h;unfold Hc
 cases lo with
 |none=>
  cases hi with
  |none=>
   simp only[ψ]at h;subst h;simp
  |some b=>
   simp only[ψ]at h;subst h;refine⟨λr=>?_,by simp⟩;simp only[Arh];constructor
   .intro h;exact .inr ⟨by simp,.inr ⟨b,rfl,h⟩⟩
   .rintro (⟨a,ha,_⟩|⟨_,⟨a,ha,_⟩|⟨c,hc,h⟩⟩)
    .cases ha
    .cases ha
    .injection hc with hc;subst hc;exact h
 |some a=>
  cases hi with
  |none=>
   simp only[ψ]at h;subst h;refine⟨λr=>?_,by simp⟩;simp only[Arh];constructor
   .intro h;exact .inr ⟨by simp,.inl ⟨a,rfl,h⟩⟩
   .rintro (⟨c,_,hc,_⟩|⟨_,⟨c,hc,h⟩|⟨c,hc,_⟩⟩)
    .cases hc
    .injection hc with hc;subst hc;exact h
    .cases hc
  |some b=>
   simp only at h
   by_cases h1:b<a
   .rw[if_pos h1]at h;cases h
   rw[if_neg h1]at h;refine⟨λr=>?_,λc d hc hd=>by injection hc with hc;injection hd with hd;omega⟩
   by_cases h2:a=b
   .rw[if_pos h2]at h
    injection h with h
    subst h;subst h2;simp only[Arh];constructor
    .intro h;exact .inl ⟨a,rfl,rfl,h⟩
    .rintro (⟨c,hc,_,h⟩|⟨hne,_⟩)
     .injection hc with hc;subst hc;exact h
     .exact absurd rfl hne
   .rw[if_neg h2]at h
    injection h with h
    subst h;simp only[AqU,List.not_mem_nil,or_false];constructor
    .rintro (h|h)
     .exact .inr ⟨λe=>h2 (by injection e),.inl ⟨a,rfl,h⟩⟩
     .exact .inr ⟨λe=>h2 (by injection e),.inr ⟨b,rfl,h⟩⟩
    .rintro (⟨c,hc,hd,_⟩|⟨_,⟨c,hc,h⟩|⟨c,hc,h⟩⟩)
     .injection hc with hc;injection hd with hd;omega
     .injection hc with hc;subst hc;exact .inl h
     .injection hc with hc;subst hc;exact .inr h
theorem WK{x:Ln}(h:FL x=Ξ):∃ a b,x.lo=Θ a/\x.hi=Θ b/\b<a:=by
 obtain⟨ps,lo,hi⟩:=x;unfold FL at h
 cases lo with
 |none=>cases hi<;>cases h
 |some a=>
  cases hi with
  |none=>cases h
  |some b=>
   simp only at h
   by_cases h1:b<a
   .exact⟨a,b,rfl,rfl,h1⟩
   .rw[if_neg h1]at h
    split at h<;>cases h
def BZ(r:RL):List (Int × Int):=if 0<He r.1.ps then r.1.ps else negP r.1.ps
theorem IU{p:List (Int × Int)}{lo hi:Option Int}{r:RL}(hp:0<He p)(h:Hc p lo hi r):BZ r=p:=by
 unfold BZ;rcases h with⟨a,_,_,rfl⟩|⟨_,⟨a,_,rfl⟩|⟨b,_,rfl⟩⟩
 .exact if_pos hp
 .exact if_pos hp
 .rw[if_neg (by rw[CW];omega),Ck]
theorem UH{x:Ln}(hp:0<He x.ps){l:List RL}(h:FL x=Θ l):l.Nodup:=by
 obtain⟨ps,lo,hi⟩:=x;unfold FL at h;have one:∀ r:RL,[r].Nodup:=λr=>Asy.2 ⟨by simp,AtC⟩
 cases lo with
 |none=>
  cases hi with
  |none=>injection h with h;subst h;exact AtC
  |some b=>injection h with h;subst h;exact one _
 |some a=>
  cases hi with
  |none=>injection h with h;subst h;exact one _
  |some b=>
   simp only at h;split at h
   .cases h
   split at h
   .injection h with h;subst h;exact one _
   .injection h with h
    subst h;refine Asy.2 ⟨λhm=>?_,one _⟩;rw[Arh]at hm;have:=congrArg (λr:RL=>r.1.ps) hm;exact Wy hp this.symm
theorem IE:∀{ls:List Ln} {l:List RL},Hk ls=Θ l->(∀ r,r∈l ↔ ∃ x∈ls,Hc x.ps x.lo x.hi r)/\(∀ x∈ls,∀ a b,x.lo=Θ a->x.hi=Θ b->a<=b)
 |[],l,h=>by
  injection h with h
  subst h;simp
 |x::r,l,h=>by
  unfold Hk at h
  cases e1:FL x with
  |none=>rw[e1]at h;cases h
  |some u=>
   rw[e1]at h;simp only at h
   cases e2:Hk r with
   |none=>rw[e2]at h;cases h
   |some m=>
    rw[e2]at h;injection h with h
    subst h;obtain⟨h1,h2⟩:=Pe e1;obtain⟨h3,h4⟩:=IE e2;refine⟨λs=>?_,λy hy=>?_⟩
    .rw[Arr,h1,h3]
     simp only[AqU,exists_eq_or_imp]
    .rcases AqU.1 hy with rfl|hy
     .exact h2
     .exact h4 y hy
theorem P8:∀{ls:List Ln},Hk ls=Ξ->∃ x∈ls,∃ a b,x.lo=Θ a/\x.hi=Θ b/\b<a
 |x::r,h=>by
  unfold Hk at h
  cases e1:FL x with
  |none=>exact⟨x,AqS ..,WK e1⟩
  |some u=>
   rw[e1]at h;simp only at h
   cases e2:Hk r with
   |none=>
    obtain⟨y,hy,g⟩:=P8 e2;exact⟨y,ο _ hy,g⟩
   |some m=>rw[e2]at h;cases h
theorem NH:∀{ls:List Ln} {l:List RL},(ls.map Ln.ps).Nodup->(∀ x∈ls,0<He x.ps)->Hk ls=Θ l->l.Nodup
 |[],l,_,_,h=>by injection h with h;subst h;exact AtC
 |x::r,l,hn,hp,h=>by
  have hall:=h;unfold Hk at h
  cases e1:FL x with
  |none=>rw[e1]at h;cases h
  |some u=>
   rw[e1]at h;simp only at h
   cases e2:Hk r with
   |none=>rw[e2]at h;cases h
   |some m=>
    rw[e2]at h;injection h with h
    subst h;rw[Aq8,Asy]at hn;refine Atj.2 ⟨UH (hp x (AqS ..)) e1,NH hn.2 (λy hy=>hp y (ο _ hy)) e2,λa ha b hb e=>?_⟩;subst e;have k1:=IU (hp x (AqS ..)) (((Pe e1).1 a).1 ha);obtain⟨y,hy,g⟩:=((IE e2).1 a).1 hb;have k2:=IU (hp y (ο _ hy)) g;exact hn.1 (Arj.2 ⟨y,hy,by rw[←k2,k1]⟩)
theorem S2{T:List RL}{ls:List Ln}(h:LsOk T ls):(Hk ls=Ξ->Ht T Ξ)/\∀ l,Hk ls=Θ l->l.Nodup/\∀ s:List RL,IZ s->(∀ r,r∈s ↔ r∈l)->Ht T (Θ s):=by
 refine⟨λe=>?_,λl e=>⟨NH h.nodup (λx hx=>(h.ok x hx).key.1) e,λs hs hm=>?_⟩⟩
 .obtain⟨x,hx,a,b,h1,h2,h3⟩:=P8 e
  have ok:=h.ok x hx;intro f;have:=f x.ps ok.key a b (by rw[←ok.lo,h1]) (by rw[←ok.hi,h2]);omega
 .obtain⟨h1,h2⟩:=IE e
  refine⟨λp hp a b ha hb=>?_,hs,λr=>?_⟩
  .obtain⟨x,hx,rfl⟩:=Arj.1 (h.all p hp)
   have ok:=h.ok x hx;exact h2 x hx a b (by rw[ok.lo,ha]) (by rw[ok.hi,hb])
  .rw[hm,h1]
   constructor
   .rintro⟨x,hx,g⟩
    have ok:=h.ok x hx;rw[ok.lo,ok.hi]at g;exact⟨x.ps,ok.key,g⟩
   .rintro⟨p,hp,g⟩
    obtain⟨x,hx,rfl⟩:=Arj.1 (h.all p hp);have ok:=h.ok x hx;rw[←ok.lo,←ok.hi]at g;exact⟨x,hx,g⟩
theorem OO{T:List RL}{p:List (Int × Int)}{a:Int}:JY T p=Θ a ↔ (∃ r∈T,r.1.ps=p/\-r.1.k=a)/\∀ r∈T,r.1.ps=p->-r.1.k<=a:=by
 unfold JY;rw[Er,Asf];have e:∀(r:RL) (x:Int),KG p r=Θ x ↔ r.1.ps=p/\-r.1.k=x:=λr x=>by
  unfold KG
  by_cases h:r.1.ps=p
  .rw[if_pos h];simp[h]
  .rw[if_neg h];simp[h]
 constructor
 .rintro⟨⟨r,hr,h⟩,h2⟩
  exact⟨⟨r,hr,(e r a).1 h⟩,λs hs h3=>h2 _ (Asf.2 ⟨s,hs,(e s _).2 ⟨h3,rfl⟩⟩)⟩
 .rintro⟨⟨r,hr,h⟩,h2⟩
  refine⟨⟨r,hr,(e r a).2 h⟩,λx hx=>?_⟩;obtain⟨s,hs,h3⟩:=Asf.1 hx;obtain⟨h4,h5⟩:=(e s x).1 h3;rw[←h5];exact h2 s hs h4
def AtM(p:List (Int × Int))(r:RL)(b:Int):Prop:=(r.1.ps=p/\r.2=Δ/\-r.1.k=b)\/(r.1.ps≠p/\r.1.ps=negP p/\r.1.k=b)
theorem TR{T:List RL}{p:List (Int × Int)}{b:Int}:JH T p=Θ b ↔ (∃ r∈T,AtM p r b)/\∀ r∈T,∀ c,AtM p r c->b<=c:=by
 unfold JH;rw[Zx,Asf];have e:∀(r:RL) (x:Int),FG p r=Θ x ↔ AtM p r x:=λr x=>by
  unfold FG AtM
  by_cases h:r.1.ps=p
  .rw[if_pos h]
   by_cases h2:r.2=Δ
   .rw[if_pos h2];simp[h,h2]
   .rw[if_neg h2];simp[h,h2]
  .rw[if_neg h]
   by_cases h2:r.1.ps=negP p
   .rw[if_pos h2]
    constructor
    .intro g;injection g with g;exact .inr ⟨h,h2,g⟩
    .rintro (⟨g,_⟩|⟨_,_,g⟩)
     .exact absurd g h
     .rw[g]
   .rw[if_neg h2];simp[h,h2]
 constructor
 .rintro⟨⟨r,hr,h⟩,h2⟩
  exact⟨⟨r,hr,(e r b).1 h⟩,λs hs c h3=>h2 _ (Asf.2 ⟨s,hs,(e s _).2 h3⟩)⟩
 .rintro⟨⟨r,hr,h⟩,h2⟩
  refine⟨⟨r,hr,(e r b).2 h⟩,λx hx=>?_⟩;obtain⟨s,hs,h3⟩:=Asf.1 hx;exact h2 s hs x ((e s x).1 h3)
def BQ(b a:RL):Int:=if b.1.ps=a.1.ps then 1 else if b.1.ps=negP a.1.ps then -1 else 0
structure InS where
 first:Bool
 lo:Option Int
 hi:Option Int
def YP(b:RL)(s:Int):Int:=if s<0 then b.1.k else -b.1.k
def Gy(a:RL)(i:Nat)(k:Nat)(st:InS)(b:RL):InS:=
 if BQ b a=0 then st else ⟨st.first&&!decide (k<i),if 0<BQ b a\/b.2=Δ then PZ st.lo (YP b (BQ b a)) else st.lo,if BQ b a<0\/b.2=Δ then Wu st.hi (YP b (BQ b a)) else st.hi⟩
def Dy(a:RL)(i:Nat):Nat->InS->List RL->InS
 |_,st,[]=>st
 |k,st,b::r=>Dy a i (k+1) (Gy a i k st b) r
def Hl(T:List RL)(a:RL)(i:Nat):InS:=Dy a i 0 ⟨Δ,Ξ,Ξ⟩ T
def VV(ps:List (Int × Int))(v:Int):RL:=if He ps<0 then(⟨negP ps,v⟩,Δ) else(⟨ps,-v⟩,Δ)
def Zj(a:RL)(st:InS)(out:List RL):List RL:=match st.lo,st.hi with
 |some u,Θ v=>if u=v then ET (VV a.1.ps u) out else ET (⟨negP a.1.ps,v⟩,Φ) (ET (⟨a.1.ps,-u⟩,Φ) out)
 |some u,Ξ=>ET (⟨a.1.ps,-u⟩,Φ) out
 |none,Θ v=>ET (⟨negP a.1.ps,v⟩,Φ) out
 |none,Ξ=>out
def NT(st:InS):Bool:=match st.lo,st.hi with
 |some u,Θ v=>decide (v<u)
 |_,_=>Φ
def Fo(T:List RL):Nat->List RL->List RL->Option (List RL)
 |_,[],out=>Θ out
 |i,a::r,out=>if NT (Hl T a i)=Δ then Ξ else Fo T (i+1) r (if(Hl T a i).first=Δ then Zj a (Hl T a i) out else out)
def AcF(a b:RL):Option Int:=if 0<BQ b a\/(BQ b a≠0/\b.2=Δ) then Θ (YP b (BQ b a)) else Ξ
def TS(a b:RL):Option Int:=if BQ b a<0\/(BQ b a≠0/\b.2=Δ) then Θ (YP b (BQ b a)) else Ξ
theorem OQ(a:RL)(i:Nat):∀(r:List RL) (k:Nat) (st:InS),(Dy a i k st r).lo=(r.filterMap (AcF a)).foldl PZ st.lo/\(Dy a i k st r).hi=(r.filterMap (TS a)).foldl Wu st.hi/\((Dy a i k st r).first=Δ ↔ st.first=Δ/\∀ j (h:j<r.length),k+j<i->BQ r[j] a=0)
 |[],k,st=>by simp[Dy]
 |b::r,k,st=>by
  obtain⟨h1,h2,h3⟩:=OQ a i r (k+1) (Gy a i k st b);unfold Dy;rw[h1,h2,h3];refine⟨?_,?_,?_⟩
  .rw[Ast]
   unfold Gy AcF
   by_cases h0:BQ b a=0
   .rw[if_pos h0,if_neg (by rw[h0];simp)]
   .rw[if_neg h0]
    by_cases h4:0<BQ b a\/b.2=Δ
    .have:0<BQ b a\/(BQ b a≠0/\b.2=Δ):=h4.imp id λh=>⟨h0,h⟩
     rw[if_pos this];simp only[if_pos h4];rfl
    .have:¬ (0<BQ b a\/(BQ b a≠0/\b.2=Δ)):=λh=>h4 (h.imp id λh=>h.2)
     rw[if_neg this];simp only[if_neg h4]
  .rw[Ast]
   unfold Gy TS
   by_cases h0:BQ b a=0
   .rw[if_pos h0,if_neg (by rw[h0];simp)]
   .rw[if_neg h0]
    by_cases h4:BQ b a<0\/b.2=Δ
    .have:BQ b a<0\/(BQ b a≠0/\b.2=Δ):=h4.imp id λh=>⟨h0,h⟩
     rw[if_pos this];simp only[if_pos h4];rfl
    .have:¬ (BQ b a<0\/(BQ b a≠0/\b.2=Δ)):=λh=>h4 (h.imp id λh=>h.2)
     rw[if_neg this];simp only[if_neg h4]
  .have e:(Gy a i k st b).first=Δ ↔ st.first=Δ/\(k<i->BQ b a=0):=by
    unfold Gy
    by_cases h0:BQ b a=0
    .rw[if_pos h0]
     exact⟨λh=>⟨h,λ_=>h0⟩,λh=>h.1⟩
    .rw[if_neg h0]
     simp only[Bool.and_eq_true,Bool.not_eq_true',decide_eq_false_iff_not];exact⟨λh=>⟨h.1,λh4=>absurd h4 h.2⟩,λh=>⟨h.1,λh4=>h0 (h.2 h4)⟩⟩
   rw[e];constructor
   .rintro⟨⟨g1,g2⟩,g3⟩
    refine⟨g1,λj hj hk=>?_⟩
    cases j with
    |zero=>exact g2 (by omega)
    |succ j=>exact g3 j (by simpa using hj) (by omega)
   .rintro⟨g1,g2⟩
    exact⟨⟨g1,λh=>g2 0 (by simp) (by omega)⟩,λj hj hk=>g2 (j+1) (by simpa using hj) (by omega)⟩
def KJ(o:Option Int):Option Int:=o.map (- ·)
theorem Oi{g h:RL->Option Int}:∀{T:List RL},(∀ b∈T,g b=KJ (h b))->T.filterMap g=(T.filterMap h).map (- ·)
 |[],_=>rfl
 |b::r,e=>by
  rw[Ast,Ast,e b (AqS ..),Oi λc hc=>e c (ο _ hc)];unfold KJ
  cases h b<;>rfl
theorem RU{g h:RL->Option Int}:∀{T:List RL},(∀ b∈T,g b=h b)->T.filterMap g=T.filterMap h
 |[],_=>rfl
 |b::r,e=>by rw[Ast,Ast,e b (AqS ..),RU λc hc=>e c (ο _ hc)]
theorem AcH(l:List Int):GV (l.map (- ·))=KJ (KO l):=by
 rw[Gn];unfold KJ
 cases GV (l.map (- ·)) with
 |none=>rfl
 |some m=>simp
theorem AcO(l:List Int):KO (l.map (- ·))=KJ (GV l):=by
 rw[Gn,Asa];unfold KJ
 congr 2
 conv=>rhs;rw[←Au3 l]
 refine Ar4 λx _=>?_
 show - -x=x
 omega
theorem Acg{T:List RL}(hT:∀ r∈T,TgR r){a:RL}(ha:TgR a)(i:Nat) :
  (if 0<He a.1.ps then(Hl T a i).lo=JY T (BZ a)/\(Hl T a i).hi=JH T (BZ a) else(Hl T a i).lo=KJ (JH T (BZ a))/\(Hl T a i).hi=KJ (JY T (BZ a))):=by
 obtain⟨h1,h2,_⟩:=OQ a i T 0 ⟨Δ,Ξ,Ξ⟩;unfold Hl;rw[h1,h2]
 by_cases h0:0<He a.1.ps
 .rw[if_pos h0]
  have ek:BZ a=a.1.ps:=if_pos h0;rw[ek];have hne:∀ b∈T,b.1.ps=negP a.1.ps->b.2=Φ:=λb hb e=>by
   cases e2:b.2 with
   |false=>rfl
   |true=>
    have:=(hT b hb).eq e2;rw[e,CW]at this;omega
  refine⟨?_,?_⟩
  .show GV _=GV _
   rw[RU λb hb=>?_];unfold AcF KG BQ YP
   by_cases e1:b.1.ps=a.1.ps
   .rw[if_pos e1,if_pos e1];simp
   .rw[if_neg e1,if_neg e1]
    by_cases e2:b.1.ps=negP a.1.ps
    .rw[if_pos e2,hne b hb e2];simp
    .rw[if_neg e2];simp
  .show KO _=KO _
   rw[RU λb hb=>?_];unfold TS FG BQ YP
   by_cases e1:b.1.ps=a.1.ps
   .rw[if_pos e1,if_pos e1]
    cases b.2<;>simp
   .rw[if_neg e1,if_neg e1]
    by_cases e2:b.1.ps=negP a.1.ps
    .rw[if_pos e2,if_pos e2];simp
    .rw[if_neg e2,if_neg e2];simp
 .rw[if_neg h0]
  have ek:BZ a=negP a.1.ps:=if_neg h0;rw[ek];have hd:=ha.hd;have hne:∀ b∈T,b.1.ps=a.1.ps->b.2=Φ:=λb hb e=>by
   cases e2:b.2 with
   |false=>rfl
   |true=>
    have:=(hT b hb).eq e2;rw[e]at this;omega
  have hna:a.1.ps≠negP a.1.ps:=λe=>by
   have h3:=CW a.1.ps;rw[←e]at h3;omega
  refine⟨?_,?_⟩
  .show GV _=KJ (KO _)
   rw[←AcH,←Oi (g:=AcF a) λb hb=>?_];unfold AcF FG BQ YP KJ
   by_cases e1:b.1.ps=a.1.ps
   .have n1:b.1.ps≠negP a.1.ps:=λe=>hna (e1.symm.trans e)
    have n2:b.1.ps=negP (negP a.1.ps):=by rw[Ck];exact e1
    rw[if_pos e1,if_neg n1,if_pos n2];simp
   .rw[if_neg e1]
    by_cases e2:b.1.ps=negP a.1.ps
    .rw[if_pos e2,if_pos e2]
     cases b.2<;>simp
    .have n2:b.1.ps≠negP (negP a.1.ps):=by rw[Ck];exact e1
     rw[if_neg e2,if_neg e2,if_neg n2];simp
  .show KO _=KJ (GV _)
   rw[←AcO,←Oi (g:=TS a) λb hb=>?_];unfold TS KG BQ YP KJ
   by_cases e1:b.1.ps=a.1.ps
   .have n1:b.1.ps≠negP a.1.ps:=λe=>hna (e1.symm.trans e)
    rw[if_pos e1,if_neg n1,hne b hb e1];simp
   .rw[if_neg e1]
    by_cases e2:b.1.ps=negP a.1.ps
    .rw[if_pos e2,if_pos e2];simp
    .rw[if_neg e2,if_neg e2];simp
theorem KC{T:List RL}(hT:∀ r∈T,TgR r){a:RL}(ha:a∈T):Lr T (BZ a):=by
 unfold BZ;have:=(hT a ha).hd
 by_cases h0:0<He a.1.ps
 .rw[if_pos h0];exact⟨h0,a,ha,.inl rfl⟩
 .rw[if_neg h0];exact⟨by rw[CW];omega,a,ha,.inr (Ck _).symm⟩
theorem Acm{T:List RL}(hT:∀ r∈T,TgR r){p:List (Int × Int)}(h:Lr T p):∃ a∈T,BZ a=p:=by
 obtain⟨hp,a,ha,h⟩:=h;refine⟨a,ha,?_⟩;unfold BZ;rcases h with rfl|h
 .exact if_pos hp
 .rw[h,if_neg (by rw[CW];omega),Ck]
theorem UQ{a b:RL}(ha:TgR a)(hb:TgR b):BQ b a≠0 ↔ BZ b=BZ a:=by
 unfold BQ BZ;have h1:=ha.hd;have h2:=hb.hd;have h3:=CW a.1.ps;have h4:=CW b.1.ps
 by_cases e1:b.1.ps=a.1.ps
 .rw[if_pos e1,e1];simp
 rw[if_neg e1]
 by_cases e2:b.1.ps=negP a.1.ps
 .rw[if_pos e2]
  refine⟨λ_=>?_,λ_=>by decide⟩
  by_cases c:0<He a.1.ps
  .rw[if_pos c,e2,if_neg (by omega),Ck]
  .rw[if_neg c,e2,if_pos (by omega)]
 .rw[if_neg e2]
  refine⟨λh=>absurd rfl h,λh=>?_⟩
  exfalso
  split at h
  .split at h
   .exact e1 h
   .exact e2 h
  .split at h
   .exact e2 (by rw[←h,Ck])
   .exact e1 (by rw[←Ck b.1.ps,h,Ck])
theorem Ae7{T:List RL}(hT:∀ r∈T,TgR r){a:RL}(ha:a∈T)(i:Nat){out:List RL}(ho:IZ out)(hk:∀ r∈out,BZ r≠BZ a)(hb:NT (Hl T a i)=Φ) :
  IZ (Zj a (Hl T a i) out)/\∀ r,r∈Zj a (Hl T a i) out ↔ r∈out\/Hc (BZ a) (JY T (BZ a)) (JH T (BZ a)) r:=by
 have hi:=Acg hT (hT a ha) i;have hd:=(hT a ha).hd;have hneg:=CW a.1.ps;have hkp:=(KC hT ha).1;revert hb;generalize Hl T a i=st at hi;intro hb;obtain⟨fst,lo,hi'⟩:=st;simp only at hi;have k1:∀(l:Lf) (e:Bool),l.ps=a.1.ps\/l.ps=negP a.1.ps->BZ (l,e)=BZ a:=λl e h=>by
  unfold BZ;rcases h with h|h
  .simp only[h]
  .simp only[h]
   by_cases c:0<He a.1.ps
   .rw[if_pos c,if_neg (by omega),Ck]
   .rw[if_neg c,if_pos (by omega)]
 have fresh:∀(l:Lf) (e:Bool),l.ps=a.1.ps\/l.ps=negP a.1.ps->(l,e)∉out:=λl e h hm=>hk _ hm (k1 l e h)
 have hne:a.1.ps≠negP a.1.ps:=λe=>by
  rw[←e]at hneg;omega
 have rel:∀ r,Hc (BZ a) (JY T (BZ a)) (JH T (BZ a)) r ↔ (∃ u,lo=Θ u/\hi'=Θ u/\r=VV a.1.ps u)\/(lo≠hi'/\((∃ u,lo=Θ u/\r=(⟨a.1.ps,-u⟩,Φ))\/∃ v,hi'=Θ v/\r=(⟨negP a.1.ps,v⟩,Φ))):=λr=>by
  by_cases c:0<He a.1.ps
  .rw[if_pos c]at hi
   have ek:BZ a=a.1.ps:=if_pos c;rw[←hi.1,←hi.2,ek];have ee:∀ u,VV a.1.ps u=(⟨a.1.ps,-u⟩,Δ):=λu=>if_neg (by omega)
   unfold Hc;simp only[ee]
  .rw[if_neg c]at hi
   have ek:BZ a=negP a.1.ps:=if_neg c;rw[hi.1,hi.2,ek];generalize JY T (negP a.1.ps)=L;generalize JH T (negP a.1.ps)=H;have ee:∀ u,VV a.1.ps u=(⟨negP a.1.ps,u⟩,Δ):=λu=>if_pos (by omega)
   unfold Hc KJ;simp only[ee,Ck];have hm:∀{o:Option Int} {u:Int},o.map (- ·)=Θ u ↔ o=Θ (-u):=λ{o u}=>by
    cases o with
    |none=>simp
    |some x=>
     simp only[Arv,ψ];constructor<;>intro h<;>omega
   have hj:∀{o q:Option Int},o.map (- ·)=q.map (- ·) ↔ o=q:=λ{o q}=>by
    cases q with
    |none=>simp
    |some x=>rw[Arv,hm,AtG]
   constructor
   .rintro (⟨u,h1,h2,rfl⟩|⟨h0,⟨u,h1,rfl⟩|⟨v,h1,rfl⟩⟩)
    .exact .inl ⟨-u,by rw[h2];rfl,by rw[h1];rfl,rfl⟩
    .exact .inr ⟨λe=>h0 (hj.1 e).symm,.inr ⟨-u,by rw[h1];rfl,rfl⟩⟩
    .exact .inr ⟨λe=>h0 (hj.1 e).symm,.inl ⟨-v,by rw[h1];rfl,by rw[AtG]⟩⟩
   .rintro (⟨u,h1,h2,rfl⟩|⟨h0,⟨u,h1,rfl⟩|⟨v,h1,rfl⟩⟩)
    .exact .inl ⟨-u,hm.1 h2,hm.1 h1,by rw[AtG]⟩
    .exact .inr ⟨λe=>h0 (hj.2 e.symm),.inr ⟨-u,hm.1 h1,rfl⟩⟩
    .exact .inr ⟨λe=>h0 (hj.2 e.symm),.inl ⟨-v,hm.1 h1,by rw[AtG]⟩⟩
 have fe:∀ u,VV a.1.ps u∉out:=λu=>by
  unfold VV;split
  .exact fresh _ _ (.inr rfl)
  .exact fresh _ _ (.inl rfl)
 unfold Zj
 cases lo with
 |none=>
  cases hi' with
  |none=>
   refine⟨ho,λr=>?_⟩;rw[rel];simp
  |some v=>
   refine⟨Gj ho (fresh _ _ (.inr rfl)),λr=>?_⟩;rw[rel,D7];simp[or_comm]
 |some u=>
  cases hi' with
  |none=>
   refine⟨Gj ho (fresh _ _ (.inl rfl)),λr=>?_⟩;rw[rel,D7];simp[or_comm]
  |some v=>
   simp only
   by_cases e:u=v
   .subst e
    rw[if_pos rfl];refine⟨Gj ho (fe u),λr=>?_⟩;rw[rel,D7];simp[or_comm]
   .rw[if_neg e]
    refine⟨Gj (Gj ho (fresh _ _ (.inl rfl))) (λh=>?_),λr=>?_⟩
    .rcases (D7 _ _ _).1 h with h|h
     .exact hne (congrArg (λx:RL=>x.1.ps) h).symm
     .exact fresh _ _ (.inr rfl) h
    .rw[rel,D7,D7]
     have e2:¬ ((Θ u:Option Int)=Θ v):=λh=>e (by injection h)
     constructor
     .rintro (h|h|h)
      .exact .inr (.inr ⟨e2,.inr ⟨v,rfl,h⟩⟩)
      .exact .inr (.inr ⟨e2,.inl ⟨u,rfl,h⟩⟩)
      .exact .inl h
     .rintro (h|⟨w,h1,h2,_⟩|⟨_,⟨w,h1,h⟩|⟨w,h1,h⟩⟩)
      .exact .inr (.inr h)
      .exact absurd (h1.trans h2.symm) e2
      .injection h1 with h1
       subst h1;exact .inr (.inl h)
      .injection h1 with h1
       subst h1;exact .inl h
theorem AaY{T:List RL}(hT:∀ r∈T,TgR r){a:RL}(ha:a∈T)(i:Nat):NT (Hl T a i)=Φ ↔ ∀ u v,JY T (BZ a)=Θ u->JH T (BZ a)=Θ v->u<=v:=by
 have hi:=Acg hT (hT a ha) i;generalize Hl T a i=st at hi ⊢;obtain⟨fst,lo,hi'⟩:=st;simp only at hi;unfold NT
 by_cases c:0<He a.1.ps
 .rw[if_pos c]at hi
  rw[hi.1,hi.2]
  cases JY T (BZ a)<;>cases JH T (BZ a)<;>simp
 .rw[if_neg c]at hi
  rw[hi.1,hi.2];unfold KJ
  cases JY T (BZ a)<;>cases JH T (BZ a)<;>simp
theorem O3{T:List RL}(hT:∀ r∈T,TgR r):∀(r:List RL) (i:Nat) (out:List RL),i<=T.length->T.drop i=r->IZ out->
  (∀ x,x∈out ↔ ∃ b∈T.take i,Hc (BZ b) (JY T (BZ b)) (JH T (BZ b)) x)->(∀ b∈T.take i,∀ u v,JY T (BZ b)=Θ u->JH T (BZ b)=Θ v->u<=v)->Ht T (Fo T i r out)
 |[],i,out,hi,hr,ho,hm,hf=>by
  have:T.take i=T:=by
   have:=List.take_append_drop i T;rw[hr,ArB]at this;exact this
  rw[this]at hm hf;unfold Fo;refine⟨λp hp u v hu hv=>?_,ho,λx=>?_⟩
  .obtain⟨a,ha,rfl⟩:=Acm hT hp
   exact hf a ha u v hu hv
  .rw[hm]
   constructor
   .rintro⟨b,hb,h⟩
    exact⟨_,KC hT hb,h⟩
   .rintro⟨p,hp,h⟩
    obtain⟨a,ha,rfl⟩:=Acm hT hp;exact⟨a,ha,h⟩
 |a::r,i,out,hi,hr,ho,hm,hf=>by
  have hlt:i<T.length:=by
   have:=congrArg List.length hr;rw[List.length_drop,AqR]at this;omega
  have hcons:=κ hlt;rw[hr]at hcons;injection hcons with ea er
  have hta:T.take (i+1)=T.take i++[a]:=by rw[List.take_succ_eq_append_getElem hlt,ea]
  have haT:a∈T:=by rw[ea];exact Arc hlt
  unfold Fo
  by_cases hb:NT (Hl T a i)=Δ
  .rw[if_pos hb]
   intro f;have:=(AaY hT haT i).2 (f _ (KC hT haT));rw[hb]at this
   cases this
  .rw[if_neg hb]
   have hb:=Bool.eq_false_iff.2 hb;have hfa:=(AaY hT haT i).1 hb;have first:(Hl T a i).first=Δ ↔ ∀ b∈T.take i,BZ b≠BZ a:=by
    rw[Hl,(OQ a i T 0 ⟨Δ,Ξ,Ξ⟩).2.2];constructor
    .rintro⟨_,h⟩ b hb e
     obtain⟨j,hj,rfl⟩:=Aud.1 hb;rw[Aq9]at hj;rw[Aur]at e;have h1:=h j (by omega) (by omega);exact(UQ (hT a haT) (hT _ (Arc _))).2 e h1
    .intro h
     refine⟨rfl,λj hj hk=>?_⟩;rcases Classical.em (BQ T[j] a=0) with e|e
     .exact e
     .refine absurd ((UQ (hT a haT) (hT _ (Arc _))).1 e) (h _ ?_)
      rw[Aud];exact⟨j,by rw[Aq9];omega,by rw[Aur]⟩
   have hf':∀ b∈T.take (i+1),∀ u v,JY T (BZ b)=Θ u->JH T (BZ b)=Θ v->u<=v:=λb hb=>by
    rw[hta]at hb;rcases Arr.1 hb with h|h
    .exact hf b h
    .rw[Arh.1 h];exact hfa
   by_cases h1:(Hl T a i).first=Δ
   .rw[if_pos h1]
    have hfr:=first.1 h1
    obtain⟨g1,g2⟩:=Ae7 hT haT i ho (λx hx=>by
     obtain⟨b,hb,h⟩:=(hm x).1 hx;rw[IU (KC hT (List.mem_of_mem_take hb)).1 h];exact hfr b hb) hb
    refine O3 hT r (i+1) _ hlt er.symm g1 (λx=>?_) hf';rw[g2,hm,hta];simp only[Arr,Arh];constructor
    .rintro (⟨b,hb,h⟩|h)
     .exact⟨b,.inl hb,h⟩
     .exact⟨a,.inr rfl,h⟩
    .rintro⟨b,hb|rfl,h⟩
     .exact .inl ⟨b,hb,h⟩
     .exact .inr h
   .rw[if_neg h1]
    refine O3 hT r (i+1) _ hlt er.symm ho (λx=>?_) hf';rw[hm,hta];simp only[Arr,Arh];constructor
    .rintro⟨b,hb,h⟩
     exact⟨b,.inl hb,h⟩
    .rintro⟨b,hb|rfl,h⟩
     .exact⟨b,hb,h⟩
     .rcases Classical.em (∃ c∈T.take i,BZ c=BZ b) with⟨c,hc,e⟩|hno
      .exact⟨c,hc,by rw[e];exact h⟩
      .exact absurd (first.2 λc hc e=>hno ⟨c,hc,e⟩) h1
theorem WH{T:List RL}(hT:∀ r∈T,TgR r):Ht T (Fo T 0 T []):=by
 refine O3 hT T 0 [] (by omega) rfl List.Pairwise.nil (λx=>?_) (λb hb=>?_)
 .simp
 .simp at hb
theorem Di{l:List (Int × Int)}(h:Pln l):Pln (negP l):=by
 refine⟨AsR.2 h.asc,λp hp=>?_,λp hp=>?_⟩
 .obtain⟨q,hq,rfl⟩:=Arj.1 hp
  exact h.pos q hq
 .obtain⟨q,hq,rfl⟩:=Arj.1 hp
  have:=h.nz q hq
  show -q.2≠0
  omega
theorem Fa{l:Lf}(h:Pln l.ps):l.scale (-1)=⟨negP l.ps,-l.k⟩:=by
 have e:l.ps.map (λp=>(p.1,p.2 * -1))=negP l.ps:=Ar4 λp _=>by rw[At5,Auv]
 unfold Lf.scale Lf.pln
 show (⟨AO (l.ps.map λp=>(p.1,p.2 * -1)),l.k * -1⟩:Lf)=_
 rw[e,B7 (Di h),At5,Auv]
theorem Kx:∀(l:List (Int × Int)) (a:Nat),DZ a (negP l)=DZ a l
 |[],_=>rfl
 |p::r,a=>by
  have:=Kx r (Asi a p.2.natAbs)
  show DZ (Asi a (-p.2).natAbs) (negP r)=DZ (Asi a p.2.natAbs) r
  rw[Int.natAbs_neg,this]
theorem TM{g:Nat}(hg:0<g):∀(l:List (Int × Int)) (a:Nat),(∀ p∈l,(g:Int) ∣ p.2)->DZ a (l.map λq=>(q.1,qZ q.2 g))*g=DZ (a*g) l
 |[],_,_=>rfl
 |p::r,a,h=>by
  have ih:=TM hg r (Asi a (qZ p.2 g).natAbs) λq hq=>h q (ο _ hq)
  have e:=(Pa (h p (AqS ..)) (by omega)).2
  show DZ (Asi a (qZ p.2 g).natAbs) (r.map λq=>(q.1,qZ q.2 g))*g=DZ (Asi (a*g) p.2.natAbs) r
  rw[ih,←Nat.gcd_mul_right]
  congr 2
  conv=>rhs;rw[←e]
  rw[Int.natAbs_mul,AsK]
theorem Wg(l:Lf):hdS l.tm=He l.ps:=by
 obtain⟨ps,k⟩:=l
 cases ps with
 |nil=>rfl
 |cons p r=>exact AE _
def G6(l:Lf)(e:Bool):RL:=((CH l.pln.tm e).1.1.lf,(CH l.pln.tm e).1.2)
def F6(l:Lf)(e:Bool):Int:=(CH l.pln.tm e).2
theorem N7(l:Lf):Cu l.pln.tm=DZ 0 (AO l.ps):=by
 unfold Cu;rw[BE]
 show DZ 0 (AO (AO l.ps))=_
 rw[B7 (C5 l.ps)]
def G2(l:Lf):Lf:=⟨(AO l.ps).map λq=>(q.1,qZ q.2 (DZ 0 (AO l.ps))),qZ l.k (DZ 0 (AO l.ps))⟩
theorem AgC{l:Lf}(h:Cu l.pln.tm≠0):DP l.pln.tm=(G2 l).tm:=by
 unfold DP;rw[if_neg h,N7,BE];have:AO l.pln.ps=AO l.ps:=B7 (C5 l.ps);rw[this];unfold G2 Lf.tm;rw[Asa]
 congr 2
 show qZ (zv (Aq l.k)) _=qZ l.k _
 rw[AE]
theorem AgB{l:Lf}(h:Cu l.pln.tm≠0)(hne:AO l.ps≠[]):Pln (G2 l).ps/\(G2 l).ps≠[]/\DZ 0 (G2 l).ps=1:=by
 have hp:=C5 l.ps;have hd:=Aa8 l.pln.tm;rw[BE,N7]at hd;rw[N7]at h;have hd:∀ q∈AO l.ps,(DZ 0 (AO l.ps):Int) ∣ q.2:=λq hq=>hd q (by
  show q∈AO (AO l.ps)
  rw[B7 hp];exact hq)
 unfold G2;refine⟨⟨AsR.2 hp.asc,λp hx=>?_,λp hx=>?_⟩,λe=>hne (Asj.1 e),?_⟩
 .obtain⟨q,hq,rfl⟩:=Arj.1 hx
  exact hp.pos q hq
 .obtain⟨q,hq,rfl⟩:=Arj.1 hx
  have e:=(Pa (hd q hq) (by omega)).2;intro h0;simp only at h0;rw[h0,Int.zero_mul]at e;exact hp.nz q hq e.symm
 .have e:=TM (g:=DZ 0 (AO l.ps)) (by omega) (AO l.ps) 0 hd
  rw[Nat.zero_mul]at e;generalize DZ 0 (AO l.ps)=g at *;generalize DZ 0 (List.map (λq=>(q.1,qZ q.2 g)) (AO l.ps))=x at *;have:x*g=1*g:=by rw[e,Nat.one_mul]
  exact Nat.eq_of_mul_eq_mul_right (by omega) this
theorem S0{l:Lf}{e:Bool}(h:F6 l e=0):TgR (G6 l e)/\(CH l.pln.tm e).1=((G6 l e).1.tm,(G6 l e).2):=by
 unfold F6 at h;have hne:AO l.ps≠[]:=λh0=>by
  have:l.pln.tm.ps=[]:=by
   show (AO l.ps).map AP=[]
   rw[h0];rfl
  unfold CH at h;rw[if_pos this]at h;simp only at h;split at h<;>cases h
 have h0:l.pln.tm.ps≠[]:=λh0=>hne (Asj.1 h0)
 have hc:=RI h0;obtain⟨g1,g2,g3⟩:=AgB hc hne;have es:=AgC hc;have eh:hdS (DP l.pln.tm)=He (G2 l).ps:=by rw[es,Wg]
 have esc:((DP l.pln.tm).lf.scale (-1)).tm=Lf.tm ⟨negP (G2 l).ps,-(G2 l).k⟩:=by rw[es,BE,Fa g1]
 have key:CH l.pln.tm e=if e=Δ then(if rZ (zv l.pln.tm.k) (Cu l.pln.tm)=0 then((if He (G2 l).ps<0 then Lf.tm ⟨negP (G2 l).ps,-(G2 l).k⟩ else(G2 l).tm,Δ),0) else(zrR,-1)) else(((G2 l).tm,Φ),0):=by
  unfold CH;rw[if_neg h0,eh,esc,es]
 unfold G6;have nz:He (G2 l).ps≠0:=by
  cases el:(G2 l).ps with
  |nil=>exact absurd el g2
  |cons p r=>exact g1.nz p (by rw[el];exact AqS ..)
 cases e with
 |false=>
  rw[key,if_neg (by decide)];simp only[BE];exact⟨⟨g1,g2,g3,λh=>by cases h⟩,trivial⟩
 |true=>
  rw[key,if_pos rfl]at h ⊢
  by_cases hr:rZ (zv l.pln.tm.k) (Cu l.pln.tm)=0
  .rw[if_pos hr]
   by_cases hh:He (G2 l).ps<0
   .rw[if_pos hh]
    simp only[BE];refine⟨⟨Di g1,λe=>g2 (Asj.1 e),by rw[Kx];exact g3,λ_=>?_⟩,trivial⟩
    show 0<He (negP (G2 l).ps)
    rw[CW];omega
   .rw[if_neg hh]
    simp only[BE];exact⟨⟨g1,g2,g3,λ_=>by show 0<He (G2 l).ps;omega⟩,trivial⟩
  .rw[if_neg hr]at h
   cases h
theorem TgR.plnE{r:RL}(h:TgR r):r.1.pln=r.1:=by
 unfold Lf.pln;rw[B7 h.pln]
theorem Ad1{r:RL}(h:TgR r):CH r.1.tm r.2=((r.1.tm,r.2),0):=by
 have hp:=B7 h.pln;have hc:Cu r.1.tm=1:=by
  unfold Cu;rw[BE,hp,h.one]
 have h0:r.1.tm.ps≠[]:=λh0=>h.ne (Asj.1 h0)
 have q1:∀ x:Int,rZ x ((1:Nat):Int)=0/\qZ x ((1:Nat):Int)=x:=λx=>by
  have:=Pa (g:=1) (Int.one_dvd x) (by decide);rw[Auv]at this;exact this
 have es:DP r.1.tm=r.1.tm:=by
  unfold DP;rw[if_neg (by rw[hc];decide),hc,BE,hp,(q1 _).2];unfold Lf.tm;rw[AE]
  congr 1
  refine Ar4 λq _=>?_
  show AP (q.1,qZ q.2 ((1:Nat):Int))=AP q
  rw[(q1 _).2]
 unfold CH;rw[if_neg h0,es,hc,(q1 _).1,Wg]
 cases e:r.2 with
 |false=>rw[if_neg (by decide)]
 |true=>rw[if_pos rfl,if_pos rfl,if_neg (by have:=h.eq e;omega)]
theorem YD{W:RL->RL->Prop}:∀{a T:List RL},a.Nodup->(∀ r∈a,∃ s∈T,W r s)->(∀ r∈a,∀ r'∈a,∀ s,W r s->W r' s->r=r')->a.length<=T.length
 |[],_,_,_,_=>Nat.zero_le _
 |r::a,T,hn,hw,hi=>by
  rw[Asy]at hn;obtain⟨s,hs,ws⟩:=hw r (AqS ..);obtain⟨T1,T2,rfl⟩:=List.append_of_mem hs;have ih:=YD (W:=W) (a:=a) (T:=T1++T2) hn.2 (λr' hr'=>by
   obtain⟨s',hs',ws'⟩:=hw r' (ο _ hr');refine⟨s',?_,ws'⟩;rcases Arr.1 hs' with h|h
   .exact Atz _ h
   .rcases AqU.1 h with e|h
    .subst e
     have:=hi r (AqS ..) r' (ο _ hr') _ ws ws';exact absurd (this▸hr') hn.1
    .exact Atw _ h) λx hx y hy=>hi x (ο _ hx) y (ο _ hy)
  rw[υ]at ih;rw[υ,AqR,AqR];omega
theorem R8{r:RL}{p:List (Int × Int)}(hp:0<He p)(h:r.1.ps=p):BZ r=p:=by
 unfold BZ;rw[h,if_pos hp]
theorem Afb{r:RL}{p:List (Int × Int)}(hp:0<He p)(h:r.1.ps=negP p):BZ r=p:=by
 unfold BZ;rw[h,if_neg (by rw[CW];omega),Ck]
theorem AeA{r:RL}{p:List (Int × Int)}{b:Int}(hp:0<He p)(h:AtM p r b):BZ r=p:=by
 rcases h with⟨h,_⟩|⟨_,h,_⟩
 .exact R8 hp h
 .exact Afb hp h
theorem O1{T:List RL}{r:RL}(h:Rm T r):Lr T (BZ r)/\Hc (BZ r) (JY T (BZ r)) (JH T (BZ r)) r:=by
 obtain⟨p,hp,h⟩:=h;rw[IU hp.1 h];exact⟨hp,h⟩
theorem X8{T a:List RL}(hn:a.Nodup)(h:∀ r∈a,Rm T r):a.length<=T.length:=by
 refine YD (W:=λr s=>BZ s=BZ r/\(r.2=Δ\/(r.1.ps=BZ r/\s.1.ps=BZ r/\s.1.k=r.1.k)\/(r.1.ps=negP (BZ r)/\AtM (BZ r) s r.1.k))) hn (λr hr=>?_) (λr hr r' hr' s w w'=>?_)
 .obtain⟨hk,g⟩:=O1 (h r hr)
  generalize BZ r=p at *;rcases g with⟨u,h1,_,rfl⟩|⟨_,⟨u,h1,rfl⟩|⟨v,h1,rfl⟩⟩
  .obtain⟨⟨s,hs,e1,e2⟩,_⟩:=OO.1 h1
   exact⟨s,hs,R8 hk.1 e1,.inl rfl⟩
  .obtain⟨⟨s,hs,e1,e2⟩,_⟩:=OO.1 h1
   exact⟨s,hs,R8 hk.1 e1,.inr (.inl ⟨rfl,e1,by simp only;omega⟩)⟩
  .obtain⟨⟨s,hs,e1⟩,_⟩:=TR.1 h1
   exact⟨s,hs,AeA hk.1 e1,.inr (.inr ⟨rfl,e1⟩)⟩
 .obtain⟨hk,g⟩:=O1 (h r hr)
  obtain⟨hk',g'⟩:=O1 (h r' hr');obtain⟨w0,w⟩:=w;obtain⟨w0',w'⟩:=w';rw[←w0']at g' hk' w';rw[←w0]at g hk w;generalize BZ s=p at *;have np:=Wy hk.1;have lh:∀{u v:Int},JY T p≠JH T p->JY T p=Θ u->JH T p=Θ v->(((⟨p,-u⟩,Φ):RL).2=Δ\/(p=p/\s.1.ps=p/\s.1.k=-u)\/(p=negP p/\AtM p s (-u)))->(((⟨negP p,v⟩,Φ):RL).2=Δ\/(negP p=p/\s.1.ps=p/\s.1.k=v)\/(negP p=negP p/\AtM p s v))->False:=λ{u v} h0 h1 h2 a b=>by
   rcases a with a|⟨_,a1,a2⟩|⟨a,_⟩
   .cases a
   .rcases b with b|⟨b,_⟩|⟨_,b⟩
    .cases b
    .exact np b
    .rcases b with⟨_,_,b⟩|⟨b,_⟩
     .exact h0 (by rw[h1,h2];congr 1;omega)
     .exact b a1
   .exact np a.symm
  rcases g with⟨u,h1,h2,rfl⟩|⟨h0,⟨u,h1,rfl⟩|⟨v,h1,rfl⟩⟩<;>rcases g' with⟨u',h1',h2',rfl⟩|⟨h0',⟨u',h1',rfl⟩|⟨v',h1',rfl⟩⟩
  .rw[h1]at h1';injection h1' with e;rw[e]
  .exact absurd (h1.trans h2.symm) h0'
  .exact absurd (h1.trans h2.symm) h0'
  .exact absurd (h1'.trans h2'.symm) h0
  .rw[h1]at h1';injection h1' with e;rw[e]
  .exact(lh h0 h1 h1' w w').elim
  .exact absurd (h1'.trans h2'.symm) h0
  .exact(lh h0 h1' h1 w' w).elim
  .rw[h1]at h1';injection h1' with e;rw[e]
theorem Ad5{T a:List RL}(h:Ht T (Θ a)):a.length<=T.length:=
 X8 (h.2.1.imp λ{x y} hxy e=>by rw[e,IG]at hxy;omega) λr hr=>(h.2.2 r).1 hr
theorem QH{l:List Int}(h:GV l=Ξ):l=[]:=by
 have key:∀(l:List Int) (o:Option Int),l.foldl PZ o=Ξ->l=[]/\o=Ξ:=λl=>by
  induction l with
  |nil=>exact λo h=>⟨rfl,h⟩
  |cons y l ih=>
   intro o h;obtain⟨_,h2⟩:=ih _ h;unfold PZ at h2
   cases o with
   |none=>cases h2
   |some z=>simp only at h2;split at h2<;>cases h2
 exact(key _ _ h).1
theorem Aju{T:List RL}{p:List (Int × Int)}{r:RL}(hr:r∈T)(h:r.1.ps=p):∃ u,JY T p=Θ u:=by
 cases e:JY T p with
 |some u=>exact⟨u,rfl⟩
 |none=>
  have:=QH e;rw[AsS]at this;have:=this r hr;unfold KG at this;rw[if_pos h]at this
  cases this
theorem Ajh{T:List RL}{p:List (Int × Int)}{r:RL}(hp:0<He p)(hr:r∈T)(h:r.1.ps=negP p):∃ u,JH T p=Θ u:=by
 cases e:JH T p with
 |some u=>exact⟨u,rfl⟩
 |none=>
  unfold JH at e;rw[Gn,Option.map_eq_none_iff]at e;have:=Asj.1 (QH e);rw[AsS]at this;have:=this r hr;unfold FG at this;rw[if_neg (by rw[h];exact Wy hp),if_pos h]at this
  cases this
theorem Ac1{T:List RL}(hT:∀ r∈T,TgR r){r:RL}(h:Rm T r):TgR r:=by
 obtain⟨p,⟨hp,s,hs,e⟩,h⟩:=h;have ts:=hT s hs;have k:Pln p/\p≠[]/\DZ 0 p=1:=by
  rcases e with rfl|e
  .exact⟨ts.pln,ts.ne,ts.one⟩
  .have e2:p=negP s.1.ps:=by rw[e,Ck]
   rw[e2];exact⟨Di ts.pln,λe=>ts.ne (Asj.1 e),by rw[Kx];exact ts.one⟩
 rcases h with⟨a,_,_,rfl⟩|⟨_,⟨a,_,rfl⟩|⟨b,_,rfl⟩⟩
 .exact⟨k.1,k.2.1,k.2.2,λ_=>hp⟩
 .exact⟨k.1,k.2.1,k.2.2,λh=>by cases h⟩
 .exact⟨Di k.1,λe=>k.2.1 (Asj.1 e),by rw[Kx];exact k.2.2,λh=>by cases h⟩
def Da:List RL->Option (List RL)
 |[]=>Θ []
 |r::s=>if F6 r.1 r.2<0 then Ξ else match Da s with
  |none=>Ξ
  |some t=>Θ (if F6 r.1 r.2=0 then G6 r.1 r.2::t else t)
def D0(rs:List RL)(o:Option (List RL)):Prop:=match Da rs with
 |none=>o=Ξ
 |some T=>Ht T o
theorem NA:∀{rs T:List RL},Da rs=Θ T->∀ r∈T,TgR r
 |[],T,h,r,hr=>by injection h with h;subst h;cases hr
 |x::s,T,h,r,hr=>by
  unfold Da at h;split at h
  .cases h
  .cases e:Da s with
   |none=>rw[e]at h;cases h
   |some t=>
    rw[e]at h;injection h with h
    subst h;have ih:=NA e;split at hr
    .rename_i h0
     rcases AqU.1 hr with rfl|hr
     .exact(S0 h0).1
     .exact ih r hr
    .exact ih r hr
theorem Lj:∀{rs T:List RL},Da rs=Θ T->T.length<=rs.length
 |[],T,h=>by injection h with h;subst h;exact π _
 |x::s,T,h=>by
  unfold Da at h;split at h
  .cases h
  .cases e:Da s with
   |none=>rw[e]at h;cases h
   |some t=>
    rw[e]at h;injection h with h
    subst h;have ih:=Lj e;rw[AqR];split
    .rw[AqR];omega
    .omega
theorem PD{rs:List RL}{o o':Option (List RL)}(h:D0 rs o)(h':D0 rs o'):o=o':=by
 unfold D0 at h h'
 cases e:Da rs with
 |none=>rw[e]at h h';rw[h,h']
 |some T=>rw[e]at h h';exact Aaj h h'
theorem Iw:∀{rs:List RL},(Da rs=Ξ ↔ ∃ r∈rs,F6 r.1 r.2<0)/\∀ T,Da rs=Θ T->∀ x,x∈T ↔ ∃ r∈rs,F6 r.1 r.2=0/\G6 r.1 r.2=x
 |[]=>⟨by simp[Da],λT h x=>by injection h with h;subst h;simp⟩
 |r::s=>by
  obtain⟨h1,h2⟩:=Iw (rs:=s);unfold Da
  by_cases h0:F6 r.1 r.2<0
  .rw[if_pos h0]
   exact⟨⟨λ_=>⟨r,AqS ..,h0⟩,λ_=>rfl⟩,λT h=>nomatch h⟩
  .rw[if_neg h0]
   cases e:Da s with
   |none=>
    obtain⟨x,hx,hl⟩:=h1.1 e;exact⟨⟨λ_=>⟨x,ο _ hx,hl⟩,λ_=>rfl⟩,λT h=>nomatch h⟩
   |some t=>
    refine⟨⟨λh=>(nomatch h),?_⟩,λT h x=>?_⟩
    .rintro⟨x,hx,hl⟩
     rcases AqU.1 hx with rfl|hx
     .exact absurd hl h0
     .rw[h1.2 ⟨x,hx,hl⟩]at e
      cases e
    .injection h with h
     subst h;have:=h2 t e x;simp only[AqU,exists_eq_or_imp];rw[←this];split
     .rename_i hz
      rw[AqU];constructor
      .rintro (rfl|h)
       .exact .inl ⟨hz,rfl⟩
       .exact .inr h
      .rintro (⟨_,rfl⟩|h)
       .exact .inl rfl
       .exact .inr h
     .rename_i hz
      exact⟨.inr,λh=>h.resolve_left λh=>hz h.1⟩
def BX(r:RL):List AV:=CY (r.1.tm,r.2)
theorem Cb(r:RL):(BX r).length=4:=rfl
def EF(L:List RL)(x:RL):Int:=((L.filter λy=>decide (DY y x<0)).length:Int)
theorem Xv{α:Type}{p q:α->Bool}:∀{l:List α},(∀ x∈l,p x=Δ->q x=Δ)->(l.filter p).length<=(l.filter q).length
 |[],_=>π _
 |x::l,h=>by
  have ih:=Xv (l:=l) λy hy=>h y (ο _ hy)
  have hx:=h x (AqS ..);rw[AsZ,AsZ]
  cases hp:p x with
  |false=>cases q x<;>simp<;>omega
  |true=>rw[hx hp];simpa using ih
theorem Xw{α:Type}{p q:α->Bool}:∀{l:List α},(∀ x∈l,p x=Δ->q x=Δ)->(∃ x∈l,p x=Φ/\q x=Δ)->(l.filter p).length<(l.filter q).length
 |[],_,h=>by obtain⟨x,hx,_⟩:=h;cases hx
 |x::l,h,he=>by
  have h':∀ y∈l,p y=Δ->q y=Δ:=λy hy=>h y (ο _ hy)
  have hx:=h x (AqS ..);have le:=Xv h';rw[AsZ,AsZ];obtain⟨y,hy,g1,g2⟩:=he;rcases AqU.1 hy with rfl|hy
  .rw[g1,g2]
   simp;omega
  .have ih:=Xw h' ⟨y,hy,g1,g2⟩
   cases hp:p x with
   |false=>cases q x<;>simp<;>omega
   |true=>rw[hx hp];simpa using ih
theorem Wn{L:List RL}{x y:RL}(hx:x∈L)(h:DY x y<0):EF L x<EF L y:=by
 unfold EF;have:=Xw (l:=L) (p:=λz=>decide (DY z x<0)) (q:=λz=>decide (DY z y<0)) (λz _ hz=>by
  rw[decide_eq_true_eq]at hz ⊢;exact N5 hz h) ⟨x,hx,by rw[decide_eq_false_iff_not,IG];omega,by rw[decide_eq_true_eq];exact h⟩
 omega
theorem Afa{L:List RL}{x y:RL}(hx:x∈L)(hy:y∈L):DY x y<0 ↔ EF L x<EF L y:=by
 refine⟨Wn hx,λh=>?_⟩;rcases AsO (DY x y) 0 with h1|h1|h1
 .exact h1
 .rw[IH.1 h1]at h
  omega
 .have:=Wn hy (show DY y x<0 by rw[J9];omega)
  omega
section
variable {D:Orc} (K:Knows Ij Yw D) (L:List RL) (hc:∀ x∈L,∀ y∈L,D.ask (.fn 16) [.agg (BX x),.agg (BX y)] []=Θ (iv (DY x y),[]))
include K
def fnR:AV:=.fn (.func 16) [] []
include hc
theorem Aga{x y:RL}(hx:x∈L)(hy:y∈L):∃ n:Int,D.ask (.fn 16) [.agg (BX x),.agg (BX y)] []=Θ (iv n,[])/\(n<0 ↔ EF L x<EF L y):=⟨_,hc x hx y hy,Afa hx hy⟩
theorem Agk(a i:Nat)(b:Int):∀(m j:Nat) (l:List RL),j-a=m->a<=j->j<=i->i<l.length->l.length<=12->(∀ x∈l,x∈L)->Tf (EF L) l a i j->
  ∃ r:List RL,D.ask (.lp 79 1) [.sl 0 0 l.length 4,iv (a:Int),iv b,fnR,iv (i:Int),iv (j:Int)] [θ (Ah BX l) Δ Δ]
   = Θ (.tup [iv 2,.sl 0 0 l.length 4,iv (a:Int),iv b,fnR,iv (i:Int)],[.set (θ (Ah BX r) Δ Δ)])
   ∧ r.length=l.length/\r.Perm l/\Srt (EF L) r a (i+1):=by
 intro m
 induction m with
 |zero=>
  intro j l hm ha hj hi hl hL hs;obtain rfl:j=a:=by omega
  refine⟨l,?_,rfl,List.Perm.refl _,K8 (EF L) hj hs (.inl rfl)⟩;refine Au K HT (VU ..) ?_;exact Ag rfl
 |succ m ih=>
  intro j l hm ha hj hi hl hL hs;obtain⟨k,rfl⟩:∃ k,j=k+1:=⟨j-1,by omega⟩;have h1:k+1<l.length:=by omega
  have h0:k<l.length:=by omega
  have kf1:kf (EF L) l (k+1)=EF L l[k+1]:=EN (EF L) h1;have kf0:kf (EF L) l k=EF L l[k]:=EN (EF L) h0;obtain⟨n,gc,hn⟩:=Aga K L hc (hL _ (Arc h1)) (hL _ (Arc h0));simp only[BX,CY,eT,eN,Arm,Aq4]at gc
  by_cases hlt:n<0
  .have hs2:Tf (EF L) (C2 l (k+1) k) a i k:=Q4 (j:=k+1) (EF L) hi (by omega) hj hs (by rw[Ar1,kf1,kf0];exact hn.1 hlt)
   have hlen:=Gz l (k+1) k;obtain⟨r,g,hr,hp,ho⟩:=ih k (C2 l (k+1) k) (by omega) (by omega) (by omega) (by omega) (by omega) (λx hx=>hL x ((Ew l (k+1) k).mem_iff.1 hx)) hs2;rw[hlen]at g hr;refine⟨r,?_,hr,hp.trans (Ew _ _ _),ho⟩;refine Au K HT (VU ..) ?_;refine Aj ?_;rw[Lc (by omega),Av,AQ h1];refine Ac ?_;refine(Bx Cb l (k+1) h1 _).trans ?_;simp only[BX,CY,eT,eN,Arm,Aq4,ND,DK,Ab];rw[Av,AQ h0];refine Ac ?_;refine(Bx Cb l k h0 _).trans ?_;simp only[BX,CY,eT,eN,Arm,Aq4,ND,DK,Ab];refine Aa gc ?_;simp only[ND,DK,Ab];refine Aj ?_ hlt;rw[Av,AQ h0];refine Ac ?_;refine(Bx Cb l k h0 _).trans ?_;simp only[BX,CY,eT,eN,Arm,Aq4,ND,DK,Ab];rw[Av,AQ h1];refine Ac ?_;refine(Bx Cb l (k+1) h1 _).trans ?_;simp only[BX,CY,eT,eN,Arm,Aq4,ND,DK,Ab];rw[Av,AQ h1];refine Ac ?_;have s1:=CA Cb l (k+1) h1 l[k];have s2:=CA Cb (l.set (k+1) l[k]) k (by rw[Are];exact h0) l[k+1];rw[←DH h1 h0]at s2;simp only[BX,CY,eT,eN,Arm,Aq4]at s1 s2;rw[show Nat.ble (0+(k+1)*4+4) (Ah BX l).length=Δ by rw[AT Cb];simp;omega];refine Ac ?_;rw[Av,AQ h0];refine Ac ?_;rw[s1,s2];rw[show Nat.ble (0+k*4+4) (Ah BX (l.set (k+1) l[k])).length=Δ by rw[AT Cb,Are];simp;omega];refine Ac ?_;refine Aa g ?_;rfl
  .refine⟨l,?_,rfl,List.Perm.refl _,K8 (EF L) hj hs (.inr ?_)⟩
   .skip
    refine Au K HT (VU ..) ?_;refine Aj ?_;rw[Lc (by omega),Av,AQ h1];refine Ac ?_;refine(Bx Cb l (k+1) h1 _).trans ?_;simp only[BX,CY,eT,eN,Arm,Aq4,ND,DK,Ab];rw[Av,AQ h0];refine Ac ?_;refine(Bx Cb l k h0 _).trans ?_;simp only[BX,CY,eT,eN,Arm,Aq4,ND,DK,Ab];refine Aa gc ?_;simp only[ND,DK,Ab];exact Ag rfl hlt
   .rw[Ar1,kf1,kf0]
    have:=λh=>hlt (hn.2 h)
    omega
theorem Ads(b:Nat):∀(m i:Nat) (l:List RL),b-i=m->0<i->i<=b->b<=l.length->l.length<=12->(∀ x∈l,x∈L)->Srt (EF L) l 0 i->
  ∃ r:List RL,D.ask (.lp 79 0) [.sl 0 0 l.length 4,iv ((0:Nat):Int),iv (b:Int),fnR,iv (i:Int)] [θ (Ah BX l) Δ Δ]
   = Θ (.tup [iv 0,.sl 0 0 l.length 4],[.set (θ (Ah BX r) Δ Δ)])
   ∧ r.length=l.length/\r.Perm l/\Srt (EF L) r 0 b:=by
 intro m
 induction m with
 |zero=>
  intro i l hm ha hi hb hl hL hs;obtain rfl:i=b:=by omega
  refine⟨l,?_,rfl,List.Perm.refl _,hs⟩;refine Au K HT (VT ..) ?_;exact Ag rfl
 |succ m ih=>
  intro i l hm ha hi hb hl hL hs;obtain⟨r,g,hr,hp,ho⟩:=Agk K L hc 0 i (b:Int) _ i l rfl (by omega) (π _) (by omega) hl hL (Pz (EF L) hs);obtain⟨r2,g2,hr2,hp2,ho2⟩:=ih (i+1) r (by omega) (by omega) (by omega) (by omega) (by omega) (λx hx=>hL x (hp.mem_iff.1 hx)) ho;rw[hr]at g2;refine⟨r2,?_,by omega,hp2.trans hp,ho2⟩;refine Au K HT (VT ..) ?_;refine Aj ?_;refine Aa g ?_;simp only[fnR,ND,DK,Ab];refine Ac ?_;rw[BA (by omega)];refine Aa g2 ?_;rfl
theorem Agm{l:List RL}(hl:l.length<=12)(hL:∀ x∈l,x∈L) :
  ∃ r:List RL,D.ask (.fn 79) [.sl 0 0 l.length 4,iv ((0:Nat):Int),iv (l.length:Int),fnR] [θ (Ah BX l) Δ Δ]=Θ (.tup [],[.set (θ (Ah BX r) Δ Δ)])
   ∧ r.Perm l/\Srt (EF L) r 0 r.length:=by
 by_cases h:0<l.length
 .obtain⟨r,g,hr,hp,ho⟩:=Ads K L hc l.length _ 1 l rfl (by omega) (by omega) (π _) hl hL (Yq (EF L) l 0)
  refine⟨r,?_,hp,by rw[hr];exact ho⟩;refine AB K HT (Ale ..) ?_;rw[BA (by omega)];refine Aa g ?_;rfl
 .have e0:l=[]:=List.length_eq_zero_iff.1 (by omega)
  subst e0;refine⟨[],?_,List.Perm.refl _,Yp (EF L) [] 0⟩;have g:D.ask (.lp 79 0) [.sl 0 0 0 4,iv ((0:Nat):Int),iv ((0:Nat):Int),fnR,iv ((0+1:Nat):Int)] [θ (Ah BX []) Δ Δ]=Θ (.tup [iv 0,.sl 0 0 0 4],[.set (θ (Ah BX []) Δ Δ)]):=by
   refine Au K HT (VT ..) ?_;exact Ag rfl
  refine AB K HT (Ale ..) ?_;rw[BA (by omega)];refine Aa g ?_;rfl
end
section
variable {D:Orc} (K:Knows Ij Yw D)
include K
theorem AcA{n:Nat}(hn:n<=12):∃ k:Int,D.ask (.fn 44) [.v (.int .u64 (n:Int))] []=Θ (iv k,[]):=by
 obtain⟨k,hk⟩:∃ k:Int,D.ask (.fn 88) [.v (.int .u64 (n:Int))] []=Θ (iv k,[]):=by
  have:n=0\/n=1\/n=2\/n=3\/n=4\/n=5\/n=6\/n=7\/n=8\/n=9\/n=10\/n=11\/n=12:=by omega
  rcases this with rfl|rfl|rfl|rfl|rfl|rfl|rfl|rfl|rfl|rfl|rfl|rfl|rfl
  .exact⟨0,K.fn' Qy _ rfl ((AbB ..).trans (by kernel_rfl))⟩
  .exact⟨1,K.fn' Qy _ rfl ((AbB ..).trans (by kernel_rfl))⟩
  iterate 2 exact⟨2,K.fn' Qy _ rfl ((AbB ..).trans (by kernel_rfl))⟩
  iterate 4 exact⟨3,K.fn' Qy _ rfl ((AbB ..).trans (by kernel_rfl))⟩
  all_goals exact⟨4,K.fn' Qy _ rfl ((AbB ..).trans (by kernel_rfl))⟩
 exact⟨k,K.fn' AhO _ rfl ((AoX ..).trans ((Cm hk _).trans rfl))⟩
theorem AdR{l:List RL}(hl:l.length<=12)(hn:l.Nodup)(hc:∀ x∈l,∀ y∈l,D.ask (.fn 16) [.agg (BX x),.agg (BX y)] []=Θ (iv (DY x y),[])) :
  ∃ r:List RL,D.ask (.fn 15) [.sl 0 0 l.length 4,fnR] [θ (Ah BX l) Δ Δ]=Θ (.tup [],[.set (θ (Ah BX r) Δ Δ)])
   ∧ r.Perm l/\IZ r:=by
 obtain⟨r,g,hp,hs⟩:=Agm K l hc hl λx hx=>hx
 obtain⟨k,hk⟩:=AcA K hl;have g1:D.ask (.lp 43 0) [.sl 0 0 l.length 4,iv ((0:Nat):Int),iv (l.length:Int),iv k,fnR,bv Δ,bv Δ] [θ (Ah BX l) Δ Δ]=Θ (.tup [bv Δ,.sl 0 0 l.length 4],[.set (θ (Ah BX r) Δ Δ)]):=by
  refine Au K XC (Ai2 ..) ?_;rw[Dm (by omega) (by omega)];refine B6 ?_;refine Aa g ?_;rfl
 refine⟨r,?_,hp,?_⟩
 .refine AB K AhN (AoT ..) ?_
  rw[Bo (by omega)];refine Aa hk ?_;simp only[ND,DK,Ab];refine Aa (K.fn' XC _ rfl ((AoW ..).trans ((Cm g1 _).trans rfl))) ?_;rfl
 .have hnr:r.Nodup:=hp.nodup_iff.2 hn
  have hpw:=E0 (EF l) hs;unfold IZ;refine(hpw.and hnr).imp_of_mem λ{x y} hx hy h=>?_
  have hx:=hp.mem_iff.1 hx;have hy:=hp.mem_iff.1 hy;rcases AsO (DY x y) 0 with h1|h1|h1
  .exact h1
  .exact absurd (IH.1 h1) h.2
  .have:=Wn (L:=l) hy (show DY y x<0 by rw[J9];omega)
   omega
theorem Aab:D.ask (.fn 15) [.v (.slice Ξ 0 0),fnR] []=Θ (.tup [],[]):=by
 obtain⟨k,hk⟩:=AcA (n:=0) K (by omega);have g0:D.ask (.lp 79 0) [.v (.slice Ξ 0 0),iv 0,iv 0,fnR,iv 1] []=Θ (.tup [iv 0,.v (.slice Ξ 0 0)],[]):=
  K.lp' R1 _ rfl (by kernel_rfl) ((AeT ..).trans ((CK (by omega)).trans rfl))
 have g:D.ask (.fn 79) [.v (.slice Ξ 0 0),iv 0,iv 0,fnR] []=Θ (.tup [],[]):=
  K.fn' R1 _ rfl ((Alf ..).trans ((Cm g0 _).trans rfl))
 have g1:D.ask (.lp 43 0) [.v (.slice Ξ 0 0),iv 0,iv 0,iv k,fnR,bv Δ,bv Δ] []=Θ (.tup [bv Δ,.v (.slice Ξ 0 0)],[]):=
  K.lp' R0 _ rfl (by kernel_rfl) ((AeS ..).trans ((NW (by decide)).trans ((Cm g _).trans rfl)))
 refine AB K AbW (Ak7 ..) ?_;refine Aa hk ?_;simp only[ND,DK,Ab];refine Aa (K.fn' R0 _ rfl ((Alb ..).trans ((Cm g1 _).trans rfl))) ?_;rfl
end
section
variable {D:Orc} (Kt:Knows Al FP D) (Kf:Knows Al Lh D) (Ks:Knows Al Ed D) (Z:ZF D) (C:PartF D) (Kl:Knows Al Ld D)
include Kl
theorem AfW(a b:Int):D.ask (.lp 45 0) [iv 0,.ls [[iv a],[iv b]],iv 2,iv 2] []=Θ (.tup [iv 0,iv 0],[]):=by
 refine Au Kl Ze (Aby ..) ?_;exact Ag rfl
theorem AfX(a b:Int):D.ask (.lp 45 0) [iv 0,.ls [[iv a],[iv b]],iv 2,iv 1] []=Θ (if b=0 then .tup [iv 0,iv 0] else .tup [bv Δ,iv b],[]):=by
 refine Au Kl Ze (Aby ..) ?_;refine Aj ?_
 show br (Af.eq b 0) _ _=_
 by_cases h:b=0
 .refine Bu ?_ h
  rw[if_pos h];refine Aa (AfW Kl a b) ?_;rfl
 .rw[if_neg h]
  exact AN rfl h
theorem WF(a b:Int):D.ask (.fn 45) [.ls [[iv a],[iv b]]] []=Θ (iv (IS a b),[]):=by
 have g:D.ask (.lp 45 0) [iv 0,.ls [[iv a],[iv b]],iv 2,iv 0] []=Θ (if IS a b=0 then .tup [iv 0,iv 0] else .tup [bv Δ,iv (IS a b)],[]):=by
  refine Au Kl Ze (Aby ..) ?_;refine Aj ?_
  show br (Af.eq a 0) _ _=_
  unfold IS
  by_cases h:a=0
  .refine Bu ?_ h
   rw[if_pos h];refine Aa (AfX Kl a b) ?_
   by_cases h2:b=0
   .rw[if_pos h2];rfl
   .rw[if_neg h2];rfl
  .rw[if_neg h,if_neg h]
   exact AN rfl h
 refine AB Kl Ze (e45 ..) ?_;refine Aa g ?_
 by_cases h:IS a b=0
 .rw[if_pos h,h];rfl
 .rw[if_neg h];rfl
include Ks Z
theorem AeK{p q:Pt}(hp:Lz 1000000000 p.z)(hq:Lz 1000000000 q.z):D.ask (.fn 89) [.agg (eP p),.agg (eP q)] []=Θ (iv (Gc (pv p) (pv q)),[]):=by
 have g1:=RE Ks p.v q.v;have g2:=Z.cmp p.z q.z hp hq;obtain⟨a,n,x⟩:=p;obtain⟨b,m,y⟩:=q;refine AB Kl Ama (e89 ..) ?_;refine Aa g1 ?_;simp only[ND,DK,Ab];refine Aa g2 ?_;simp only[ND,DK,Ab];refine Aa (WF Kl _ _) ?_;rfl
theorem AeM{a b:List Pt}(la:a.length<=1000000)(lb:b.length<=1000000)(ha:∀ p∈a,Lz 1000000000 p.z)(hb:∀ p∈b,Lz 1000000000 p.z):∀(m i:Nat),a.length-i=m->i<=a.length->D.ask (.lp 90 0) [.ls (a.map eP),.ls (b.map eP),.fn (.func 89) [] [],.ls (a.map eP),iv (a.length:Int),iv (i:Int)] []=Θ (match GO ((a.drop i).map pv) ((b.drop i).map pv) with|some n=>.tup [bv Δ,iv n] | none=>.tup [iv 0,.ls (a.map eP),.ls (b.map eP)],[]):=by
 intro m
 induction m with
 |zero=>
  intro i hm hi;rw[AqX (by omega)];refine Au Kl Ab8 (Ahs ..) ?_;exact Ag rfl
 |succ m ih=>
  intro i hm hi;have h1:i<a.length:=by omega
  have ih:=ih (i+1) (by omega) (by omega);rw[κ h1,Aq8];refine Au Kl Ab8 (Ahs ..) ?_;refine Aj ?_;rw[Av,At (ξ h1)];simp only[eP,eN,ND,DK,Ab];rw[Ak]
  by_cases h2:b.length<=i
  .refine B6 ?_
   rw[AqX h2];rfl
  .have h2:i<b.length:=by omega
   refine Cr ?_;rw[Av,At (ξ h2)];simp only[eP,eN,ND,DK,Ab];have gc:=AeK Ks Z Kl (ha _ (Arc h1)) (hb _ (Arc h2));refine Aa gc ?_;simp only[ND,DK,Ab];rw[κ h2,Aq8,GO]
   by_cases h3:Gc (pv a[i]) (pv b[i])=0
   .refine Bu ?_ h3
    rw[if_pos h3,BA (by omega)];refine Aa ih ?_
    cases GO ((a.drop (i+1)).map pv) ((b.drop (i+1)).map pv)<;>rfl
   .rw[if_neg h3]
    exact AN rfl h3
theorem Aa6{a b:List Pt}(la:a.length<=1000000)(lb:b.length<=1000000)(ha:∀ p∈a,Lz 1000000000 p.z)(hb:∀ p∈b,Lz 1000000000 p.z):D.ask (.fn 90) [.ls (a.map eP),.ls (b.map eP),.fn (.func 89) [] []] []=Θ (iv (HI (a.map pv) (b.map pv)),[]):=by
 refine AB Kl Ab8 (e90 ..) ?_;rw[Ak];refine Aa (AeM Ks Z Kl la lb ha hb _ 0 rfl (by omega)) ?_;rw[AqQ,AqQ];unfold HI
 cases GO (a.map pv) (b.map pv) with
 |some n=>rfl
 |none=>
  simp only[ND,DK,Ab]
  show br (Af.lt _ _) _ _=_
  rw[Ak,Ak];simp only[Aq7]
  by_cases h:a.length<b.length
  .refine Aj ?_
   rw[if_pos h]
  .refine Ag ?_
   rw[if_neg h]
include Kt C
theorem Xj{n k:Nat}{t u:Tm}(ht:TmB n k t)(hu:TmB n k u)(hn:n<=1000000)(hk:k+n<=900000000):D.ask (.fn 46) [.agg (eT t),.agg (eT u)] []=Θ (iv (M7 t.lf.pln u.lf.pln),[]):=by
 have g1:=EI Kt Ks Z C ht hn hk;have g2:=EI Kt Ks Z C hu hn hk;have b1:=ht.lb.pln.tb;have b2:=hu.lb.pln.tb;have e1:(t.lf.pln.tm.ps).map pv=t.lf.pln.ps:=congrArg Lf.ps (BE t.lf.pln);have e2:(u.lf.pln.tm.ps).map pv=u.lf.pln.ps:=congrArg Lf.ps (BE u.lf.pln);have k1:zv t.lf.pln.tm.k=t.lf.pln.k:=congrArg Lf.k (BE t.lf.pln);have k2:zv u.lf.pln.tm.k=u.lf.pln.k:=congrArg Lf.k (BE u.lf.pln);have g3:=Aa6 Ks Z Kl (a:=t.lf.pln.tm.ps) (b:=u.lf.pln.tm.ps) (ArJ b1.len hn) (ArJ b2.len hn) (λp hp=>(b1.ps p hp).mono (by omega)) (λp hp=>(b2.ps p hp).mono (by omega));have g4:=Z.cmp t.lf.pln.tm.k u.lf.pln.tm.k (b1.k.mono (by omega)) (b2.k.mono (by omega));rw[e1,e2]at g3;rw[k1,k2]at g4;unfold M7;revert g1 g2 g3 g4;generalize t.lf.pln.tm=x;generalize u.lf.pln.tm=y;intro g1 g2 g3 g4;obtain⟨tp,tz⟩:=t;obtain⟨up,uz⟩:=u;obtain⟨xp,xn,xa⟩:=x;obtain⟨yp,yn,ya⟩:=y;refine AB Kl AlM (e46 ..) ?_;refine Aa g1 ?_;simp only[eT,eN,ND,DK,Ab];refine Aa g2 ?_;simp only[eT,eN,ND,DK,Ab];refine Aa g3 ?_;simp only[ND,DK,Ab];refine Aa g4 ?_;simp only[ND,DK,Ab];refine Aa (WF Kl _ _) ?_;rfl
theorem ZK{n k:Nat}{t u:Tm}(ht:TmB n k t)(hu:TmB n k u)(hn:n<=1000000)(hk:k+n<=900000000)(e f:Bool):D.ask (.fn 16) [.agg (eT t++[bv e]),.agg (eT u++[bv f])] []=Θ (iv (Tw t.lf.pln u.lf.pln e f),[]):=by
 have g1:=Xj Kt Ks Z C Kl ht hu hn hk;have gr:∀(t:Tm) (e:Bool),D.ask (.fn 48) [.agg (eT t++[bv e])] []=Θ (iv (UG e),[]):=by
  rintro⟨p,z⟩ e;refine AB Kl AlO (e48 ..) ?_
  cases e<;>rfl
 unfold Tw;revert g1;generalize M7 t.lf.pln u.lf.pln=c;intro g1;have r1:=gr t e;have r2:=gr u f;obtain⟨tp,tz⟩:=t;obtain⟨up,uz⟩:=u;refine AB Kl Alr (e16 ..) ?_;refine Aa g1 ?_;simp only[ND,DK,Ab];refine Aa r1 ?_;simp only[ND,DK,Ab];refine Aa r2 ?_;simp only[ND,DK,Ab];refine Aa (RE Ks _ _) ?_;simp only[ND,DK,Ab];refine Aa (WF Kl _ _) ?_;rfl
end
def eO(o:Option Int):List AV:=eZ (Aq (o.getD 0))
def Eh(x:Ln):List AV:=eT (Lf.tm ⟨x.ps,0⟩)++(eO x.lo++(eO x.hi++[bv x.lo.isSome,bv x.hi.isSome]))
def OB(k:Nat)(o:Option Int):Prop:=∀ n,o=Θ n->InB k n
structure LnB (n k:Nat) (x:Ln):Prop where
 pln:Pln x.ps
 lb:LB n k ⟨x.ps,0⟩
 lo:OB k x.lo
 hi:OB k x.hi
theorem SQ{ps:List (Int × Int)}(h:Pln ps)(k a:Int):(⟨ps,k⟩:Lf).sub (Lf.num a)=⟨ps,k-a⟩:=by
 have e:(Lf.num a).scale (-1)=⟨[],-a⟩:=Fa (l:=Lf.num a) Su;unfold Lf.sub;rw[e]
 show (⟨AO (ps++[]),k + -a⟩:Lf)=_
 rw[ArB,B7 h];rfl
theorem X7{ps:List (Int × Int)}(h:Pln ps)(k a:Int):(Lf.num a).sub ⟨ps,k⟩=⟨negP ps,a-k⟩:=by
 have e:(⟨ps,k⟩:Lf).scale (-1)=⟨negP ps,-k⟩:=Fa (l:=⟨ps,k⟩) h;unfold Lf.sub;rw[e]
 show (⟨AO ([]++negP ps),a + -k⟩:Lf)=_
 rw[Aq4,B7 (Di h)];rfl
theorem O8{ps:List (Int × Int)}(h:Pln ps)(k:Int):(⟨ps,k⟩:Lf).pln=⟨ps,k⟩:=by
 unfold Lf.pln;rw[B7 h]
theorem OY{k:Nat}{a:Int}(h:InB k a):TmB 0 k (Lf.num a).tm:=LB.tb ⟨π _,(λp hp=>nomatch hp),h⟩
section
variable {D:Orc} (Kt:Knows Al FP D) (Kf:Knows Al Lh D) (Ks:Knows Al Ed D) (Z:ZF D) (C:PartF D) (Kl:Knows Al Ld D) (Kd:Knows Al Q9 D)
include Kd Z
theorem AcD{k:Nat}(hk:k<=1000000000)(x:Ln){n:Int}(hn:InB k n)(hx:OB k x.lo):D.ask (.fn 38) [.ptr 0 0,.agg (eZ (Aq n))] [bk (Eh x)]=Θ (.tup [],[.set (bk (Eh (I2 n x)))]):=by
 obtain⟨ps,lo,hi⟩:=x;refine AB Kd AlH (e38 ..) ?_
 cases lo with
 |none=>rfl
 |some m=>
  have g:=Z.cmp (Aq n) (Aq m) ((hn.lz).mono hk) (((hx m rfl).lz).mono hk);rw[AE,AE]at g
  show br Φ _ _=_
  refine Ba ?_;refine Aa g ?_;simp only[ND,DK,Ab]
  by_cases h:m<n
  .refine Aj ?_ (by unfold Cp;rw[if_neg (by omega),if_pos h];decide)
   unfold I2 PZ;simp only[if_pos h];rfl
  .refine Ag ?_ (by unfold Cp;split<;>(try split)<;>omega)
   unfold I2 PZ;simp only[if_neg h];rfl
theorem QG{k:Nat}(hk:k<=1000000000)(x:Ln){n:Int}(hn:InB k n)(hx:OB k x.hi):D.ask (.fn 40) [.ptr 0 0,.agg (eZ (Aq n))] [bk (Eh x)]=Θ (.tup [],[.set (bk (Eh (FF n x)))]):=by
 obtain⟨ps,lo,hi⟩:=x;refine AB Kd AlJ (e40 ..) ?_
 cases hi with
 |none=>rfl
 |some m=>
  have g:=Z.cmp (Aq n) (Aq m) ((hn.lz).mono hk) (((hx m rfl).lz).mono hk);rw[AE,AE]at g
  show br Φ _ _=_
  refine Ba ?_;refine Aa g ?_;simp only[ND,DK,Ab]
  by_cases h:n<m
  .refine Aj ?_ (by unfold Cp;rw[if_pos h];decide)
   unfold FF Wu;simp only[if_pos h];rfl
  .refine Ag ?_ (by unfold Cp;split<;>(try split)<;>omega)
   unfold FF Wu;simp only[if_neg h];rfl
include Kt Kf Ks C Kl
theorem Ac6{n k:Nat}{t u:Tm}(ht:TmB n k t)(hu:TmB n k u)(hn:n<=1000000)(hk:k+n<=900000000):D.ask (.fn 77) [.agg (eT t),.agg (eT u)] []=Θ (bv (decide (M7 t.lf.pln u.lf.pln=0)),[]):=by
 have g:=Xj Kt Ks Z C Kl ht hu hn hk;refine AB Kd Al8 (e77 ..) ?_;refine Aa g ?_;simp only[ND,DK,Ab]
 by_cases h:M7 t.lf.pln u.lf.pln=0
 .rw[decide_eq_true h]
  exact GJ h
 .rw[decide_eq_false h]
  exact FU h
omit Kl Kd in
theorem Apb{n k:Nat}{ps:List (Int × Int)}{u:Int}(hp:Pln ps)(lb:LB n k ⟨ps,0⟩)(hu:InB k u)(hn:n<=100000)(hk:k<=1000000):D.ask (.fn 35) [.agg (eT (Lf.tm ⟨ps,0⟩)),.agg (eT (Lf.num u).tm)] []=Θ (.agg (eT (Lf.tm ⟨ps,-u⟩)),[]):=by
 have g:=W1 Kt Kf Ks Z C lb.tb (OY hu) (by omega) (by omega);rw[BE,BE,SQ hp,Int.zero_sub]at g;exact g
omit Kl Kd in
theorem Apc{n k:Nat}{ps:List (Int × Int)}{u:Int}(hp:Pln ps)(lb:LB n k ⟨ps,0⟩)(hu:InB k u)(hn:n<=100000)(hk:k<=1000000):D.ask (.fn 35) [.agg (eT (Lf.num u).tm),.agg (eT (Lf.tm ⟨ps,0⟩))] []=Θ (.agg (eT (Lf.tm ⟨negP ps,u⟩)),[]):=by
 have g:=W1 Kt Kf Ks Z C (OY hu) lb.tb (by omega) (by omega);rw[BE,BE,X7 hp,Int.sub_zero]at g;exact g
omit Kl Kd in
theorem Acx{n k:Nat}{ps:List (Int × Int)}{u:Int}(hp:Pln ps)(lb:LB n k ⟨ps,u⟩)(hn:n<=100000)(hk:k<=1000000):D.ask (.fn 9) [.agg (eT (Lf.tm ⟨ps,u⟩))] []=Θ (.agg (BX (⟨ps,u⟩,Φ)),[]):=by
 have g:=Acy Kt Kf Ks Z C lb.tb (by omega) (by omega);rw[BE,O8 hp]at g;exact g
omit Kl Kd in
theorem An8{n k:Nat}{ps:List (Int × Int)}{u:Int}(hp:Pln ps)(lb:LB n k ⟨ps,u⟩)(hn:n<=100000)(hk:k<=1000000):D.ask (.fn 42) [.agg (eT (Lf.tm ⟨ps,u⟩))] []=Θ (.agg (BX (⟨ps,u⟩,Δ)),[]):=by
 have g:=Ahe Kt Kf Ks Z C lb.tb (by omega) (by omega);rw[BE,O8 hp]at g;exact g
def Pd(x:Ln):AV:=match FL x with
 |none=>.tup [.ls [],bv Φ]
 |some l=>.tup [.ls (l.map BX),bv Δ]
omit Kl in
theorem Zn{n k:Nat}{x:Ln}(hx:LnB n k x)(hn:n<=100000)(hk:k<=1000000):D.ask (.fn 14) [.ptr 0 0] [bk (Eh x)]=Θ (Pd x,[.set (bk (Eh x))]):=by
 obtain⟨hp,lb,hlo,hhi⟩:=hx;have lbk:∀{a},InB k a->LB n k ⟨x.ps,a⟩:=λh=>⟨lb.len,lb.ps,h⟩
 have lbn:∀{a},InB k a->LB n k ⟨negP x.ps,a⟩:=λh=>⟨by show (List.map _ _).length<=n;rw[Aq7];exact lb.len,λp hp=>by
  obtain⟨q,hq,rfl⟩:=Arj.1 hp;exact(lb.ps q hq).neg,h⟩
 have gn:∀{a},InB k a->D.ask (.fn 36) [.agg (eZ (Aq a))] []=Θ (.agg (eT (Lf.num a).tm),[]):=λ{a} h=>by
  have:=QQ Kt Kf Z (h.lz.mono (by omega));rw[AE]at this;exact this
 have g1:∀{u},InB k u->_:=λ{u} h=>Apb Kt Kf Ks Z C hp lb h hn hk
 have g2:∀{u},InB k u->_:=λ{u} h=>Apc Kt Kf Ks Z C hp lb h hn hk
 have gl:∀{u},InB k u->_:=λ{u} h=>Acx Kt Kf Ks Z C hp (lbk h.neg) hn hk
 have gm:∀{u},InB k u->_:=λ{u} h=>Acx Kt Kf Ks Z C (Di hp) (lbn h) hn hk
 have gz:∀{u},InB k u->_:=λ{u} h=>An8 Kt Kf Ks Z C hp (lbk h.neg) hn hk
 simp only[eT,eZ,eN,BX,CY,Arm,Aq4]at gn g1 g2 gl gm gz;obtain⟨ps,lo,hi⟩:=x;refine AB Kd Alq (e14 ..) ?_;unfold Pd FL
 cases lo with
 |none=>
  refine Ba ?_;refine Ba ?_;refine Ba ?_;refine Ba ?_;refine Ba ?_;refine Ba ?_
  cases hi with
  |none=>exact Ba rfl
  |some v=>
   have hv:=hhi v rfl;refine Ac ?_;refine Aa (gn hv) ?_;simp only[ND,DK,Ab];refine Aa (g2 hv) ?_;simp only[ND,DK,Ab];refine Aa (gm hv) ?_;rfl
 |some u=>
  have hu:=hlo u rfl;refine Ac ?_;refine Ac ?_;refine Ac ?_;refine Ac ?_;refine Ac ?_
  cases hi with
  |none=>
   refine Ba ?_;refine Ac ?_;refine Aa (gn hu) ?_;simp only[ND,DK,Ab];refine Aa (g1 hu) ?_;simp only[ND,DK,Ab];refine Aa (gl hu) ?_;simp only[ND,DK,Ab];exact Ba rfl
  |some v=>
   have hv:=hhi v rfl;have gc:=Z.cmp (Aq u) (Aq v) (hu.lz.mono (by omega)) (hv.lz.mono (by omega));rw[AE,AE]at gc;refine Ac ?_;refine Aa gc ?_;simp only[ND,DK,Ab]
   by_cases h1:v<u
   .rw[if_pos h1]
    exact Bu rfl (by unfold Cp;rw[if_neg (by omega),if_pos h1])
   rw[if_neg h1];refine AN ?_ (by unfold Cp;split<;>(try split)<;>omega)
   by_cases h2:u=v
   .rw[if_pos h2]
    refine Bu ?_ (by unfold Cp;split<;>(try split)<;>omega);refine Aa (gn hu) ?_;simp only[ND,DK,Ab];refine Aa (g1 hu) ?_;simp only[ND,DK,Ab];refine Aa (gz hu) ?_;rfl
   .rw[if_neg h2]
    refine AN ?_ (by unfold Cp;split<;>(try split)<;>omega);refine Ac ?_;refine Aa (gn hu) ?_;simp only[ND,DK,Ab];refine Aa (g1 hu) ?_;simp only[ND,DK,Ab];refine Aa (gl hu) ?_;simp only[ND,DK,Ab];refine Ac ?_;refine Aa (gn hv) ?_;simp only[ND,DK,Ab];refine Aa (g2 hv) ?_;simp only[ND,DK,Ab];refine Aa (gm hv) ?_;rfl
