/- When two formulas are th -/
import Derived.Test.YtpncilciembjdaaGreatDoorEBB
set_option linter.all false
open Bool renaming false->Φ,true->Δ
open Int renaming lt_trichotomy->Auj,mul_neg->Au5,mul_one->Avs,natAbs_natCast->AtS,neg_neg->Aug
open List renaming append_nil->AsX,cons_append->AsK,drop_eq_getElem_cons->ο,drop_eq_nil_of_le->Ar6,drop_zero->ArT,filterMap_append->Au8,filterMap_cons->Avg,filterMap_eq_nil_iff->AtY,filterMap_nil->Avj,filter_cons->At4,foldl_cons->Atm,getElem?_eq_getElem->φ,getElem_mem->Ast,length_append->η,length_cons->ε,length_map->Ar2,length_set->Asd,map_congr_left->Atw,map_cons->Ar7,map_eq_nil_iff->AtF,map_map->Atk,mem_append->AsC,mem_append_left->AuB,mem_append_right->Auy,mem_cons->ArR,mem_cons_of_mem->γ,mem_cons_self->υ,mem_filterMap->Ath,mem_map->Asj,mem_singleton->Asq,nil_append->Asg,nodup_append->Aum,nodup_cons->AtD,nodup_nil->AuF,pairwise_cons->AsH,pairwise_map->AtX
open Nat renaming add_sub_cancel->As2,gcd->AtL,le_refl->κ,le_trans->Asr
open Option renaming none->Ξ,some->Θ,ext->Av3
open Prod renaming ext_iff->AvZ
namespace Go.Proofs.YtpncilciembjdaaGreatDoor
open ABlk renaming mk->δ
open Option.some renaming injEq->ξ
open Go.RowKit
def JD(a b:Int):Int:=if a=0 then b else a
theorem OX{a b:Int}:JD a b=0 ↔ a=0/\b=0:=by
 unfold JD;split<;>simp_all
theorem E8{a b:Int}:CD a b=0 ↔ a=b:=by
 unfold CD;split
 .omega
 .split<;>omega
def JZ(p q:Int × Int):Int:=JD (CD p.1 q.1) (CD p.2 q.2)
theorem NW{p q:Int × Int}:JZ p q=0 ↔ p=q:=by
 unfold JZ;rw[OX,E8,E8,AvZ]
def Jn:List (Int × Int)->List (Int × Int)->Option Int
 |[],_=>Ξ
 |_::_,[]=>Θ 1
 |p::a,q::b=>if JZ p q=0 then Jn a b else Θ (JZ p q)
def JY(a b:List (Int × Int)):Int:=match Jn a b with
 |some n=>n
 |none=>if a.length<b.length then -1 else 0
theorem Xd:∀{a b:List (Int × Int)} {n:Int},Jn a b=Θ n->n≠0
 |[],_,_,h=>by cases h
 |_::_,[],n,h=>by
  rw[Jn]at h;injection h with h
  omega
 |p::a,q::b,n,h=>by
  rw[Jn]at h;split at h
  .exact Xd h
  .rename_i h0
   injection h with h
   rw[←h];exact h0
theorem Qd:∀{a b:List (Int × Int)},Jn a b=Ξ->¬ a.length<b.length->a=b
 |[],b,_,h=>by
  cases b with
  |nil=>rfl
  |cons _ _=>simp at h
 |_::_,[],h,_=>by cases h
 |p::a,q::b,h,hl=>by
  rw[Jn]at h;split at h
  .rename_i h0
   rw[NW.1 h0,Qd h (by simpa using hl)]
  .cases h
theorem Qe:∀ a:List (Int × Int),Jn a a=Ξ
 |[]=>rfl
 |p::a=>by rw[Jn,if_pos (NW.2 rfl),Qe a]
theorem Vy{a b:List (Int × Int)}:JY a b=0 ↔ a=b:=by
 unfold JY;constructor
 .intro h
  cases e:Jn a b with
  |some n=>
   rw[e]at h;exact absurd h (Xd e)
  |none=>
   rw[e]at h;refine Qd e λhl=>?_
   simp only[if_pos hl]at h;omega
 .rintro rfl
  rw[Qe];simp
def RB(a b:Lf):Int:=JD (JY a.ps b.ps) (CD a.k b.k)
theorem Lg{a b:Lf}:RB a b=0 ↔ a=b:=by
 obtain⟨p,k⟩:=a;obtain⟨q,j⟩:=b;unfold RB;rw[OX,Vy,E8];simp
def UD(e:Bool):Int:=if e then 1 else 0
def Y1(a b:Lf)(e f:Bool):Int:=JD (RB a b) (CD (UD e) (UD f))
theorem Y2{a b:Lf}{e f:Bool}:Y1 a b e f=0 ↔ a=b/\e=f:=by
 unfold Y1;rw[OX,Lg,E8]
 cases e<;>cases f<;>simp[UD]
theorem CanFs.mem:∀{l:List Fm},CanFs l->∀ x∈l,CanF x
 |_::_,.cons h hr,x,hx=>by
  rcases ArR.1 hx with rfl|hx
  .exact h
  .exact hr.mem x hx
theorem CanF.kids{x:Fm}(h:CanF x):∀ y∈x.kids,CanF y:=by
 cases h with
 |tru b=>intro y hy;cases b<;>cases hy
 |atom l e h=>intro y hy;cases hy
 |no x h=>intro y hy;rcases Asq.1 hy with rfl;exact h
 |and l h=>exact h.mem
 |or l h=>exact h.mem
 |no0=>intro y hy;cases hy
theorem CanF.head{x:Fm}(h:CanF x):(x.kind=2/\x.kids=[]/\∃ l:Lf,l.pln=l/\x.tm=l.tm)\/(x.kind≠2/\x.tm=Tm0/\x.eq=Φ):=by
 cases h with
 |tru b=>exact .inr ⟨by cases b<;>decide,rfl,rfl⟩
 |atom l e h=>exact .inl ⟨rfl,rfl,l,h,rfl⟩
 |no x h=>exact .inr ⟨by show (3:Int)≠2;decide,rfl,rfl⟩
 |and l h=>exact .inr ⟨by show (4:Int)≠2;decide,rfl,rfl⟩
 |or l h=>exact .inr ⟨by show (5:Int)≠2;decide,rfl,rfl⟩
 |no0=>exact .inr ⟨by show (3:Int)≠2;decide,rfl,rfl⟩
def LD:List Int->List Int->Int
 |[],[]=>0
 |[],_::_=>-1
 |_::_,[]=>1
 |a::r,b::s=>JD (CD a b) (LD r s)
def Y6:List (Int × Int)->List Int
 |[]=>[0]
 |p::r=>1::p.1::p.2::Y6 r
def AkK(x:Lf × Bool):List Int:=Y6 x.1.ps++[x.1.k,UD x.2]
theorem LK(a b c:Int):JD (JD a b) c=JD a (JD b c):=by
 unfold JD
 by_cases h:a=0
 .rw[if_pos h,if_pos h]
 .rw[if_neg h,if_neg h,if_neg h]
theorem AlM(a:Int):JD a 0=a:=by
 unfold JD;split<;>omega
theorem Vx(p q:Int × Int)(a b:List (Int × Int)):JY (p::a) (q::b)=JD (JZ p q) (JY a b):=by
 unfold JY JD;rw[Jn]
 by_cases h:JZ p q=0
 .rw[if_pos h,if_pos h]
  simp only[ε,Nat.add_lt_add_iff_right]
 .rw[if_neg h,if_neg h]
theorem XH:∀(a b:List (Int × Int)) (u v:List Int),LD (Y6 a++u) (Y6 b++v)=JD (JY a b) (LD u v)
 |[],[],u,v=>rfl
 |[],q::b,u,v=>rfl
 |p::a,[],u,v=>rfl
 |p::a,q::b,u,v=>by
  rw[Vx,LK,←XH a b u v]
  show JD (CD 1 1) (JD (CD p.1 q.1) (JD (CD p.2 q.2) (LD (Y6 a++u) (Y6 b++v))))=_
  unfold JZ;rw[LK];rfl
def Fu(x y:Lf × Bool):Int:=Y1 x.1 y.1 x.2 y.2
theorem NX(x y:Lf × Bool):Fu x y=LD (AkK x) (AkK y):=by
 unfold AkK Fu Y1 RB;rw[XH,LK]
 show JD _ (JD _ _)=JD _ (JD _ (JD _ 0))
 rw[AlM]
theorem RC(a b:Int):CD a b<0 ↔ a<b:=by
 unfold CD;split
 .omega
 .split<;>omega
theorem Aba(a b:Int):CD b a=-CD a b:=by
 unfold CD
 repeat' split
 all_goals omega
theorem XI:∀ a b:List Int,LD b a=-LD a b
 |[],[]=>rfl
 |[],_::_=>rfl
 |_::_,[]=>rfl
 |a::r,b::s=>by
  rw[LD,LD,XI r s,Aba a b];unfold JD;split<;>split<;>omega
theorem Qw:∀{a b c:List Int},LD a b<0->LD b c<0->LD a c<0
 |[],_,[],h1,h2=>by
  rename_i b
  cases b with
  |nil=>exact h1
  |cons=>exact absurd h2 (by decide:¬ (1:Int)<0)
 |[],_,_::_,_,_=>(by decide:(-1:Int)<0)
 |_::_,[],_,h1,_=>absurd h1 (by decide:¬ (1:Int)<0)
 |_::_,_::_,[],_,h2=>absurd h2 (by decide:¬ (1:Int)<0)
 |a::r,b::s,c::t,h1,h2=>by
  rw[LD]at h1 h2 ⊢;unfold JD at h1 h2 ⊢
  by_cases e1:CD a b=0
  .rw[if_pos e1]at h1
   have:=E8.1 e1;subst this
   by_cases e2:CD a c=0
   .rw[if_pos e2]at h2 ⊢
    exact Qw h1 h2
   .rw[if_neg e2]at h2 ⊢
    exact h2
  .rw[if_neg e1,RC]at h1
   by_cases e2:CD b c=0
   .have:=E8.1 e2
    subst this;rw[if_neg e1,RC];exact h1
   .rw[if_neg e2,RC]at h2
    have h3:CD a c<0:=(RC a c).2 (by omega);rw[if_neg (by omega)];exact h3
theorem NY(x y:Lf × Bool):Fu y x=-Fu x y:=by rw[NX,NX,XI]
theorem Vz{x y z:Lf × Bool}(h1:Fu x y<0)(h2:Fu y z<0):Fu x z<0:=by
 rw[NX]at *;exact Qw h1 h2
theorem Lh{x y:Lf × Bool}:Fu x y=0 ↔ x=y:=by
 unfold Fu;rw[Y2,AvZ]
theorem ID(x:Lf × Bool):Fu x x=0:=Lh.2 rfl
def PI(l:List (Lf × Bool)):Prop:=l.Pairwise λx y=>Fu x y<0
theorem Td:∀{a b:List (Lf × Bool)},PI a->PI b->(∀ x,x∈a ↔ x∈b)->a=b
 |[],[],_,_,_=>rfl
 |[],y::b,_,_,h=>absurd ((h y).2 (υ ..)) (by simp)
 |x::a,[],_,_,h=>absurd ((h x).1 (υ ..)) (by simp)
 |x::a,y::b,ha,hb,h=>by
  unfold PI at ha hb;obtain⟨a1,a2⟩:=AsH.1 ha;obtain⟨b1,b2⟩:=AsH.1 hb;have hxy:x=y:=by
   rcases ArR.1 ((h x).1 (υ ..)) with h1|h1
   .exact h1
   .rcases ArR.1 ((h y).2 (υ ..)) with h2|h2
    .exact h2.symm
    .have h3:=a1 y h2
     have h4:=b1 x h1;rw[NY x y]at h4;omega
  subst hxy;rw[Td a2 b2 λz=>?_];constructor
  .intro hz
   rcases ArR.1 ((h z).1 (γ _ hz)) with h1|h1
   .have:=a1 z hz
    rw[h1,ID]at this;omega
   .exact h1
  .intro hz
   rcases ArR.1 ((h z).2 (γ _ hz)) with h1|h1
   .have:=b1 z hz
    rw[h1,ID]at this;omega
   .exact h1
theorem Abb(p:Tm):∀ q∈AG p.lf.ps,(Dr p:Int) ∣ q.2:=λq hq=>Int.natAbs_dvd_natAbs.1 (by rw[AtS];exact(Ka (AG p.lf.ps) 0).2 q hq)
abbrev RL:Type:=Lf × Bool
def Jw:List (Int × Int)->Int
 |[]=>0
 |p::_=>p.2
def negP(l:List (Int × Int)):List (Int × Int):=l.map λp=>(p.1,-p.2)
theorem Fk(l:List (Int × Int)):negP (negP l)=l:=by
 unfold negP;rw[Atk]
 conv=>rhs;rw[←List.map_id l]
 refine Atw λp _=>?_
 show ((p.1,- -p.2):Int × Int)=p
 rw[Aug]
theorem FH(l:List (Int × Int)):Jw (negP l)=-Jw l:=by
 cases l with
 |nil=>rfl
 |cons p r=>rfl
structure TgR (r:RL):Prop where
 pln:Pln r.1.ps
 ne:r.1.ps≠[]
 one:Ed 0 r.1.ps=1
 eq:r.2=Δ->0<Jw r.1.ps
theorem TgR.hd{r:RL}(h:TgR r):Jw r.1.ps≠0:=by
 cases e:r.1.ps with
 |nil=>exact absurd e h.ne
 |cons p l=>exact h.pln.nz p (by rw[e];exact υ ..)
structure Ln where
 ps:List (Int × Int)
 lo:Option Int
 hi:Option Int
def Uo(o:Option Int)(n:Int):Option Int:=match o with
 |none=>Θ n
 |some m=>if m<n then Θ n else Θ m
def mnO(o:Option Int)(n:Int):Option Int:=match o with
 |none=>Θ n
 |some m=>if n<m then Θ n else Θ m
def Hm(p:List (Int × Int))(f:Ln->Ln):List Ln->List Ln
 |[]=>[f ⟨p,Ξ,Ξ⟩]
 |x::r=>if x.ps=p then f x::r else x::Hm p f r
def IX(n:Int)(x:Ln):Ln:=⟨x.ps,Uo x.lo n,x.hi⟩
def FI(n:Int)(x:Ln):Ln:=⟨x.ps,x.lo,mnO x.hi n⟩
def EQ(ls:List Ln)(r:RL):List Ln:=
 if 0<Jw r.1.ps then Hm r.1.ps (λx=>if r.2=Δ then FI (-r.1.k) (IX (-r.1.k) x) else IX (-r.1.k) x) ls
 else Hm (negP r.1.ps) (FI r.1.k) ls
def Ak7(T:List RL):List Ln:=T.foldl EQ []
def MU(l:List Int):Option Int:=l.foldl Uo Ξ
def Un(l:List Int):Option Int:=l.foldl mnO Ξ
def MT(p:List (Int × Int))(r:RL):Option Int:=if r.1.ps=p then Θ (-r.1.k) else Ξ
def Hc(p:List (Int × Int))(r:RL):Option Int:=if r.1.ps=p then(if r.2=Δ then Θ (-r.1.k) else Ξ) else if r.1.ps=negP p then Θ r.1.k else Ξ
def Nf(T:List RL)(p:List (Int × Int)):Option Int:=MU (T.filterMap (MT p))
def MS(T:List RL)(p:List (Int × Int)):Option Int:=Un (T.filterMap (Hc p))
def Hp(T:List RL)(p:List (Int × Int)):Prop:=0<Jw p/\∃ r∈T,r.1.ps=p\/r.1.ps=negP p
theorem Zt(l:List Int)(n:Int):MU (l++[n])=Uo (MU l) n:=by simp[MU]
theorem Zw(l:List Int)(n:Int):Un (l++[n])=mnO (Un l) n:=by simp[Un]
theorem Aj1(z y:Int):Uo (Θ z) y=Θ (if z<y then y else z):=by
 show (if z<y then Θ y else Θ z)=_
 split<;>rfl
theorem Er:∀{l:List Int} {m:Int},MU l=Θ m ↔ m∈l/\∀ x∈l,x<=m:=by
 have key:∀(l:List Int) (o:Option Int) (m:Int),l.foldl Uo o=Θ m ↔ (m∈l\/o=Θ m)/\(∀ x∈l,x<=m)/\∀ x,o=Θ x->x<=m:=by
  intro l
  induction l with
  |nil=>
   intro o m;simp only[List.foldl_nil];constructor
   .intro h
    exact⟨.inr h,by simp,λx hx=>by rw[h]at hx;injection hx with hx;omega⟩
   .rintro⟨h|h,_⟩
    .simp at h
    .exact h
  |cons y l ih=>
   intro o m;rw[Atm,ih]
   have e:∀ x,Uo o y=Θ x ↔ (x=y/\∀ z,o=Θ z->z<=y)\/(o=Θ x/\y<=x):=λx=>by
    unfold Uo
    cases o with
    |none=>simp[eq_comm]
    |some z=>
     simp only[ξ];split
     .simp only[ξ]
      constructor
      .intro h
       exact .inl ⟨h.symm,λw hw=>by omega⟩
      .rintro (⟨h,_⟩|⟨h,h2⟩)<;>omega
     .simp only[ξ]
      constructor
      .intro h
       exact .inr ⟨h,by omega⟩
      .rintro (⟨h,h2⟩|⟨h,_⟩)
       .have:=h2 z rfl
        omega
       .exact h
   constructor
   .rintro⟨h1,h2,h3⟩
    refine⟨?_,?_,?_⟩
    .rcases h1 with h|h
     .exact .inl (γ _ h)
     .rcases (e m).1 h with⟨h,_⟩|⟨h,_⟩
      .rw[h];exact .inl (υ ..)
      .exact .inr h
    .intro x hx
     rcases ArR.1 hx with rfl|hx
     .cases o with
      |none=>exact h3 x rfl
      |some z=>
       have:=h3 _ (Aj1 z x);split at this<;>omega
     .exact h2 x hx
    .intro x hx
     subst hx;have:=h3 _ (Aj1 x y);split at this<;>omega
   .rintro⟨h1,h2,h3⟩
    have hy:=h2 y (υ ..);refine⟨?_,λx hx=>h2 x (γ _ hx),λx hx=>?_⟩
    .rcases h1 with h|h
     .rcases ArR.1 h with rfl|h
      .exact .inr ((e m).2 (.inl ⟨rfl,h3⟩))
      .exact .inl h
     .exact .inr ((e m).2 (.inr ⟨h,hy⟩))
    .rcases (e x).1 hx with⟨rfl,_⟩|⟨h,_⟩
     .exact hy
     .exact h3 x h
 intro l m;unfold MU;rw[key];simp
theorem Kz(l:List Int):Un l=(MU (l.map (- ·))).map (- ·):=by
 have key:∀(l:List Int) (o:Option Int),l.foldl mnO o=((l.map (- ·)).foldl Uo (o.map (- ·))).map (- ·):=by
  intro l
  induction l with
  |nil=>intro o;cases o<;>simp
  |cons y l ih=>
   intro o;rw[Atm,ih,Ar7,Atm]
   congr 2
   cases o with
   |none=>rfl
   |some z=>
    unfold mnO Uo;simp only[Option.map_some]
    by_cases h:y<z
    .rw[if_pos h,if_pos (by omega)];rfl
    .rw[if_neg h,if_neg (by omega)];rfl
 exact key l Ξ
theorem Zx{l:List Int}{m:Int}:Un l=Θ m ↔ m∈l/\∀ x∈l,m<=x:=by
 rw[Kz,Option.map_eq_some_iff];constructor
 .rintro⟨a,ha,rfl⟩
  obtain⟨h1,h2⟩:=Er.1 ha;obtain⟨b,hb,rfl⟩:=Asj.1 h1;refine⟨by simpa using hb,λx hx=>?_⟩;have:-x ≤ -b:=h2 (-x) (Asj.2 ⟨x,hx,rfl⟩)
  show - -b<=x
  omega
 .rintro⟨h1,h2⟩
  refine⟨-m,Er.2 ⟨Asj.2 ⟨m,h1,rfl⟩,λx hx=>?_⟩,by simp⟩;obtain⟨b,hb,rfl⟩:=Asj.1 hx;have:=h2 b hb
  show -b ≤ -m
  omega
theorem Uj{a b:List Int}(h:∀ x,x∈a ↔ x∈b):MU a=MU b:=by
 cases e:MU a with
 |some m=>
  obtain⟨h1,h2⟩:=Er.1 e;exact(Er.2 ⟨(h m).1 h1,λx hx=>h2 x ((h x).2 hx)⟩).symm
 |none=>
  cases e2:MU b with
  |none=>rfl
  |some m=>
   obtain⟨h1,h2⟩:=Er.1 e2;rw[Er.2 ⟨(h m).2 h1,λx hx=>h2 x ((h x).1 hx)⟩]at e
   cases e
theorem AcR{a b:List Int}(h:∀ x,x∈a ↔ x∈b):Un a=Un b:=by
 rw[Kz,Kz,Uj λx=>?_];rw[Asj,Asj];constructor
 .rintro⟨y,hy,rfl⟩;exact⟨y,(h y).1 hy,rfl⟩
 .rintro⟨y,hy,rfl⟩;exact⟨y,(h y).2 hy,rfl⟩
theorem Ng{S T:List RL}(h:∀ x,x∈S ↔ x∈T)(p:List (Int × Int)):Nf S p=Nf T p:=Uj λx=>by
 rw[Ath,Ath];constructor
 .rintro⟨y,hy,e⟩;exact⟨y,(h y).1 hy,e⟩
 .rintro⟨y,hy,e⟩;exact⟨y,(h y).2 hy,e⟩
theorem M9{S T:List RL}(h:∀ x,x∈S ↔ x∈T)(p:List (Int × Int)):MS S p=MS T p:=AcR λx=>by
 rw[Ath,Ath];constructor
 .rintro⟨y,hy,e⟩;exact⟨y,(h y).1 hy,e⟩
 .rintro⟨y,hy,e⟩;exact⟨y,(h y).2 hy,e⟩
structure LnOk (T:List RL) (x:Ln):Prop where
 lo:x.lo=Nf T x.ps
 hi:x.hi=MS T x.ps
 key:Hp T x.ps
structure LsOk (T:List RL) (ls:List Ln):Prop where
 ok:∀ x∈ls,LnOk T x
 nodup:(ls.map Ln.ps).Nodup
 all:∀ p,Hp T p->p∈ls.map Ln.ps
theorem S1(p:List (Int × Int))(f:Ln->Ln)(hf:∀ x,(f x).ps=x.ps):∀ ls:List Ln,(Hm p f ls).map Ln.ps=if p∈ls.map Ln.ps then ls.map Ln.ps else ls.map Ln.ps++[p]
 |[]=>by simp[Hm,hf]
 |x::r=>by
  unfold Hm
  by_cases h:x.ps=p
  .rw[if_pos h,Ar7,hf,Ar7,if_pos (by rw[h];exact υ ..)]
  .rw[if_neg h,Ar7,S1 p f hf r,Ar7]
   by_cases h2:p∈r.map Ln.ps
   .rw[if_pos h2,if_pos (γ _ h2)]
   .rw[if_neg h2,if_neg (λh3=>(ArR.1 h3).elim (λh4=>h h4.symm) h2)]
    rfl
theorem U7(p:List (Int × Int))(f:Ln->Ln):∀(ls:List Ln),(ls.map Ln.ps).Nodup->∀ y,y∈Hm p f ls->(y∈ls/\y.ps≠p)\/(∃ x∈ls,x.ps=p/\y=f x)\/(p∉ls.map Ln.ps/\y=f ⟨p,Ξ,Ξ⟩)
 |[],_,y,hy=>by
  simp[Hm]at hy;exact .inr (.inr ⟨by simp,hy⟩)
 |x::r,hn,y,hy=>by
  rw[Ar7,AtD]at hn;unfold Hm at hy
  by_cases h:x.ps=p
  .rw[if_pos h]at hy
   rcases ArR.1 hy with rfl|hy
   .exact .inr (.inl ⟨x,υ ..,h,rfl⟩)
   .refine .inl ⟨γ _ hy,λh2=>hn.1 ?_⟩
    rw[h,←h2];exact Asj.2 ⟨y,hy,rfl⟩
  .rw[if_neg h]at hy
   rcases ArR.1 hy with rfl|hy
   .exact .inl ⟨υ ..,h⟩
   .rcases U7 p f r hn.2 y hy with⟨h1,h2⟩|⟨z,h1,h2,h3⟩|⟨h1,h2⟩
    .exact .inl ⟨γ _ h1,h2⟩
    .exact .inr (.inl ⟨z,γ _ h1,h2,h3⟩)
    .refine .inr (.inr ⟨λh3=>?_,h2⟩)
     rw[Ar7]at h3;rcases ArR.1 h3 with h4|h4
     .exact h h4.symm
     .exact h1 h4
theorem OS{p:List (Int × Int)}(h:0<Jw p):negP p≠p:=λe=>by
 have:=FH p;rw[e]at this;omega
theorem OM(T:List RL)(r:RL)(p:List (Int × Int)):Nf (T++[r]) p=match MT p r with
  |some n=>Uo (Nf T p) n
  |none=>Nf T p:=by
 unfold Nf;rw[Au8]
 cases h:MT p r with
 |none=>simp[h]
 |some n=>simp only[Avg,h,Avj];exact Zt _ _
theorem Ok(T:List RL)(r:RL)(p:List (Int × Int)):MS (T++[r]) p=match Hc p r with
  |some n=>mnO (MS T p) n
  |none=>MS T p:=by
 unfold MS;rw[Au8]
 cases h:Hc p r with
 |none=>simp[h]
 |some n=>simp only[Avg,h,Avj];exact Zw _ _
theorem AlH{T:List RL}{p:List (Int × Int)}(hp:0<Jw p)(h:¬ Hp T p):Nf T p=Ξ/\MS T p=Ξ:=by
 have h1:T.filterMap (MT p)=[]:=by
  rw[AtY];intro r hr;unfold MT;rw[if_neg λe=>h ⟨hp,r,hr,.inl e⟩]
 have h2:T.filterMap (Hc p)=[]:=by
  rw[AtY];intro r hr;unfold Hc;rw[if_neg λe=>h ⟨hp,r,hr,.inl e⟩,if_neg λe=>h ⟨hp,r,hr,.inr e⟩]
 unfold Nf MS;rw[h1,h2];exact⟨rfl,rfl⟩
theorem Ahk{T:List RL}{ls:List Ln}{r:RL}(hr:Jw r.1.ps≠0)(he:r.2=Δ->0<Jw r.1.ps)(h:LsOk T ls):LsOk (T++[r]) (EQ ls r):=by
 obtain⟨p,f,hp,hf,hkp,hlo,hhi,hoth,hu⟩:∃(p:List (Int × Int)) (f:Ln->Ln),0<Jw p/\(∀ x,(f x).ps=x.ps)/\(r.1.ps=p\/r.1.ps=negP p)/\(∀ x:Ln,(f x).lo=match MT p r with|some n=>Uo x.lo n|none=>x.lo)/\(∀ x:Ln,(f x).hi=match Hc p r with|some n=>mnO x.hi n|none=>x.hi)/\(∀ q,0<Jw q->q≠p->r.1.ps≠q/\r.1.ps≠negP q)/\EQ ls r=Hm p f ls:=by
  by_cases h0:0<Jw r.1.ps
  .refine⟨r.1.ps,λx=>if r.2=Δ then FI (-r.1.k) (IX (-r.1.k) x) else IX (-r.1.k) x,h0,λx=>?_,.inl rfl,λx=>?_,λx=>?_,λq hq hne=>⟨λe=>hne e.symm,λe=>?_⟩,if_pos h0⟩
   .simp only
    split<;>rfl
   .unfold MT
    rw[if_pos rfl];simp only;split<;>rfl
   .unfold Hc
    rw[if_pos rfl];simp only
    by_cases h2:r.2=Δ
    .rw[if_pos h2,if_pos h2];rfl
    .rw[if_neg h2,if_neg h2];rfl
   .have:=FH q
    rw[←e]at this;omega
  .refine⟨negP r.1.ps,FI r.1.k,by rw[FH];omega,λx=>rfl,.inr (Fk _).symm,λx=>?_,λx=>?_,λq hq hne=>⟨λe=>h0 (by rw[e];exact hq),λe=>hne (by rw[e,Fk])⟩,if_neg h0⟩
   .have:r.1.ps≠negP r.1.ps:=λe=>by
     have:=FH r.1.ps;rw[←e]at this;omega
    unfold MT;rw[if_neg this];rfl
   .have:r.1.ps≠negP r.1.ps:=λe=>by
     have:=FH r.1.ps;rw[←e]at this;omega
    unfold Hc;rw[if_neg this,Fk,if_pos rfl];rfl
 have hkey:∀ q,Hp (T++[r]) q ↔ Hp T q\/q=p:=λq=>by
  constructor
  .rintro⟨h1,s,hs,h2⟩
   rcases AsC.1 hs with hs|hs
   .exact .inl ⟨h1,s,hs,h2⟩
   .rw[Asq]at hs
    subst hs;refine .inr ?_;rcases Classical.em (q=p) with e|e
    .exact e
    .obtain⟨a,b⟩:=hoth q h1 e
     rcases h2 with h2|h2
     .exact absurd h2 a
     .exact absurd h2 b
  .rintro (⟨h1,s,hs,h2⟩|rfl)
   .exact⟨h1,s,AuB _ hs,h2⟩
   .exact⟨hp,r,Auy _ (Asq.2 rfl),hkp⟩
 rw[hu];refine⟨λy hy=>?_,?_,λq hq=>?_⟩
 .rcases U7 p f ls h.nodup y hy with⟨h1,h2⟩|⟨x,h1,h2,rfl⟩|⟨h1,rfl⟩
  .have ok:=h.ok y h1
   obtain⟨a,b⟩:=hoth y.ps ok.key.1 h2;refine⟨?_,?_,(hkey _).2 (.inl ok.key)⟩
   .rw[OM]
    unfold MT;rw[if_neg a];exact ok.lo
   .rw[Ok]
    unfold Hc;rw[if_neg a,if_neg b];exact ok.hi
  .have ok:=h.ok x h1
   refine⟨?_,?_,(hkey _).2 (.inr (by rw[hf,h2]))⟩
   .rw[hlo,hf,h2,OM,ok.lo,h2]
   .rw[hhi,hf,h2,Ok,ok.hi,h2]
  .have hnk:¬ Hp T p:=λhk=>h1 (h.all p hk)
   obtain⟨n1,n2⟩:=AlH hp hnk;refine⟨?_,?_,(hkey _).2 (.inr (by rw[hf]))⟩
   .rw[hlo,hf,OM,n1]
   .rw[hhi,hf,Ok,n2]
 .rw[S1 p f hf]
  split
  .exact h.nodup
  .rename_i hn
   rw[Aum];refine⟨h.nodup,AtD.2 ⟨by simp,AuF⟩,λa ha b hb e=>?_⟩;rw[Asq]at hb;subst hb;subst e;exact hn ha
 .rw[S1 p f hf]
  rcases (hkey q).1 hq with h1|rfl
  .split
   .exact h.all q h1
   .exact AuB _ (h.all q h1)
  .split
   .assumption
   .exact Auy _ (Asq.2 rfl)
theorem Uf:∀(S T:List RL) (ls:List Ln),LsOk T ls->(∀ r∈S,TgR r)->LsOk (T++S) (S.foldl EQ ls)
 |[],T,ls,h,_=>by rw[AsX];exact h
 |r::S,T,ls,h,hS=>by
  have hr:=hS r (υ ..);have:=Uf S (T++[r]) (EQ ls r) (Ahk hr.hd hr.eq h) λx hx=>hS x (γ _ hx)
  rw[List.append_assoc]at this;exact this
theorem LF{T:List RL}(h:∀ r∈T,TgR r):LsOk T (Ak7 T):=by
 have:=Uf T [] [] ⟨by simp,by simp,λp hp=>by obtain⟨_,r,hr,_⟩:=hp;cases hr⟩ h;rw[Asg]at this;exact this
def Nx(p:List (Int × Int))(lo hi:Option Int)(r:RL):Prop:=
 (∃ a,lo=Θ a/\hi=Θ a/\r=(⟨p,-a⟩,Δ))\/(lo≠hi/\((∃ a,lo=Θ a/\r=(⟨p,-a⟩,Φ))\/∃ b,hi=Θ b/\r=(⟨negP p,b⟩,Φ)))
def Rh(T:List RL)(r:RL):Prop:=∃ p,Hp T p/\Nx p (Nf T p) (MS T p) r
def AaP(T:List RL):Prop:=∀ p,Hp T p->∀ a b,Nf T p=Θ a->MS T p=Θ b->a<=b
def FW(T:List RL):Option (List RL)->Prop
 |none=>¬ AaP T
 |some l=>AaP T/\PI l/\∀ r,r∈l ↔ Rh T r
theorem Aan{T:List RL}:∀{o o':Option (List RL)},FW T o->FW T o'->o=o'
 |none,Ξ,_,_=>rfl
 |none,Θ _,h,h'=>absurd h'.1 h
 |some _,Ξ,h,h'=>absurd h.1 h'
 |some a,Θ b,h,h'=>congrArg Θ (Td h.2.1 h'.2.1 λr=>by rw[h.2.2,h'.2.2])
theorem Kj{S T:List RL}(h:∀ x,x∈S ↔ x∈T)(p:List (Int × Int)):Hp S p ↔ Hp T p:=
 ⟨λ⟨a,r,b,c⟩=>⟨a,r,(h r).1 b,c⟩,λ⟨a,r,b,c⟩=>⟨a,r,(h r).2 b,c⟩⟩
theorem TA{S T:List RL}(h:∀ x,x∈S ↔ x∈T):AaP S ↔ AaP T:=by
 unfold AaP;constructor
 .intro g p hp a b ha hb
  exact g p ((Kj h p).2 hp) a b (by rw[Ng h];exact ha) (by rw[M9 h];exact hb)
 .intro g p hp a b ha hb
  exact g p ((Kj h p).1 hp) a b (by rw[←Ng h];exact ha) (by rw[←M9 h];exact hb)
theorem Uy{S T:List RL}(h:∀ x,x∈S ↔ x∈T)(r:RL):Rh S r ↔ Rh T r:=by
 unfold Rh;constructor
 .rintro⟨p,hp,g⟩
  rw[Ng h,M9 h]at g;exact⟨p,(Kj h p).1 hp,g⟩
 .rintro⟨p,hp,g⟩
  rw[←Ng h,←M9 h]at g;exact⟨p,(Kj h p).2 hp,g⟩
theorem Ad7{S T:List RL}(h:∀ x,x∈S ↔ x∈T):∀{o:Option (List RL)},FW S o->FW T o
 |none,g=>λf=>g ((TA h).2 f)
 |some _,g=>⟨(TA h).1 g.1,g.2.1,λr=>by rw[g.2.2,Uy h]⟩
def FP(x:Ln):Option (List RL):=match x.lo,x.hi with
 |some a,Θ b=>if b<a then Ξ else if a=b then Θ [(⟨x.ps,-a⟩,Δ)] else Θ [(⟨x.ps,-a⟩,Φ),(⟨negP x.ps,b⟩,Φ)]
 |some a,Ξ=>Θ [(⟨x.ps,-a⟩,Φ)]
 |none,Θ b=>Θ [(⟨negP x.ps,b⟩,Φ)]
 |none,Ξ=>Θ []
def Hh:List Ln->Option (List RL)
 |[]=>Θ []
 |x::r=>match FP x with
  |none=>Ξ
  |some l=>match Hh r with
   |none=>Ξ
   |some m=>Θ (l++m)
theorem O9{x:Ln}{l:List RL}(h:FP x=Θ l):(∀ r,r∈l ↔ Nx x.ps x.lo x.hi r)/\(∀ a b,x.lo=Θ a->x.hi=Θ b->a<=b):=by
 obtain⟨ps,lo,hi⟩:=x;unfold FP at h;unfold Nx
 cases lo with
 |none=>
  cases hi with
  |none=>
   simp only[ξ]at h;subst h;simp
  |some b=>
   simp only[ξ]at h;subst h;refine⟨λr=>?_,by simp⟩;simp only[Asq];constructor
   .intro h;exact .inr ⟨by simp,.inr ⟨b,rfl,h⟩⟩
   .rintro (⟨a,ha,_⟩|⟨_,⟨a,ha,_⟩|⟨c,hc,h⟩⟩)
    .cases ha
    .cases ha
    .injection hc with hc;subst hc;exact h
 |some a=>
  cases hi with
  |none=>
   simp only[ξ]at h;subst h;refine⟨λr=>?_,by simp⟩;simp only[Asq];constructor
   .intro h;exact .inr ⟨by simp,.inl ⟨a,rfl,h⟩⟩
   .rintro (⟨c,_,hc,_⟩|⟨_,⟨c,hc,h⟩|⟨c,hc,_⟩⟩)
    .cases hc
    .injection hc with hc;subst hc;exact h
    .cases hc
  |some b=>
   simp only at h
   by_cases h1:b<a
   .rw[if_pos h1]at h;cases h
   rw[if_neg h1]at h;refine⟨λr=>?_,λc d hc hd=>by injection hc with hc;injection hd with hd;omega⟩
   by_cases h2:a=b
   .rw[if_pos h2]at h
    injection h with h
    subst h;subst h2;simp only[Asq];constructor
    .intro h;exact .inl ⟨a,rfl,rfl,h⟩
    .rintro (⟨c,hc,_,h⟩|⟨hne,_⟩)
     .injection hc with hc;subst hc;exact h
     .exact absurd rfl hne
   .rw[if_neg h2]at h
    injection h with h
    subst h;simp only[ArR,List.not_mem_nil,or_false];constructor
    .rintro (h|h)
     .exact .inr ⟨λe=>h2 (by injection e),.inl ⟨a,rfl,h⟩⟩
     .exact .inr ⟨λe=>h2 (by injection e),.inr ⟨b,rfl,h⟩⟩
    .rintro (⟨c,hc,hd,_⟩|⟨_,⟨c,hc,h⟩|⟨c,hc,h⟩⟩)
     .injection hc with hc;injection hd with hd;omega
     .injection hc with hc;subst hc;exact .inl h
     .injection hc with hc;subst hc;exact .inr h
theorem WA{x:Ln}(h:FP x=Ξ):∃ a b,x.lo=Θ a/\x.hi=Θ b/\b<a:=by
 obtain⟨ps,lo,hi⟩:=x;unfold FP at h
 cases lo with
 |none=>cases hi<;>cases h
 |some a=>
  cases hi with
  |none=>cases h
  |some b=>
   simp only at h
   by_cases h1:b<a
   .exact⟨a,b,rfl,rfl,h1⟩
   .rw[if_neg h1]at h
    split at h<;>cases h
def Gi(r:RL):List (Int × Int):=if 0<Jw r.1.ps then r.1.ps else negP r.1.ps
theorem LL{p:List (Int × Int)}{lo hi:Option Int}{r:RL}(hp:0<Jw p)(h:Nx p lo hi r):Gi r=p:=by
 unfold Gi;rcases h with⟨a,_,_,rfl⟩|⟨_,⟨a,_,rfl⟩|⟨b,_,rfl⟩⟩
 .exact if_pos hp
 .exact if_pos hp
 .rw[if_neg (by rw[FH];omega),Fk]
theorem UF{x:Ln}(hp:0<Jw x.ps){l:List RL}(h:FP x=Θ l):l.Nodup:=by
 obtain⟨ps,lo,hi⟩:=x;unfold FP at h;have one:∀ r:RL,[r].Nodup:=λr=>AtD.2 ⟨by simp,AuF⟩
 cases lo with
 |none=>
  cases hi with
  |none=>injection h with h;subst h;exact AuF
  |some b=>injection h with h;subst h;exact one _
 |some a=>
  cases hi with
  |none=>injection h with h;subst h;exact one _
  |some b=>
   simp only at h;split at h
   .cases h
   split at h
   .injection h with h;subst h;exact one _
   .injection h with h
    subst h;refine AtD.2 ⟨λhm=>?_,one _⟩;rw[Asq]at hm;have:=congrArg (λr:RL=>r.1.ps) hm;exact OS hp this.symm
theorem Iy:∀{ls:List Ln} {l:List RL},Hh ls=Θ l->(∀ r,r∈l ↔ ∃ x∈ls,Nx x.ps x.lo x.hi r)/\(∀ x∈ls,∀ a b,x.lo=Θ a->x.hi=Θ b->a<=b)
 |[],l,h=>by
  injection h with h
  subst h;simp
 |x::r,l,h=>by
  unfold Hh at h
  cases e1:FP x with
  |none=>rw[e1]at h;cases h
  |some u=>
   rw[e1]at h;simp only at h
   cases e2:Hh r with
   |none=>rw[e2]at h;cases h
   |some m=>
    rw[e2]at h;injection h with h
    subst h;obtain⟨h1,h2⟩:=O9 e1;obtain⟨h3,h4⟩:=Iy e2;refine⟨λs=>?_,λy hy=>?_⟩
    .rw[AsC,h1,h3]
     simp only[ArR,exists_eq_or_imp]
    .rcases ArR.1 hy with rfl|hy
     .exact h2
     .exact h4 y hy
theorem P4:∀{ls:List Ln},Hh ls=Ξ->∃ x∈ls,∃ a b,x.lo=Θ a/\x.hi=Θ b/\b<a
 |x::r,h=>by
  unfold Hh at h
  cases e1:FP x with
  |none=>exact⟨x,υ ..,WA e1⟩
  |some u=>
   rw[e1]at h;simp only at h
   cases e2:Hh r with
   |none=>
    obtain⟨y,hy,g⟩:=P4 e2;exact⟨y,γ _ hy,g⟩
   |some m=>rw[e2]at h;cases h
theorem NA:∀{ls:List Ln} {l:List RL},(ls.map Ln.ps).Nodup->(∀ x∈ls,0<Jw x.ps)->Hh ls=Θ l->l.Nodup
 |[],l,_,_,h=>by injection h with h;subst h;exact AuF
 |x::r,l,hn,hp,h=>by
  have hall:=h;unfold Hh at h
  cases e1:FP x with
  |none=>rw[e1]at h;cases h
  |some u=>
   rw[e1]at h;simp only at h
   cases e2:Hh r with
   |none=>rw[e2]at h;cases h
   |some m=>
    rw[e2]at h;injection h with h
    subst h;rw[Ar7,AtD]at hn;refine Aum.2 ⟨UF (hp x (υ ..)) e1,NA hn.2 (λy hy=>hp y (γ _ hy)) e2,λa ha b hb e=>?_⟩;subst e;have k1:=LL (hp x (υ ..)) (((O9 e1).1 a).1 ha);obtain⟨y,hy,g⟩:=((Iy e2).1 a).1 hb;have k2:=LL (hp y (γ _ hy)) g;exact hn.1 (Asj.2 ⟨y,hy,by rw[←k2,k1]⟩)
theorem SX{T:List RL}{ls:List Ln}(h:LsOk T ls):(Hh ls=Ξ->FW T Ξ)/\∀ l,Hh ls=Θ l->l.Nodup/\∀ s:List RL,PI s->(∀ r,r∈s ↔ r∈l)->FW T (Θ s):=by
 refine⟨λe=>?_,λl e=>⟨NA h.nodup (λx hx=>(h.ok x hx).key.1) e,λs hs hm=>?_⟩⟩
 .obtain⟨x,hx,a,b,h1,h2,h3⟩:=P4 e
  have ok:=h.ok x hx;intro f;have:=f x.ps ok.key a b (by rw[←ok.lo,h1]) (by rw[←ok.hi,h2]);omega
 .obtain⟨h1,h2⟩:=Iy e
  refine⟨λp hp a b ha hb=>?_,hs,λr=>?_⟩
  .obtain⟨x,hx,rfl⟩:=Asj.1 (h.all p hp)
   have ok:=h.ok x hx;exact h2 x hx a b (by rw[ok.lo,ha]) (by rw[ok.hi,hb])
  .rw[hm,h1]
   constructor
   .rintro⟨x,hx,g⟩
    have ok:=h.ok x hx;rw[ok.lo,ok.hi]at g;exact⟨x.ps,ok.key,g⟩
   .rintro⟨p,hp,g⟩
    obtain⟨x,hx,rfl⟩:=Asj.1 (h.all p hp);have ok:=h.ok x hx;rw[←ok.lo,←ok.hi]at g;exact⟨x,hx,g⟩
theorem Km{T:List RL}{p:List (Int × Int)}{a:Int}:Nf T p=Θ a ↔ (∃ r∈T,r.1.ps=p/\-r.1.k=a)/\∀ r∈T,r.1.ps=p->-r.1.k<=a:=by
 unfold Nf;rw[Er,Ath];have e:∀(r:RL) (x:Int),MT p r=Θ x ↔ r.1.ps=p/\-r.1.k=x:=λr x=>by
  unfold MT
  by_cases h:r.1.ps=p
  .rw[if_pos h];simp[h]
  .rw[if_neg h];simp[h]
 constructor
 .rintro⟨⟨r,hr,h⟩,h2⟩
  exact⟨⟨r,hr,(e r a).1 h⟩,λs hs h3=>h2 _ (Ath.2 ⟨s,hs,(e s _).2 ⟨h3,rfl⟩⟩)⟩
 .rintro⟨⟨r,hr,h⟩,h2⟩
  refine⟨⟨r,hr,(e r a).2 h⟩,λx hx=>?_⟩;obtain⟨s,hs,h3⟩:=Ath.1 hx;obtain⟨h4,h5⟩:=(e s x).1 h3;rw[←h5];exact h2 s hs h4
def AtM(p:List (Int × Int))(r:RL)(b:Int):Prop:=(r.1.ps=p/\r.2=Δ/\-r.1.k=b)\/(r.1.ps≠p/\r.1.ps=negP p/\r.1.k=b)
theorem Ol{T:List RL}{p:List (Int × Int)}{b:Int}:MS T p=Θ b ↔ (∃ r∈T,AtM p r b)/\∀ r∈T,∀ c,AtM p r c->b<=c:=by
 unfold MS;rw[Zx,Ath];have e:∀(r:RL) (x:Int),Hc p r=Θ x ↔ AtM p r x:=λr x=>by
  unfold Hc AtM
  by_cases h:r.1.ps=p
  .rw[if_pos h]
   by_cases h2:r.2=Δ
   .rw[if_pos h2];simp[h,h2]
   .rw[if_neg h2];simp[h,h2]
  .rw[if_neg h]
   by_cases h2:r.1.ps=negP p
   .rw[if_pos h2]
    constructor
    .intro g;injection g with g;exact .inr ⟨h,h2,g⟩
    .rintro (⟨g,_⟩|⟨_,_,g⟩)
     .exact absurd g h
     .rw[g]
   .rw[if_neg h2];simp[h,h2]
 constructor
 .rintro⟨⟨r,hr,h⟩,h2⟩
  exact⟨⟨r,hr,(e r b).1 h⟩,λs hs c h3=>h2 _ (Ath.2 ⟨s,hs,(e s _).2 h3⟩)⟩
 .rintro⟨⟨r,hr,h⟩,h2⟩
  refine⟨⟨r,hr,(e r b).2 h⟩,λx hx=>?_⟩;obtain⟨s,hs,h3⟩:=Ath.1 hx;exact h2 s hs x ((e s x).1 h3)

theorem D1{l:List (Int × Int)}(h:Pln l):Pln (negP l):=by
 refine⟨AtX.2 h.asc,λp hp=>?_,λp hp=>?_⟩
 .obtain⟨q,hq,rfl⟩:=Asj.1 hp
  exact h.pos q hq
 .obtain⟨q,hq,rfl⟩:=Asj.1 hp
  have:=h.nz q hq
  show -q.2≠0
  omega
theorem IU{l:Lf}(h:Pln l.ps):l.scale (-1)=⟨negP l.ps,-l.k⟩:=by
 have e:l.ps.map (λp=>(p.1,p.2 * -1))=negP l.ps:=Atw λp _=>by rw[Au5,Avs]
 unfold Lf.scale Lf.pln
 show (⟨AG (l.ps.map λp=>(p.1,p.2 * -1)),l.k * -1⟩:Lf)=_
 rw[e,Cp (D1 h),Au5,Avs]
theorem Kb:∀(l:List (Int × Int)) (a:Nat),Ed a (negP l)=Ed a l
 |[],_=>rfl
 |p::r,a=>by
  have:=Kb r (AtL a p.2.natAbs)
  show Ed (AtL a (-p.2).natAbs) (negP r)=Ed (AtL a p.2.natAbs) r
  rw[Int.natAbs_neg,this]
theorem TI{g:Nat}(hg:0<g):∀(l:List (Int × Int)) (a:Nat),(∀ p∈l,(g:Int) ∣ p.2)->Ed a (l.map λq=>(q.1,qZ q.2 g))*g=Ed (a*g) l
 |[],_,_=>rfl
 |p::r,a,h=>by
  have ih:=TI hg r (AtL a (qZ p.2 g).natAbs) λq hq=>h q (γ _ hq)
  have e:=(So (h p (υ ..)) (by omega)).2
  show Ed (AtL a (qZ p.2 g).natAbs) (r.map λq=>(q.1,qZ q.2 g))*g=Ed (AtL (a*g) p.2.natAbs) r
  rw[ih,←Nat.gcd_mul_right]
  congr 2
  conv=>rhs;rw[←e]
  rw[Int.natAbs_mul,AtS]
theorem Ab0(l:Lf):hdS l.tm=Jw l.ps:=by
 obtain⟨ps,k⟩:=l
 cases ps with
 |nil=>rfl
 |cons p r=>exact Bf _
def Hl(l:Lf)(e:Bool):RL:=((C8 l.pln.tm e).1.1.lf,(C8 l.pln.tm e).1.2)
def GA(l:Lf)(e:Bool):Int:=(C8 l.pln.tm e).2
theorem N0(l:Lf):Dr l.pln.tm=Ed 0 (AG l.ps):=by
 unfold Dr;rw[Cd]
 show Ed 0 (AG (AG l.ps))=_
 rw[Cp (CW l.ps)]
def G3(l:Lf):Lf:=⟨(AG l.ps).map λq=>(q.1,qZ q.2 (Ed 0 (AG l.ps))),qZ l.k (Ed 0 (AG l.ps))⟩
theorem AhP{l:Lf}(h:Dr l.pln.tm≠0):Fx l.pln.tm=(G3 l).tm:=by
 unfold Fx;rw[if_neg h,N0,Cd];have:AG l.pln.ps=AG l.ps:=Cp (CW l.ps);rw[this];unfold G3 Lf.tm;rw[Atk]
 congr 2
 show qZ (zv (Av l.k)) _=qZ l.k _
 rw[Bf]
theorem AhO{l:Lf}(h:Dr l.pln.tm≠0)(hne:AG l.ps≠[]):Pln (G3 l).ps/\(G3 l).ps≠[]/\Ed 0 (G3 l).ps=1:=by
 have hp:=CW l.ps;have hd:=Abb l.pln.tm;rw[Cd,N0]at hd;rw[N0]at h;have hd:∀ q∈AG l.ps,(Ed 0 (AG l.ps):Int) ∣ q.2:=λq hq=>hd q (by
  show q∈AG (AG l.ps)
  rw[Cp hp];exact hq)
 unfold G3;refine⟨⟨AtX.2 hp.asc,λp hx=>?_,λp hx=>?_⟩,λe=>hne (AtF.1 e),?_⟩
 .obtain⟨q,hq,rfl⟩:=Asj.1 hx
  exact hp.pos q hq
 .obtain⟨q,hq,rfl⟩:=Asj.1 hx
  have e:=(So (hd q hq) (by omega)).2;intro h0;simp only at h0;rw[h0,Int.zero_mul]at e;exact hp.nz q hq e.symm
 .have e:=TI (g:=Ed 0 (AG l.ps)) (by omega) (AG l.ps) 0 hd
  rw[Nat.zero_mul]at e;generalize Ed 0 (AG l.ps)=g at *;generalize Ed 0 (List.map (λq=>(q.1,qZ q.2 g)) (AG l.ps))=x at *;have:x*g=1*g:=by rw[e,Nat.one_mul]
  exact Nat.eq_of_mul_eq_mul_right (by omega) this
theorem SV{l:Lf}{e:Bool}(h:GA l e=0):TgR (Hl l e)/\(C8 l.pln.tm e).1=((Hl l e).1.tm,(Hl l e).2):=by
 unfold GA at h;have hne:AG l.ps≠[]:=λh0=>by
  have:l.pln.tm.ps=[]:=by
   show (AG l.ps).map AJ=[]
   rw[h0];rfl
  unfold C8 at h;rw[if_pos this]at h;simp only at h;split at h<;>cases h
 have h0:l.pln.tm.ps≠[]:=λh0=>hne (AtF.1 h0)
 have hc:=Xe h0;obtain⟨g1,g2,g3⟩:=AhO hc hne;have es:=AhP hc;have eh:hdS (Fx l.pln.tm)=Jw (G3 l).ps:=by rw[es,Ab0]
 have esc:((Fx l.pln.tm).lf.scale (-1)).tm=Lf.tm ⟨negP (G3 l).ps,-(G3 l).k⟩:=by rw[es,Cd,IU g1]
 have key:C8 l.pln.tm e=if e=Δ then(if rZ (zv l.pln.tm.k) (Dr l.pln.tm)=0 then((if Jw (G3 l).ps<0 then Lf.tm ⟨negP (G3 l).ps,-(G3 l).k⟩ else(G3 l).tm,Δ),0) else(zrR,-1)) else(((G3 l).tm,Φ),0):=by
  unfold C8;rw[if_neg h0,eh,esc,es]
 unfold Hl;have nz:Jw (G3 l).ps≠0:=by
  cases el:(G3 l).ps with
  |nil=>exact absurd el g2
  |cons p r=>exact g1.nz p (by rw[el];exact υ ..)
 cases e with
 |false=>
  rw[key,if_neg (by decide)];simp only[Cd];exact⟨⟨g1,g2,g3,λh=>by cases h⟩,trivial⟩
 |true=>
  rw[key,if_pos rfl]at h ⊢
  by_cases hr:rZ (zv l.pln.tm.k) (Dr l.pln.tm)=0
  .rw[if_pos hr]
   by_cases hh:Jw (G3 l).ps<0
   .rw[if_pos hh]
    simp only[Cd];refine⟨⟨D1 g1,λe=>g2 (AtF.1 e),by rw[Kb];exact g3,λ_=>?_⟩,trivial⟩
    show 0<Jw (negP (G3 l).ps)
    rw[FH];omega
   .rw[if_neg hh]
    simp only[Cd];exact⟨⟨g1,g2,g3,λ_=>by show 0<Jw (G3 l).ps;omega⟩,trivial⟩
  .rw[if_neg hr]at h
   cases h
theorem TgR.plnE{r:RL}(h:TgR r):r.1.pln=r.1:=by
 unfold Lf.pln;rw[Cp h.pln]
theorem Pv{r:RL}(h:TgR r):C8 r.1.tm r.2=((r.1.tm,r.2),0):=by
 have hp:=Cp h.pln;have hc:Dr r.1.tm=1:=by
  unfold Dr;rw[Cd,hp,h.one]
 have h0:r.1.tm.ps≠[]:=λh0=>h.ne (AtF.1 h0)
 have q1:∀ x:Int,rZ x ((1:Nat):Int)=0/\qZ x ((1:Nat):Int)=x:=λx=>by
  have:=So (g:=1) (Int.one_dvd x) (by decide);rw[Avs]at this;exact this
 have es:Fx r.1.tm=r.1.tm:=by
  unfold Fx;rw[if_neg (by rw[hc];decide),hc,Cd,hp,(q1 _).2];unfold Lf.tm;rw[Bf]
  congr 1
  refine Atw λq _=>?_
  show AJ (q.1,qZ q.2 ((1:Nat):Int))=AJ q
  rw[(q1 _).2]
 unfold C8;rw[if_neg h0,es,hc,(q1 _).1,Ab0]
 cases e:r.2 with
 |false=>rw[if_neg (by decide)]
 |true=>rw[if_pos rfl,if_pos rfl,if_neg (by have:=h.eq e;omega)]
theorem YB{W:RL->RL->Prop}:∀{a T:List RL},a.Nodup->(∀ r∈a,∃ s∈T,W r s)->(∀ r∈a,∀ r'∈a,∀ s,W r s->W r' s->r=r')->a.length<=T.length
 |[],_,_,_,_=>Nat.zero_le _
 |r::a,T,hn,hw,hi=>by
  rw[AtD]at hn;obtain⟨s,hs,ws⟩:=hw r (υ ..);obtain⟨T1,T2,rfl⟩:=List.append_of_mem hs;have ih:=YB (W:=W) (a:=a) (T:=T1++T2) hn.2 (λr' hr'=>by
   obtain⟨s',hs',ws'⟩:=hw r' (γ _ hr');refine⟨s',?_,ws'⟩;rcases AsC.1 hs' with h|h
   .exact AuB _ h
   .rcases ArR.1 h with e|h
    .subst e
     have:=hi r (υ ..) r' (γ _ hr') _ ws ws';exact absurd (this▸hr') hn.1
    .exact Auy _ h) λx hx y hy=>hi x (γ _ hx) y (γ _ hy)
  rw[η]at ih;rw[η,ε,ε];omega
theorem Kk{r:RL}{p:List (Int × Int)}(hp:0<Jw p)(h:r.1.ps=p):Gi r=p:=by
 unfold Gi;rw[h,if_pos hp]
theorem XB{r:RL}{p:List (Int × Int)}(hp:0<Jw p)(h:r.1.ps=negP p):Gi r=p:=by
 unfold Gi;rw[h,if_neg (by rw[FH];omega),Fk]
theorem W6{r:RL}{p:List (Int × Int)}{b:Int}(hp:0<Jw p)(h:AtM p r b):Gi r=p:=by
 rcases h with⟨h,_⟩|⟨_,h,_⟩
 .exact Kk hp h
 .exact XB hp h
theorem Gn{T:List RL}{r:RL}(h:Rh T r):Hp T (Gi r)/\Nx (Gi r) (Nf T (Gi r)) (MS T (Gi r)) r:=by
 obtain⟨p,hp,h⟩:=h;rw[LL hp.1 h];exact⟨hp,h⟩
theorem X4{T a:List RL}(hn:a.Nodup)(h:∀ r∈a,Rh T r):a.length<=T.length:=by
 refine YB (W:=λr s=>Gi s=Gi r/\(r.2=Δ\/(r.1.ps=Gi r/\s.1.ps=Gi r/\s.1.k=r.1.k)\/(r.1.ps=negP (Gi r)/\AtM (Gi r) s r.1.k))) hn (λr hr=>?_) (λr hr r' hr' s w w'=>?_)
 .obtain⟨hk,g⟩:=Gn (h r hr)
  generalize Gi r=p at *;rcases g with⟨u,h1,_,rfl⟩|⟨_,⟨u,h1,rfl⟩|⟨v,h1,rfl⟩⟩
  .obtain⟨⟨s,hs,e1,e2⟩,_⟩:=Km.1 h1
   exact⟨s,hs,Kk hk.1 e1,.inl rfl⟩
  .obtain⟨⟨s,hs,e1,e2⟩,_⟩:=Km.1 h1
   exact⟨s,hs,Kk hk.1 e1,.inr (.inl ⟨rfl,e1,by simp only;omega⟩)⟩
  .obtain⟨⟨s,hs,e1⟩,_⟩:=Ol.1 h1
   exact⟨s,hs,W6 hk.1 e1,.inr (.inr ⟨rfl,e1⟩)⟩
 .obtain⟨hk,g⟩:=Gn (h r hr)
  obtain⟨hk',g'⟩:=Gn (h r' hr');obtain⟨w0,w⟩:=w;obtain⟨w0',w'⟩:=w';rw[←w0']at g' hk' w';rw[←w0]at g hk w;generalize Gi s=p at *;have np:=OS hk.1;have lh:∀{u v:Int},Nf T p≠MS T p->Nf T p=Θ u->MS T p=Θ v->(((⟨p,-u⟩,Φ):RL).2=Δ\/(p=p/\s.1.ps=p/\s.1.k=-u)\/(p=negP p/\AtM p s (-u)))->(((⟨negP p,v⟩,Φ):RL).2=Δ\/(negP p=p/\s.1.ps=p/\s.1.k=v)\/(negP p=negP p/\AtM p s v))->False:=λ{u v} h0 h1 h2 a b=>by
   rcases a with a|⟨_,a1,a2⟩|⟨a,_⟩
   .cases a
   .rcases b with b|⟨b,_⟩|⟨_,b⟩
    .cases b
    .exact np b
    .rcases b with⟨_,_,b⟩|⟨b,_⟩
     .exact h0 (by rw[h1,h2];congr 1;omega)
     .exact b a1
   .exact np a.symm
  rcases g with⟨u,h1,h2,rfl⟩|⟨h0,⟨u,h1,rfl⟩|⟨v,h1,rfl⟩⟩<;>rcases g' with⟨u',h1',h2',rfl⟩|⟨h0',⟨u',h1',rfl⟩|⟨v',h1',rfl⟩⟩
  .rw[h1]at h1';injection h1' with e;rw[e]
  .exact absurd (h1.trans h2.symm) h0'
  .exact absurd (h1.trans h2.symm) h0'
  .exact absurd (h1'.trans h2'.symm) h0
  .rw[h1]at h1';injection h1' with e;rw[e]
  .exact(lh h0 h1 h1' w w').elim
  .exact absurd (h1'.trans h2'.symm) h0
  .exact(lh h0 h1' h1 w' w).elim
  .rw[h1]at h1';injection h1' with e;rw[e]
theorem Ad6{T a:List RL}(h:FW T (Θ a)):a.length<=T.length:=
 X4 (h.2.1.imp λ{x y} hxy e=>by rw[e,ID]at hxy;omega) λr hr=>(h.2.2 r).1 hr
theorem QA{l:List Int}(h:MU l=Ξ):l=[]:=by
 have key:∀(l:List Int) (o:Option Int),l.foldl Uo o=Ξ->l=[]/\o=Ξ:=λl=>by
  induction l with
  |nil=>exact λo h=>⟨rfl,h⟩
  |cons y l ih=>
   intro o h;obtain⟨_,h2⟩:=ih _ h;unfold Uo at h2
   cases o with
   |none=>cases h2
   |some z=>simp only at h2;split at h2<;>cases h2
 exact(key _ _ h).1
theorem AcF{T:List RL}{p:List (Int × Int)}{r:RL}(hr:r∈T)(h:r.1.ps=p):∃ u,Nf T p=Θ u:=by
 cases e:Nf T p with
 |some u=>exact⟨u,rfl⟩
 |none=>
  have:=QA e;rw[AtY]at this;have:=this r hr;unfold MT at this;rw[if_pos h]at this
  cases this
theorem Ab1{T:List RL}{p:List (Int × Int)}{r:RL}(hp:0<Jw p)(hr:r∈T)(h:r.1.ps=negP p):∃ u,MS T p=Θ u:=by
 cases e:MS T p with
 |some u=>exact⟨u,rfl⟩
 |none=>
  unfold MS at e;rw[Kz,Option.map_eq_none_iff]at e;have:=AtF.1 (QA e);rw[AtY]at this;have:=this r hr;unfold Hc at this;rw[if_neg (by rw[h];exact OS hp),if_pos h]at this
  cases this
theorem Wv{T:List RL}(hT:∀ r∈T,TgR r){r:RL}(h:Rh T r):TgR r:=by
 obtain⟨p,⟨hp,s,hs,e⟩,h⟩:=h;have ts:=hT s hs;have k:Pln p/\p≠[]/\Ed 0 p=1:=by
  rcases e with rfl|e
  .exact⟨ts.pln,ts.ne,ts.one⟩
  .have e2:p=negP s.1.ps:=by rw[e,Fk]
   rw[e2];exact⟨D1 ts.pln,λe=>ts.ne (AtF.1 e),by rw[Kb];exact ts.one⟩
 rcases h with⟨a,_,_,rfl⟩|⟨_,⟨a,_,rfl⟩|⟨b,_,rfl⟩⟩
 .exact⟨k.1,k.2.1,k.2.2,λ_=>hp⟩
 .exact⟨k.1,k.2.1,k.2.2,λh=>by cases h⟩
 .exact⟨D1 k.1,λe=>k.2.1 (AtF.1 e),by rw[Kb];exact k.2.2,λh=>by cases h⟩
theorem Aam{T a:List RL}(h:FW T (Θ a)):FW a (Θ a):=by
 obtain⟨hf,ha,hm⟩:=h;have A:∀ p,0<Jw p->∀ r∈a,r.1.ps=p->Nf T p=Θ (-r.1.k):=λp hp r hr e=>by
  obtain⟨_,g⟩:=Gn ((hm r).1 hr);rw[Kk hp e]at g;rcases g with⟨u,h1,_,rfl⟩|⟨_,⟨u,h1,rfl⟩|⟨v,h1,rfl⟩⟩
  .rw[h1,Aug]
  .rw[h1,Aug]
  .exact absurd e (OS hp)
 have A':∀ p,0<Jw p->∀ r∈a,∀ b,AtM p r b->MS T p=Θ b:=λp hp r hr b e=>by
  obtain⟨_,g⟩:=Gn ((hm r).1 hr);rw[W6 hp e]at g;rcases g with⟨u,_,h1,rfl⟩|⟨_,⟨u,h1,rfl⟩|⟨v,h1,rfl⟩⟩
  .rcases e with⟨_,_,e⟩|⟨e,_⟩
   .rw[h1,←e,Aug]
   .exact absurd rfl e
  .rcases e with⟨_,e,_⟩|⟨e,_⟩
   .cases e
   .exact absurd rfl e
  .rcases e with⟨_,e,_⟩|⟨_,_,e⟩
   .cases e
   .rw[h1,←e]
 have B:∀ p,Hp T p->∀ u,Nf T p=Θ u->∃ r∈a,r.1.ps=p/\-r.1.k=u:=λp hp u hu=>by
  by_cases e:MS T p=Θ u
  .exact⟨_,(hm (⟨p,-u⟩,Δ)).2 ⟨p,hp,.inl ⟨u,hu,e,rfl⟩⟩,rfl,Aug _⟩
  .exact⟨_,(hm (⟨p,-u⟩,Φ)).2 ⟨p,hp,.inr ⟨λe2=>e (by rw[←e2,hu]),.inl ⟨u,hu,rfl⟩⟩⟩,rfl,Aug _⟩
 have B':∀ p,Hp T p->∀ v,MS T p=Θ v->∃ r∈a,AtM p r v:=λp hp v hv=>by
  by_cases e:Nf T p=Θ v
  .exact⟨_,(hm (⟨p,-v⟩,Δ)).2 ⟨p,hp,.inl ⟨v,e,hv,rfl⟩⟩,.inl ⟨rfl,rfl,Aug _⟩⟩
  .exact⟨_,(hm (⟨negP p,v⟩,Φ)).2 ⟨p,hp,.inr ⟨λe2=>e (by rw[e2,hv]),.inr ⟨v,hv,rfl⟩⟩⟩,.inr ⟨OS hp.1,rfl,rfl⟩⟩
 have hkey:∀ p,Hp a p ↔ Hp T p:=λp=>by
  constructor
  .rintro⟨hp,r,hr,e⟩
   have k:Gi r=p:=by
    rcases e with e|e
    .exact Kk hp e
    .exact XB hp e
   have:=(Gn ((hm r).1 hr)).1
   rwa [k]at this
  .intro hk
   obtain⟨hp,r,hr,e⟩:=id hk;rcases e with e|e
   .obtain⟨u,hu⟩:=AcF hr e
    obtain⟨s,hs,e,_⟩:=B p hk u hu;exact⟨hp,s,hs,.inl e⟩
   .obtain⟨u,hu⟩:=Ab1 hp hr e
    obtain⟨s,hs,e⟩:=B' p hk u hu;refine⟨hp,s,hs,?_⟩;rcases e with⟨e,_⟩|⟨_,e,_⟩
    .exact .inl e
    .exact .inr e
 have elo:∀ p,Hp T p->Nf a p=Nf T p:=λp hp=>by
  refine Av3 λx=>?_
  rw[Km];constructor
  .rintro⟨⟨r,hr,e,rfl⟩,_⟩
   exact A p hp.1 r hr e
  .intro h
   refine⟨B p hp x h,λr hr e=>?_⟩;have:=A p hp.1 r hr e;rw[h]at this;injection this with this
   omega
 have ehi:∀ p,Hp T p->MS a p=MS T p:=λp hp=>by
  refine Av3 λx=>?_
  rw[Ol];constructor
  .rintro⟨⟨r,hr,e⟩,_⟩
   exact A' p hp.1 r hr x e
  .intro h
   refine⟨B' p hp x h,λr hr c e=>?_⟩;have:=A' p hp.1 r hr c e;rw[h]at this;injection this with this
   omega
 refine⟨λp hp u v hu hv=>?_,ha,λr=>?_⟩
 .have hp:=(hkey p).1 hp
  rw[elo p hp]at hu;rw[ehi p hp]at hv;exact hf p hp u v hu hv
 .rw[hm]
  constructor
  .rintro⟨p,hp,h⟩
   exact⟨p,(hkey p).2 hp,by rw[elo p hp,ehi p hp];exact h⟩
  .rintro⟨p,hp,h⟩
   have hp:=(hkey p).1 hp;rw[elo p hp,ehi p hp]at h;exact⟨p,hp,h⟩
def C9:List RL->Option (List RL)
 |[]=>Θ []
 |r::s=>if GA r.1 r.2<0 then Ξ else match C9 s with
  |none=>Ξ
  |some t=>Θ (if GA r.1 r.2=0 then Hl r.1 r.2::t else t)
def C2(rs:List RL)(o:Option (List RL)):Prop:=match C9 rs with
 |none=>o=Ξ
 |some T=>FW T o
theorem Nr:∀{rs T:List RL},C9 rs=Θ T->∀ r∈T,TgR r
 |[],T,h,r,hr=>by injection h with h;subst h;cases hr
 |x::s,T,h,r,hr=>by
  unfold C9 at h;split at h
  .cases h
  .cases e:C9 s with
   |none=>rw[e]at h;cases h
   |some t=>
    rw[e]at h;injection h with h
    subst h;have ih:=Nr e;split at hr
    .rename_i h0
     rcases ArR.1 hr with rfl|hr
     .exact(SV h0).1
     .exact ih r hr
    .exact ih r hr
theorem Pw:∀{rs T:List RL},C9 rs=Θ T->T.length<=rs.length
 |[],T,h=>by injection h with h;subst h;exact κ _
 |x::s,T,h=>by
  unfold C9 at h;split at h
  .cases h
  .cases e:C9 s with
   |none=>rw[e]at h;cases h
   |some t=>
    rw[e]at h;injection h with h
    subst h;have ih:=Pw e;rw[ε];split
    .rw[ε];omega
    .omega
theorem JO{rs:List RL}{o o':Option (List RL)}(h:C2 rs o)(h':C2 rs o'):o=o':=by
 unfold C2 at h h'
 cases e:C9 rs with
 |none=>rw[e]at h h';rw[h,h']
 |some T=>rw[e]at h h';exact Aan h h'
theorem Q3:∀{T:List RL},(∀ r∈T,TgR r)->C9 T=Θ T
 |[],_=>rfl
 |r::T,h=>by
  have hr:=h r (υ ..);have e:=Pv hr;have k:GA r.1 r.2=0:=by unfold GA;rw[hr.plnE,e]
  have t:Hl r.1 r.2=r:=by unfold Hl;rw[hr.plnE,e];simp only[Cd]
  unfold C9;rw[Q3 λx hx=>h x (γ _ hx),k,t];rfl
theorem WT{rs:List RL}{a:List RL}(h:C2 rs (Θ a)):C2 a (Θ a):=by
 unfold C2 at h
 cases e:C9 rs with
 |none=>rw[e]at h;cases h
 |some T=>
  rw[e]at h;have hT:=Nr e;unfold C2;rw[Q3 λr hr=>Wv hT ((h.2.2 r).1 hr)];exact Aam h
theorem GB:∀{rs:List RL},(C9 rs=Ξ ↔ ∃ r∈rs,GA r.1 r.2<0)/\∀ T,C9 rs=Θ T->∀ x,x∈T ↔ ∃ r∈rs,GA r.1 r.2=0/\Hl r.1 r.2=x
 |[]=>⟨by simp[C9],λT h x=>by injection h with h;subst h;simp⟩
 |r::s=>by
  obtain⟨h1,h2⟩:=GB (rs:=s);unfold C9
  by_cases h0:GA r.1 r.2<0
  .rw[if_pos h0]
   exact⟨⟨λ_=>⟨r,υ ..,h0⟩,λ_=>rfl⟩,λT h=>nomatch h⟩
  .rw[if_neg h0]
   cases e:C9 s with
   |none=>
    obtain⟨x,hx,hl⟩:=h1.1 e;exact⟨⟨λ_=>⟨x,γ _ hx,hl⟩,λ_=>rfl⟩,λT h=>nomatch h⟩
   |some t=>
    refine⟨⟨λh=>(nomatch h),?_⟩,λT h x=>?_⟩
    .rintro⟨x,hx,hl⟩
     rcases ArR.1 hx with rfl|hx
     .exact absurd hl h0
     .rw[h1.2 ⟨x,hx,hl⟩]at e
      cases e
    .injection h with h
     subst h;have:=h2 t e x;simp only[ArR,exists_eq_or_imp];rw[←this];split
     .rename_i hz
      rw[ArR];constructor
      .rintro (rfl|h)
       .exact .inl ⟨hz,rfl⟩
       .exact .inr h
      .rintro (⟨_,rfl⟩|h)
       .exact .inl rfl
       .exact .inr h
     .rename_i hz
      exact⟨.inr,λh=>h.resolve_left λh=>hz h.1⟩
theorem Aak{rs qs:List RL}(h:∀ x,x∈rs ↔ x∈qs){o:Option (List RL)}(g:C2 rs o):C2 qs o:=by
 unfold C2 at g ⊢;obtain⟨a1,a2⟩:=GB (rs:=rs);obtain⟨b1,b2⟩:=GB (rs:=qs)
 cases e:C9 rs with
 |none=>
  rw[e]at g;obtain⟨r,hr,hl⟩:=a1.1 e;rw[b1.2 ⟨r,(h r).1 hr,hl⟩];exact g
 |some T=>
  rw[e]at g
  cases e2:C9 qs with
  |none=>
   obtain⟨r,hr,hl⟩:=b1.1 e2;rw[a1.2 ⟨r,(h r).2 hr,hl⟩]at e
   cases e
  |some U=>
   refine Ad7 (λx=>?_) g;rw[a2 T e,b2 U e2];constructor
   .rintro⟨r,hr,g⟩;exact⟨r,(h r).1 hr,g⟩
   .rintro⟨r,hr,g⟩;exact⟨r,(h r).2 hr,g⟩
def Ec(r:RL):List AV:=CP (r.1.tm,r.2)
theorem Ez(r:RL):(Ec r).length=4:=rfl
def EF(L:List RL)(x:RL):Int:=((L.filter λy=>decide (Fu y x<0)).length:Int)
theorem Xr{α:Type}{p q:α->Bool}:∀{l:List α},(∀ x∈l,p x=Δ->q x=Δ)->(l.filter p).length<=(l.filter q).length
 |[],_=>κ _
 |x::l,h=>by
  have ih:=Xr (l:=l) λy hy=>h y (γ _ hy)
  have hx:=h x (υ ..);rw[At4,At4]
  cases hp:p x with
  |false=>cases q x<;>simp<;>omega
  |true=>rw[hx hp];simpa using ih
theorem Xs{α:Type}{p q:α->Bool}:∀{l:List α},(∀ x∈l,p x=Δ->q x=Δ)->(∃ x∈l,p x=Φ/\q x=Δ)->(l.filter p).length<(l.filter q).length
 |[],_,h=>by obtain⟨x,hx,_⟩:=h;cases hx
 |x::l,h,he=>by
  have h':∀ y∈l,p y=Δ->q y=Δ:=λy hy=>h y (γ _ hy)
  have hx:=h x (υ ..);have le:=Xr h';rw[At4,At4];obtain⟨y,hy,g1,g2⟩:=he;rcases ArR.1 hy with rfl|hy
  .rw[g1,g2]
   simp;omega
  .have ih:=Xs h' ⟨y,hy,g1,g2⟩
   cases hp:p x with
   |false=>cases q x<;>simp<;>omega
   |true=>rw[hx hp];simpa using ih
theorem Wd{L:List RL}{x y:RL}(hx:x∈L)(h:Fu x y<0):EF L x<EF L y:=by
 unfold EF;have:=Xs (l:=L) (p:=λz=>decide (Fu z x<0)) (q:=λz=>decide (Fu z y<0)) (λz _ hz=>by
  rw[decide_eq_true_eq]at hz ⊢;exact Vz hz h) ⟨x,hx,by rw[decide_eq_false_iff_not,ID];omega,by rw[decide_eq_true_eq];exact h⟩
 omega
theorem Afe{L:List RL}{x y:RL}(hx:x∈L)(hy:y∈L):Fu x y<0 ↔ EF L x<EF L y:=by
 refine⟨Wd hx,λh=>?_⟩;rcases Auj (Fu x y) 0 with h1|h1|h1
 .exact h1
 .rw[Lh.1 h1]at h
  omega
 .have:=Wd hy (show Fu y x<0 by rw[NY];omega)
  omega
section
variable {D:Orc} (K:Knows Ie Yt D) (L:List RL) (hc:∀ x∈L,∀ y∈L,D.ask (.fn 25) [.agg (Ec x),.agg (Ec y)] []=Θ (iv (Fu x y),[]))
include K
def fnR:AV:=.fn (.func 25) [] []
include hc
theorem Ahz{x y:RL}(hx:x∈L)(hy:y∈L):∃ n:Int,D.ask (.fn 25) [.agg (Ec x),.agg (Ec y)] []=Θ (iv n,[])/\(n<0 ↔ EF L x<EF L y):=⟨_,hc x hx y hy,Afe hx hy⟩
theorem AhE(a i:Nat)(b:Int):∀(m j:Nat) (l:List RL),j-a=m->a<=j->j<=i->i<l.length->l.length<=12->(∀ x∈l,x∈L)->S9 (EF L) l a i j->
  ∃ r:List RL,D.ask (.lp 214 1) [.sl 0 0 l.length 4,iv (a:Int),iv b,fnR,iv (i:Int),iv (j:Int)] [δ (Ag Ec l) Δ Δ]
   = Θ (.tup [iv 2,.sl 0 0 l.length 4,iv (a:Int),iv b,fnR,iv (i:Int)],[.set (δ (Ag Ec r) Δ Δ)])
   ∧ r.length=l.length/\r.Perm l/\Srt (EF L) r a (i+1):=by
 intro m
 induction m with
 |zero=>
  intro j l hm ha hj hi hl hL hs;obtain rfl:j=a:=by omega
  refine⟨l,?_,rfl,List.Perm.refl _,KT (EF L) hj hs (.inl rfl)⟩;refine Ax K Fi (RI ..) ?_;exact Ak rfl
 |succ m ih=>
  intro j l hm ha hj hi hl hL hs;obtain⟨k,rfl⟩:∃ k,j=k+1:=⟨j-1,by omega⟩;have h1:k+1<l.length:=by omega
  have h0:k<l.length:=by omega
  have kf1:kf (EF L) l (k+1)=EF L l[k+1]:=EP (EF L) h1;have kf0:kf (EF L) l k=EF L l[k]:=EP (EF L) h0;obtain⟨n,gc,hn⟩:=Ahz K L hc (hL _ (Ast h1)) (hL _ (Ast h0));simp only[Ec,CP,eT,eN,AsK,Asg]at gc
  by_cases hlt:n<0
  .have hs2:S9 (EF L) (CT l (k+1) k) a i k:=QU (j:=k+1) (EF L) hi (by omega) hj hs (by rw[As2,kf1,kf0];exact hn.1 hlt)
   have hlen:=Gz l (k+1) k;obtain⟨r,g,hr,hp,ho⟩:=ih k (CT l (k+1) k) (by omega) (by omega) (by omega) (by omega) (by omega) (λx hx=>hL x ((Ew l (k+1) k).mem_iff.1 hx)) hs2;rw[hlen]at g hr;refine⟨r,?_,hr,hp.trans (Ew _ _ _),ho⟩;refine Ax K Fi (RI ..) ?_;refine Ap ?_;rw[KX (by omega),Au,AN h1];refine Ac ?_;refine(Bm Ez l (k+1) h1 _).trans ?_;simp only[Ec,CP,eT,eN,AsK,Asg,ND,DK,Aa];rw[Au,AN h0];refine Ac ?_;refine(Bm Ez l k h0 _).trans ?_;simp only[Ec,CP,eT,eN,AsK,Asg,ND,DK,Aa];refine Ab gc ?_;simp only[ND,DK,Aa];refine Ap ?_ hlt;rw[Au,AN h0];refine Ac ?_;refine(Bm Ez l k h0 _).trans ?_;simp only[Ec,CP,eT,eN,AsK,Asg,ND,DK,Aa];rw[Au,AN h1];refine Ac ?_;refine(Bm Ez l (k+1) h1 _).trans ?_;simp only[Ec,CP,eT,eN,AsK,Asg,ND,DK,Aa];rw[Au,AN h1];refine Ac ?_;have s1:=Cq Ez l (k+1) h1 l[k];have s2:=Cq Ez (l.set (k+1) l[k]) k (by rw[Asd];exact h0) l[k+1];rw[←DD h1 h0]at s2;simp only[Ec,CP,eT,eN,AsK,Asg]at s1 s2;rw[show Nat.ble (0+(k+1)*4+4) (Ag Ec l).length=Δ by rw[AR Ez];simp;omega];refine Ac ?_;rw[Au,AN h0];refine Ac ?_;rw[s1,s2];rw[show Nat.ble (0+k*4+4) (Ag Ec (l.set (k+1) l[k])).length=Δ by rw[AR Ez,Asd];simp;omega];refine Ac ?_;refine Ab g ?_;rfl
  .refine⟨l,?_,rfl,List.Perm.refl _,KT (EF L) hj hs (.inr ?_)⟩
   .skip
    refine Ax K Fi (RI ..) ?_;refine Ap ?_;rw[KX (by omega),Au,AN h1];refine Ac ?_;refine(Bm Ez l (k+1) h1 _).trans ?_;simp only[Ec,CP,eT,eN,AsK,Asg,ND,DK,Aa];rw[Au,AN h0];refine Ac ?_;refine(Bm Ez l k h0 _).trans ?_;simp only[Ec,CP,eT,eN,AsK,Asg,ND,DK,Aa];refine Ab gc ?_;simp only[ND,DK,Aa];exact Ak rfl hlt
   .rw[As2,kf1,kf0]
    have:=λh=>hlt (hn.2 h)
    omega
theorem Adu(b:Nat):∀(m i:Nat) (l:List RL),b-i=m->0<i->i<=b->b<=l.length->l.length<=12->(∀ x∈l,x∈L)->Srt (EF L) l 0 i->
  ∃ r:List RL,D.ask (.lp 214 0) [.sl 0 0 l.length 4,iv ((0:Nat):Int),iv (b:Int),fnR,iv (i:Int)] [δ (Ag Ec l) Δ Δ]
   = Θ (.tup [iv 0,.sl 0 0 l.length 4],[.set (δ (Ag Ec r) Δ Δ)])
   ∧ r.length=l.length/\r.Perm l/\Srt (EF L) r 0 b:=by
 intro m
 induction m with
 |zero=>
  intro i l hm ha hi hb hl hL hs;obtain rfl:i=b:=by omega
  refine⟨l,?_,rfl,List.Perm.refl _,hs⟩;refine Ax K Fi (RH ..) ?_;exact Ak rfl
 |succ m ih=>
  intro i l hm ha hi hb hl hL hs;obtain⟨r,g,hr,hp,ho⟩:=AhE K L hc 0 i (b:Int) _ i l rfl (by omega) (κ _) (by omega) hl hL (Pr (EF L) hs);obtain⟨r2,g2,hr2,hp2,ho2⟩:=ih (i+1) r (by omega) (by omega) (by omega) (by omega) (by omega) (λx hx=>hL x (hp.mem_iff.1 hx)) ho;rw[hr]at g2;refine⟨r2,?_,by omega,hp2.trans hp,ho2⟩;refine Ax K Fi (RH ..) ?_;refine Ap ?_;refine Ab g ?_;simp only[fnR,ND,DK,Aa];refine Ac ?_;rw[BV (by omega)];refine Ab g2 ?_;rfl
theorem AhF{l:List RL}(hl:l.length<=12)(hL:∀ x∈l,x∈L) :
  ∃ r:List RL,D.ask (.fn 214) [.sl 0 0 l.length 4,iv ((0:Nat):Int),iv (l.length:Int),fnR] [δ (Ag Ec l) Δ Δ]=Θ (.tup [],[.set (δ (Ag Ec r) Δ Δ)])
   ∧ r.Perm l/\Srt (EF L) r 0 r.length:=by
 by_cases h:0<l.length
 .obtain⟨r,g,hr,hp,ho⟩:=Adu K L hc l.length _ 1 l rfl (by omega) (by omega) (κ _) hl hL (Ym (EF L) l 0)
  refine⟨r,?_,hp,by rw[hr];exact ho⟩;refine AC K Fi (AiB ..) ?_;rw[BV (by omega)];refine Ab g ?_;rfl
 .have e0:l=[]:=List.length_eq_zero_iff.1 (by omega)
  subst e0;refine⟨[],?_,List.Perm.refl _,Yl (EF L) [] 0⟩;have g:D.ask (.lp 214 0) [.sl 0 0 0 4,iv ((0:Nat):Int),iv ((0:Nat):Int),fnR,iv ((0+1:Nat):Int)] [δ (Ag Ec []) Δ Δ]=Θ (.tup [iv 0,.sl 0 0 0 4],[.set (δ (Ag Ec []) Δ Δ)]):=by
   refine Ax K Fi (RH ..) ?_;exact Ak rfl
  refine AC K Fi (AiB ..) ?_;rw[BV (by omega)];refine Ab g ?_;rfl
end
section
variable {D:Orc} (K:Knows Ie Yt D)
include K
theorem AcC{n:Nat}(hn:n<=12):∃ k:Int,D.ask (.fn 164) [.v (.int .u64 (n:Int))] []=Θ (iv k,[]):=by
 obtain⟨k,hk⟩:∃ k:Int,D.ask (.fn 223) [.v (.int .u64 (n:Int))] []=Θ (iv k,[]):=by
  have:n=0\/n=1\/n=2\/n=3\/n=4\/n=5\/n=6\/n=7\/n=8\/n=9\/n=10\/n=11\/n=12:=by omega
  rcases this with rfl|rfl|rfl|rfl|rfl|rfl|rfl|rfl|rfl|rfl|rfl|rfl|rfl
  .exact⟨0,K.fn' Lr _ rfl ((Tv ..).trans (by kernel_rfl))⟩
  .exact⟨1,K.fn' Lr _ rfl ((Tv ..).trans (by kernel_rfl))⟩
  iterate 2 exact⟨2,K.fn' Lr _ rfl ((Tv ..).trans (by kernel_rfl))⟩
  iterate 4 exact⟨3,K.fn' Lr _ rfl ((Tv ..).trans (by kernel_rfl))⟩
  all_goals exact⟨4,K.fn' Lr _ rfl ((Tv ..).trans (by kernel_rfl))⟩
 exact⟨k,K.fn' Ab4 _ rfl ((AmS ..).trans ((CM hk _).trans rfl))⟩
theorem AdS{l:List RL}(hl:l.length<=12)(hn:l.Nodup)(hc:∀ x∈l,∀ y∈l,D.ask (.fn 25) [.agg (Ec x),.agg (Ec y)] []=Θ (iv (Fu x y),[])) :
  ∃ r:List RL,D.ask (.fn 90) [.sl 0 0 l.length 4,fnR] [δ (Ag Ec l) Δ Δ]=Θ (.tup [],[.set (δ (Ag Ec r) Δ Δ)])
   ∧ r.Perm l/\PI r:=by
 obtain⟨r,g,hp,hs⟩:=AhF K l hc hl λx hx=>hx
 obtain⟨k,hk⟩:=AcC K hl;have g1:D.ask (.lp 163 0) [.sl 0 0 l.length 4,iv ((0:Nat):Int),iv (l.length:Int),iv k,fnR,bv Δ,bv Δ] [δ (Ag Ec l) Δ Δ]=Θ (.tup [bv Δ,.sl 0 0 l.length 4],[.set (δ (Ag Ec r) Δ Δ)]):=by
  refine Ax K RS (AeW ..) ?_;rw[DB (by omega) (by omega)];refine Cg ?_;refine Ab g ?_;rfl
 refine⟨r,?_,hp,?_⟩
 .refine AC K Ajh (Aqe ..) ?_
  rw[Bg (by omega)];refine Ab hk ?_;simp only[ND,DK,Aa];refine Ab (K.fn' RS _ rfl ((AmR ..).trans ((CM g1 _).trans rfl))) ?_;rfl
 .have hnr:r.Nodup:=hp.nodup_iff.2 hn
  have hpw:=E0 (EF l) hs;unfold PI;refine(hpw.and hnr).imp_of_mem λ{x y} hx hy h=>?_
  have hx:=hp.mem_iff.1 hx;have hy:=hp.mem_iff.1 hy;rcases Auj (Fu x y) 0 with h1|h1|h1
  .exact h1
  .exact absurd (Lh.1 h1) h.2
  .have:=Wd (L:=l) hy (show Fu y x<0 by rw[NY];omega)
   omega
theorem Aac:D.ask (.fn 90) [.v (.slice Ξ 0 0),fnR] []=Θ (.tup [],[]):=by
 obtain⟨k,hk⟩:=AcC (n:=0) K (by omega);have g0:D.ask (.lp 214 0) [.v (.slice Ξ 0 0),iv 0,iv 0,fnR,iv 1] []=Θ (.tup [iv 0,.v (.slice Ξ 0 0)],[]):=
  K.lp' Nb _ rfl (by kernel_rfl) ((Abv ..).trans ((Ek (by omega)).trans rfl))
 have g:D.ask (.fn 214) [.v (.slice Ξ 0 0),iv 0,iv 0,fnR] []=Θ (.tup [],[]):=
  K.fn' Nb _ rfl ((AkJ ..).trans ((CM g0 _).trans rfl))
 have g1:D.ask (.lp 163 0) [.v (.slice Ξ 0 0),iv 0,iv 0,iv k,fnR,bv Δ,bv Δ] []=Θ (.tup [bv Δ,.v (.slice Ξ 0 0)],[]):=
  K.lp' Na _ rfl (by kernel_rfl) ((Abl ..).trans ((Rr (by decide)).trans ((CM g _).trans rfl)))
 refine AC K Acd (Anb ..) ?_;refine Ab hk ?_;simp only[ND,DK,Aa];refine Ab (K.fn' Na _ rfl ((AkI ..).trans ((CM g1 _).trans rfl))) ?_;rfl
end
section
variable {D:Orc} (Kt:Knows At FS D) (Kf:Knows At KZ D) (Ks:Knows At D9 D) (Z:ZF D) (C:PartF D)  (Kl:Knows At KY D)
include Kl
theorem Ahm(a b:Int):D.ask (.lp 82 0) [iv 0,.ls [[iv a],[iv b]],iv 2,iv 2] []=Θ (.tup [iv 0,iv 0],[]):=by
 refine Ax Kl Zh (AbG ..) ?_;exact Ak rfl
theorem Ahn(a b:Int):D.ask (.lp 82 0) [iv 0,.ls [[iv a],[iv b]],iv 2,iv 1] []=Θ (if b=0 then .tup [iv 0,iv 0] else .tup [bv Δ,iv b],[]):=by
 refine Ax Kl Zh (AbG ..) ?_;refine Ap ?_
 show br (Ae.eq b 0) _ _=_
 by_cases h:b=0
 .refine Bt ?_ h
  rw[if_pos h];refine Ab (Ahm Kl a b) ?_;rfl
 .rw[if_neg h]
  exact Ba rfl h
theorem Wt(a b:Int):D.ask (.fn 82) [.ls [[iv a],[iv b]]] []=Θ (iv (JD a b),[]):=by
 have g:D.ask (.lp 82 0) [iv 0,.ls [[iv a],[iv b]],iv 2,iv 0] []=Θ (if JD a b=0 then .tup [iv 0,iv 0] else .tup [bv Δ,iv (JD a b)],[]):=by
  refine Ax Kl Zh (AbG ..) ?_;refine Ap ?_
  show br (Ae.eq a 0) _ _=_
  unfold JD
  by_cases h:a=0
  .refine Bt ?_ h
   rw[if_pos h];refine Ab (Ahn Kl a b) ?_
   by_cases h2:b=0
   .rw[if_pos h2];rfl
   .rw[if_neg h2];rfl
  .rw[if_neg h,if_neg h]
   exact Ba rfl h
 refine AC Kl Zh (e82 ..) ?_;refine Ab g ?_
 by_cases h:JD a b=0
 .rw[if_pos h,h];rfl
 .rw[if_neg h];rfl
include Ks Z
theorem AeR{p q:Pt}(hp:Lz 1000000000 p.z)(hq:Lz 1000000000 q.z):D.ask (.fn 154) [.agg (eP p),.agg (eP q)] []=Θ (iv (JZ (pv p) (pv q)),[]):=by
 have g1:=Rz Ks p.v q.v;have g2:=Z.cmp p.z q.z hp hq;obtain⟨a,n,x⟩:=p;obtain⟨b,m,y⟩:=q;refine AC Kl Ai2 (ApG ..) ?_;refine Ab g1 ?_;simp only[ND,DK,Aa];refine Ab g2 ?_;simp only[ND,DK,Aa];refine Ab (Wt Kl _ _) ?_;rfl
theorem AeT{a b:List Pt}(la:a.length<=1000000)(lb:b.length<=1000000)(ha:∀ p∈a,Lz 1000000000 p.z)(hb:∀ p∈b,Lz 1000000000 p.z):∀(m i:Nat),a.length-i=m->i<=a.length->D.ask (.lp 156 0) [.ls (a.map eP),.ls (b.map eP),.fn (.func 154) [] [],.ls (a.map eP),iv (a.length:Int),iv (i:Int)] []=Θ (match Jn ((a.drop i).map pv) ((b.drop i).map pv) with|some n=>.tup [bv Δ,iv n] | none=>.tup [iv 0,.ls (a.map eP),.ls (b.map eP)],[]):=by
 intro m
 induction m with
 |zero=>
  intro i hm hi;rw[Ar6 (by omega)];refine Ax Kl TQ (Abk ..) ?_;exact Ak rfl
 |succ m ih=>
  intro i hm hi;have h1:i<a.length:=by omega
  have ih:=ih (i+1) (by omega) (by omega);rw[ο h1,Ar7];refine Ax Kl TQ (Abk ..) ?_;refine Ap ?_;rw[Au,AB (φ h1)];simp only[eP,eN,ND,DK,Aa];rw[Ao]
  by_cases h2:b.length<=i
  .refine Cg ?_
   rw[Ar6 h2];rfl
  .have h2:i<b.length:=by omega
   refine CA ?_;rw[Au,AB (φ h2)];simp only[eP,eN,ND,DK,Aa];have gc:=AeR Ks Z Kl (ha _ (Ast h1)) (hb _ (Ast h2));refine Ab gc ?_;simp only[ND,DK,Aa];rw[ο h2,Ar7,Jn]
   by_cases h3:JZ (pv a[i]) (pv b[i])=0
   .refine Bt ?_ h3
    rw[if_pos h3,BV (by omega)];refine Ab ih ?_
    cases Jn ((a.drop (i+1)).map pv) ((b.drop (i+1)).map pv)<;>rfl
   .rw[if_neg h3]
    exact Ba rfl h3
theorem Aa9{a b:List Pt}(la:a.length<=1000000)(lb:b.length<=1000000)(ha:∀ p∈a,Lz 1000000000 p.z)(hb:∀ p∈b,Lz 1000000000 p.z):D.ask (.fn 156) [.ls (a.map eP),.ls (b.map eP),.fn (.func 154) [] []] []=Θ (iv (JY (a.map pv) (b.map pv)),[]):=by
 refine AC Kl TQ (ApI ..) ?_;rw[Ao];refine Ab (AeT Ks Z Kl la lb ha hb _ 0 rfl (by omega)) ?_;rw[ArT,ArT];unfold JY
 cases Jn (a.map pv) (b.map pv) with
 |some n=>rfl
 |none=>
  simp only[ND,DK,Aa]
  show br (Ae.lt _ _) _ _=_
  rw[Ao,Ao];simp only[Ar2]
  by_cases h:a.length<b.length
  .refine Ap ?_
   rw[if_pos h]
  .refine Ak ?_
   rw[if_neg h]
include Kt C
theorem Xc{n k:Nat}{t u:Tm}(ht:TmB n k t)(hu:TmB n k u)(hn:n<=1000000)(hk:k+n<=900000000):D.ask (.fn 83) [.agg (eT t),.agg (eT u)] []=Θ (iv (RB t.lf.pln u.lf.pln),[]):=by
 have g1:=EK Kt Ks Z C ht hn hk;have g2:=EK Kt Ks Z C hu hn hk;have b1:=ht.lb.pln.tb;have b2:=hu.lb.pln.tb;have e1:(t.lf.pln.tm.ps).map pv=t.lf.pln.ps:=congrArg Lf.ps (Cd t.lf.pln);have e2:(u.lf.pln.tm.ps).map pv=u.lf.pln.ps:=congrArg Lf.ps (Cd u.lf.pln);have k1:zv t.lf.pln.tm.k=t.lf.pln.k:=congrArg Lf.k (Cd t.lf.pln);have k2:zv u.lf.pln.tm.k=u.lf.pln.k:=congrArg Lf.k (Cd u.lf.pln);have g3:=Aa9 Ks Z Kl (a:=t.lf.pln.tm.ps) (b:=u.lf.pln.tm.ps) (Asr b1.len hn) (Asr b2.len hn) (λp hp=>(b1.ps p hp).mono (by omega)) (λp hp=>(b2.ps p hp).mono (by omega));have g4:=Z.cmp t.lf.pln.tm.k u.lf.pln.tm.k (b1.k.mono (by omega)) (b2.k.mono (by omega));rw[e1,e2]at g3;rw[k1,k2]at g4;unfold RB;revert g1 g2 g3 g4;generalize t.lf.pln.tm=x;generalize u.lf.pln.tm=y;intro g1 g2 g3 g4;obtain⟨tp,tz⟩:=t;obtain⟨up,uz⟩:=u;obtain⟨xp,xn,xa⟩:=x;obtain⟨yp,yn,ya⟩:=y;refine AC Kl Anx (e83 ..) ?_;refine Ab g1 ?_;simp only[eT,eN,ND,DK,Aa];refine Ab g2 ?_;simp only[eT,eN,ND,DK,Aa];refine Ab g3 ?_;simp only[ND,DK,Aa];refine Ab g4 ?_;simp only[ND,DK,Aa];refine Ab (Wt Kl _ _) ?_;rfl
theorem ZL{n k:Nat}{t u:Tm}(ht:TmB n k t)(hu:TmB n k u)(hn:n<=1000000)(hk:k+n<=900000000)(e f:Bool):D.ask (.fn 25) [.agg (eT t++[bv e]),.agg (eT u++[bv f])] []=Θ (iv (Y1 t.lf.pln u.lf.pln e f),[]):=by
 have g1:=Xc Kt Ks Z C Kl ht hu hn hk;have gr:∀(t:Tm) (e:Bool),D.ask (.fn 85) [.agg (eT t++[bv e])] []=Θ (iv (UD e),[]):=by
  rintro⟨p,z⟩ e;refine AC Kl AnA (e85 ..) ?_
  cases e<;>rfl
 unfold Y1;revert g1;generalize RB t.lf.pln u.lf.pln=c;intro g1;have r1:=gr t e;have r2:=gr u f;obtain⟨tp,tz⟩:=t;obtain⟨up,uz⟩:=u;refine AC Kl Ank (e25 ..) ?_;refine Ab g1 ?_;simp only[ND,DK,Aa];refine Ab r1 ?_;simp only[ND,DK,Aa];refine Ab r2 ?_;simp only[ND,DK,Aa];refine Ab (Rz Ks _ _) ?_;simp only[ND,DK,Aa];refine Ab (Wt Kl _ _) ?_;rfl
end
def eO(o:Option Int):List AV:=eZ (Av (o.getD 0))
def Ef(x:Ln):List AV:=eT (Lf.tm ⟨x.ps,0⟩)++(eO x.lo++(eO x.hi++[bv x.lo.isSome,bv x.hi.isSome]))
def OB(k:Nat)(o:Option Int):Prop:=∀ n,o=Θ n->InB k n
structure LnB (n k:Nat) (x:Ln):Prop where
 pln:Pln x.ps
 lb:LB n k ⟨x.ps,0⟩
 lo:OB k x.lo
 hi:OB k x.hi
theorem Yo{ps:List (Int × Int)}(h:Pln ps)(k a:Int):(⟨ps,k⟩:Lf).sub (Lf.num a)=⟨ps,k-a⟩:=by
 have e:(Lf.num a).scale (-1)=⟨[],-a⟩:=IU (l:=Lf.num a) Sl;unfold Lf.sub;rw[e]
 show (⟨AG (ps++[]),k + -a⟩:Lf)=_
 rw[AsX,Cp h];rfl
theorem Ahl{ps:List (Int × Int)}(h:Pln ps)(k a:Int):(Lf.num a).sub ⟨ps,k⟩=⟨negP ps,a-k⟩:=by
 have e:(⟨ps,k⟩:Lf).scale (-1)=⟨negP ps,-k⟩:=IU (l:=⟨ps,k⟩) h;unfold Lf.sub;rw[e]
 show (⟨AG ([]++negP ps),a + -k⟩:Lf)=_
 rw[Asg,Cp (D1 h)];rfl
theorem Sm{ps:List (Int × Int)}(h:Pln ps)(k:Int):(⟨ps,k⟩:Lf).pln=⟨ps,k⟩:=by
 unfold Lf.pln;rw[Cp h]
theorem Wq{k:Nat}{a:Int}(h:InB k a):TmB 0 k (Lf.num a).tm:=LB.tb ⟨κ _,(λp hp=>nomatch hp),h⟩
section
variable {D:Orc} (Kt:Knows At FS D) (Kf:Knows At KZ D) (Ks:Knows At D9 D) (Z:ZF D) (C:PartF D) (Kl:Knows At KY D) (Kd:Knows At Q2 D)
include Kd Z
theorem AcE{k:Nat}(hk:k<=1000000000)(x:Ln){n:Int}(hn:InB k n)(hx:OB k x.lo):D.ask (.fn 160) [.ptr 0 0,.agg (eZ (Av n))] [bk (Ef x)]=Θ (.tup [],[.set (bk (Ef (IX n x)))]):=by
 obtain⟨ps,lo,hi⟩:=x;refine AC Kd Ai6 (ApL ..) ?_
 cases lo with
 |none=>rfl
 |some m=>
  have g:=Z.cmp (Av n) (Av m) ((hn.lz).mono hk) (((hx m rfl).lz).mono hk);rw[Bf,Bf]at g
  show br Φ _ _=_
  refine BX ?_;refine Ab g ?_;simp only[ND,DK,Aa]
  by_cases h:m<n
  .refine Ap ?_ (by unfold CD;rw[if_neg (by omega),if_pos h];decide)
   unfold IX Uo;simp only[if_pos h];rfl
  .refine Ak ?_ (by unfold CD;split<;>(try split)<;>omega)
   unfold IX Uo;simp only[if_neg h];rfl
theorem Qz{k:Nat}(hk:k<=1000000000)(x:Ln){n:Int}(hn:InB k n)(hx:OB k x.hi):D.ask (.fn 162) [.ptr 0 0,.agg (eZ (Av n))] [bk (Ef x)]=Θ (.tup [],[.set (bk (Ef (FI n x)))]):=by
 obtain⟨ps,lo,hi⟩:=x;refine AC Kd Ai8 (ApN ..) ?_
 cases hi with
 |none=>rfl
 |some m=>
  have g:=Z.cmp (Av n) (Av m) ((hn.lz).mono hk) (((hx m rfl).lz).mono hk);rw[Bf,Bf]at g
  show br Φ _ _=_
  refine BX ?_;refine Ab g ?_;simp only[ND,DK,Aa]
  by_cases h:n<m
  .refine Ap ?_ (by unfold CD;rw[if_pos h];decide)
   unfold FI mnO;simp only[if_pos h];rfl
  .refine Ak ?_ (by unfold CD;split<;>(try split)<;>omega)
   unfold FI mnO;simp only[if_neg h];rfl
include Kt Kf Ks C Kl
theorem Ac9{n k:Nat}{t u:Tm}(ht:TmB n k t)(hu:TmB n k u)(hn:n<=1000000)(hk:k+n<=900000000):D.ask (.fn 213) [.agg (eT t),.agg (eT u)] []=Θ (bv (decide (RB t.lf.pln u.lf.pln=0)),[]):=by
 have g:=Xc Kt Ks Z C Kl ht hu hn hk;refine AC Kd Ajg (Ap5 ..) ?_;refine Ab g ?_;simp only[ND,DK,Aa]
 by_cases h:RB t.lf.pln u.lf.pln=0
 .rw[decide_eq_true h]
  exact GL h
 .rw[decide_eq_false h]
  exact GK h
omit Kl Kd in
theorem AqJ{n k:Nat}{ps:List (Int × Int)}{u:Int}(hp:Pln ps)(lb:LB n k ⟨ps,0⟩)(hu:InB k u)(hn:n<=100000)(hk:k<=1000000):D.ask (.fn 127) [.agg (eT (Lf.tm ⟨ps,0⟩)),.agg (eT (Lf.num u).tm)] []=Θ (.agg (eT (Lf.tm ⟨ps,-u⟩)),[]):=by
 have g:=WP Kt Kf Ks Z C lb.tb (Wq hu) (by omega) (by omega);rw[Cd,Cd,Yo hp,Int.zero_sub]at g;exact g
omit Kl Kd in
theorem AqK{n k:Nat}{ps:List (Int × Int)}{u:Int}(hp:Pln ps)(lb:LB n k ⟨ps,0⟩)(hu:InB k u)(hn:n<=100000)(hk:k<=1000000):D.ask (.fn 127) [.agg (eT (Lf.num u).tm),.agg (eT (Lf.tm ⟨ps,0⟩))] []=Θ (.agg (eT (Lf.tm ⟨negP ps,u⟩)),[]):=by
 have g:=WP Kt Kf Ks Z C (Wq hu) lb.tb (by omega) (by omega);rw[Cd,Cd,Ahl hp,Int.sub_zero]at g;exact g
omit Kl Kd in
theorem Acz{n k:Nat}{ps:List (Int × Int)}{u:Int}(hp:Pln ps)(lb:LB n k ⟨ps,u⟩)(hn:n<=100000)(hk:k<=1000000):D.ask (.fn 28) [.agg (eT (Lf.tm ⟨ps,u⟩))] []=Θ (.agg (Ec (⟨ps,u⟩,Φ)),[]):=by
 have g:=AcA Kt Kf Ks Z C lb.tb (by omega) (by omega);rw[Cd,Sm hp]at g;exact g
omit Kl Kd in
theorem Ao0{n k:Nat}{ps:List (Int × Int)}{u:Int}(hp:Pln ps)(lb:LB n k ⟨ps,u⟩)(hn:n<=100000)(hk:k<=1000000):D.ask (.fn 27) [.agg (eT (Lf.tm ⟨ps,u⟩))] []=Θ (.agg (Ec (⟨ps,u⟩,Δ)),[]):=by
 have g:=Aiw Kt Kf Ks Z C lb.tb (by omega) (by omega);rw[Cd,Sm hp]at g;exact g
def O8(x:Ln):AV:=match FP x with
 |none=>.tup [.ls [],bv Φ]
 |some l=>.tup [.ls (l.map Ec),bv Δ]
omit Kl in
theorem Zo{n k:Nat}{x:Ln}(hx:LnB n k x)(hn:n<=100000)(hk:k<=1000000):D.ask (.fn 89) [.ptr 0 0] [bk (Ef x)]=Θ (O8 x,[.set (bk (Ef x))]):=by
 obtain⟨hp,lb,hlo,hhi⟩:=hx;have lbk:∀{a},InB k a->LB n k ⟨x.ps,a⟩:=λh=>⟨lb.len,lb.ps,h⟩
 have lbn:∀{a},InB k a->LB n k ⟨negP x.ps,a⟩:=λh=>⟨by show (List.map _ _).length<=n;rw[Ar2];exact lb.len,λp hp=>by
  obtain⟨q,hq,rfl⟩:=Asj.1 hp;exact(lb.ps q hq).neg,h⟩
 have gn:∀{a},InB k a->D.ask (.fn 125) [.agg (eZ (Av a))] []=Θ (.agg (eT (Lf.num a).tm),[]):=λ{a} h=>by
  have:=QL Kt Kf Z (h.lz.mono (by omega));rw[Bf]at this;exact this
 have g1:∀{u},InB k u->_:=λ{u} h=>AqJ Kt Kf Ks Z C hp lb h hn hk
 have g2:∀{u},InB k u->_:=λ{u} h=>AqK Kt Kf Ks Z C hp lb h hn hk
 have gl:∀{u},InB k u->_:=λ{u} h=>Acz Kt Kf Ks Z C hp (lbk h.neg) hn hk
 have gm:∀{u},InB k u->_:=λ{u} h=>Acz Kt Kf Ks Z C (D1 hp) (lbn h) hn hk
 have gz:∀{u},InB k u->_:=λ{u} h=>Ao0 Kt Kf Ks Z C hp (lbk h.neg) hn hk
 simp only[eT,eZ,eN,Ec,CP,AsK,Asg]at gn g1 g2 gl gm gz;obtain⟨ps,lo,hi⟩:=x;refine AC Kd AnB (e89 ..) ?_;unfold O8 FP
 cases lo with
 |none=>
  refine BX ?_;refine BX ?_;refine BX ?_;refine BX ?_;refine BX ?_;refine BX ?_
  cases hi with
  |none=>exact BX rfl
  |some v=>
   have hv:=hhi v rfl;refine Ac ?_;refine Ab (gn hv) ?_;simp only[ND,DK,Aa];refine Ab (g2 hv) ?_;simp only[ND,DK,Aa];refine Ab (gm hv) ?_;rfl
 |some u=>
  have hu:=hlo u rfl;refine Ac ?_;refine Ac ?_;refine Ac ?_;refine Ac ?_;refine Ac ?_
  cases hi with
  |none=>
   refine BX ?_;refine Ac ?_;refine Ab (gn hu) ?_;simp only[ND,DK,Aa];refine Ab (g1 hu) ?_;simp only[ND,DK,Aa];refine Ab (gl hu) ?_;simp only[ND,DK,Aa];exact BX rfl
  |some v=>
   have hv:=hhi v rfl;have gc:=Z.cmp (Av u) (Av v) (hu.lz.mono (by omega)) (hv.lz.mono (by omega));rw[Bf,Bf]at gc;refine Ac ?_;refine Ab gc ?_;simp only[ND,DK,Aa]
   by_cases h1:v<u
   .rw[if_pos h1]
    exact Bt rfl (by unfold CD;rw[if_neg (by omega),if_pos h1])
   rw[if_neg h1];refine Ba ?_ (by unfold CD;split<;>(try split)<;>omega)
   by_cases h2:u=v
   .rw[if_pos h2]
    refine Bt ?_ (by unfold CD;split<;>(try split)<;>omega);refine Ab (gn hu) ?_;simp only[ND,DK,Aa];refine Ab (g1 hu) ?_;simp only[ND,DK,Aa];refine Ab (gz hu) ?_;rfl
   .rw[if_neg h2]
    refine Ba ?_ (by unfold CD;split<;>(try split)<;>omega);refine Ac ?_;refine Ab (gn hu) ?_;simp only[ND,DK,Aa];refine Ab (g1 hu) ?_;simp only[ND,DK,Aa];refine Ab (gl hu) ?_;simp only[ND,DK,Aa];refine Ac ?_;refine Ab (gn hv) ?_;simp only[ND,DK,Aa];refine Ab (g2 hv) ?_;simp only[ND,DK,Aa];refine Ab (gm hv) ?_;rfl
