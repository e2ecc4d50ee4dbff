/- When two formulas are th -/
import Derived.Test.YtpncilciembjdaaGreatDoorDBA
set_option linter.all false
open Bool renaming false->Φ,true->Δ
open Int renaming add_mul->Ash,lt_or_le->AtY,lt_trichotomy->ArV,mul_assoc->AsM,mul_le_mul_of_nonneg_right->AsB,mul_neg->Auc,mul_one->Atu,natAbs_natCast->ArS
open List renaming append_nil->Aq9,cons_append->AqE,drop_eq_getElem_cons->ApV,drop_eq_nil_of_le->Aqd,drop_zero->Ap4,filterMap_append->Ata,filterMap_cons->Ati,filterMap_eq_nil_iff->ArY,filterMap_nil->Atl,filter_cons->Ar4,foldl_cons->Arx,getElem?_eq_getElem->φ,getElem_mem->Aqg,length_append->χ,length_cons->ο,length_map->Ap1,length_set->Aqc,map_congr_left->Ark,map_cons->Ap5,map_eq_nil_iff->Arv,map_map->Art,mem_append->AqG,mem_append_left->AsD,mem_append_right->Asy,mem_cons->ApT,mem_cons_of_mem->π,mem_cons_self->ι,mem_filterMap->AqZ,mem_map->Aqm,mem_singleton->Aqp,nil_append->Aql,nodup_append->Asn,nodup_cons->ArE,nodup_nil->AsH,pairwise_cons->AqI,pairwise_map->Aso
open Nat renaming add_sub_cancel->Aq0,gcd->ArK,le_refl->κ,le_trans->Aqs
open Option renaming none->Ξ,some->Θ
open Prod renaming ext_iff->Aub
namespace Go.Proofs.YtpncilciembjdaaGreatDoor
open ABlk renaming mk->θ
open Option.some renaming injEq->ξ
open Go.RowKit
def HL(a b:Int):Int:=if a=0 then b else a
theorem Oq{a b:Int}:HL a b=0 ↔ a=0/\b=0:=by
 unfold HL;split<;>simp_all
theorem EX{a b:Int}:Cr a b=0 ↔ a=b:=by
 unfold Cr;split
 .omega
 .split<;>omega
def JP(p q:Int × Int):Int:=HL (Cr p.1 q.1) (Cr p.2 q.2)
theorem Nv{p q:Int × Int}:JP p q=0 ↔ p=q:=by
 unfold JP;rw[Oq,EX,EX,Aub]
def Je:List (Int × Int)->List (Int × Int)->Option Int
 |[],_=>Ξ
 |_::_,[]=>Θ 1
 |p::a,q::b=>if JP p q=0 then Je a b else Θ (JP p q)
def JO(a b:List (Int × Int)):Int:=match Je a b with
 |some n=>n
 |none=>if a.length<b.length then -1 else 0
theorem WL:∀{a b:List (Int × Int)} {n:Int},Je a b=Θ n->n≠0
 |[],_,_,h=>by cases h
 |_::_,[],n,h=>by
  rw[Je]at h;injection h with h
  omega
 |p::a,q::b,n,h=>by
  rw[Je]at h;split at h
  .exact WL h
  .rename_i h0
   injection h with h
   rw[←h];exact h0
theorem PR:∀{a b:List (Int × Int)},Je a b=Ξ->¬ a.length<b.length->a=b
 |[],b,_,h=>by
  cases b with
  |nil=>rfl
  |cons _ _=>simp at h
 |_::_,[],h,_=>by cases h
 |p::a,q::b,h,hl=>by
  rw[Je]at h;split at h
  .rename_i h0
   rw[Nv.1 h0,PR h (by simpa using hl)]
  .cases h
theorem PS:∀ a:List (Int × Int),Je a a=Ξ
 |[]=>rfl
 |p::a=>by rw[Je,if_pos (Nv.2 rfl),PS a]
theorem U9{a b:List (Int × Int)}:JO a b=0 ↔ a=b:=by
 unfold JO;constructor
 .intro h
  cases e:Je a b with
  |some n=>
   rw[e]at h;exact absurd h (WL e)
  |none=>
   rw[e]at h;refine PR e λhl=>?_
   simp only[if_pos hl]at h;omega
 .rintro rfl
  rw[PS];simp
def Q6(a b:Lf):Int:=HL (JO a.ps b.ps) (Cr a.k b.k)
theorem KZ{a b:Lf}:Q6 a b=0 ↔ a=b:=by
 obtain⟨p,k⟩:=a;obtain⟨q,j⟩:=b;unfold Q6;rw[Oq,U9,EX];simp
def Ua(e:Bool):Int:=if e then 1 else 0
def U7(a b:Lf)(e f:Bool):Int:=HL (Q6 a b) (Cr (Ua e) (Ua f))
theorem Yp{a b:Lf}{e f:Bool}:U7 a b e f=0 ↔ a=b/\e=f:=by
 unfold U7;rw[Oq,KZ,EX]
 cases e<;>cases f<;>simp[Ua]
theorem CanFs.mem:∀{l:List Fm},CanFs l->∀ x∈l,CanF x
 |_::_,.cons h hr,x,hx=>by
  rcases ApT.1 hx with rfl|hx
  .exact h
  .exact hr.mem x hx
theorem CanF.kids{x:Fm}(h:CanF x):∀ y∈x.kids,CanF y:=by
 cases h with
 |tru b=>intro y hy;cases b<;>cases hy
 |atom l e h=>intro y hy;cases hy
 |no x h=>intro y hy;rcases Aqp.1 hy with rfl;exact h
 |and l h=>exact h.mem
 |or l h=>exact h.mem
 |no0=>intro y hy;cases hy
theorem CanF.head{x:Fm}(h:CanF x):(x.kind=2/\x.kids=[]/\∃ l:Lf,l.pln=l/\x.tm=l.tm)\/(x.kind≠2/\x.tm=Tm0/\x.eq=Φ):=by
 cases h with
 |tru b=>exact .inr ⟨by cases b<;>decide,rfl,rfl⟩
 |atom l e h=>exact .inl ⟨rfl,rfl,l,h,rfl⟩
 |no x h=>exact .inr ⟨by show (3:Int)≠2;decide,rfl,rfl⟩
 |and l h=>exact .inr ⟨by show (4:Int)≠2;decide,rfl,rfl⟩
 |or l h=>exact .inr ⟨by show (5:Int)≠2;decide,rfl,rfl⟩
 |no0=>exact .inr ⟨by show (3:Int)≠2;decide,rfl,rfl⟩
def II:List Int->List Int->Int
 |[],[]=>0
 |[],_::_=>-1
 |_::_,[]=>1
 |a::r,b::s=>HL (Cr a b) (II r s)
def Yt:List (Int × Int)->List Int
 |[]=>[0]
 |p::r=>1::p.1::p.2::Yt r
def AaV(x:Lf × Bool):List Int:=Yt x.1.ps++[x.1.k,Ua x.2]
theorem Lr(a b c:Int):HL (HL a b) c=HL a (HL b c):=by
 unfold HL
 by_cases h:a=0
 .rw[if_pos h,if_pos h]
 .rw[if_neg h,if_neg h,if_neg h]
theorem AkF(a:Int):HL a 0=a:=by
 unfold HL;split<;>omega
theorem U8(p q:Int × Int)(a b:List (Int × Int)):JO (p::a) (q::b)=HL (JP p q) (JO a b):=by
 unfold JO HL;rw[Je]
 by_cases h:JP p q=0
 .rw[if_pos h,if_pos h]
  simp only[ο,Nat.add_lt_add_iff_right]
 .rw[if_neg h,if_neg h]
theorem Xe:∀(a b:List (Int × Int)) (u v:List Int),II (Yt a++u) (Yt b++v)=HL (JO a b) (II u v)
 |[],[],u,v=>rfl
 |[],q::b,u,v=>rfl
 |p::a,[],u,v=>rfl
 |p::a,q::b,u,v=>by
  rw[U8,Lr,←Xe a b u v]
  show HL (Cr 1 1) (HL (Cr p.1 q.1) (HL (Cr p.2 q.2) (II (Yt a++u) (Yt b++v))))=_
  unfold JP;rw[Lr];rfl
def EM(x y:Lf × Bool):Int:=U7 x.1 y.1 x.2 y.2
theorem JQ(x y:Lf × Bool):EM x y=II (AaV x) (AaV y):=by
 unfold AaV EM U7 Q6;rw[Xe,Lr]
 show HL _ (HL _ _)=HL _ (HL _ (HL _ 0))
 rw[AkF]
theorem Q7(a b:Int):Cr a b<0 ↔ a<b:=by
 unfold Cr;split
 .omega
 .split<;>omega
theorem Aaw(a b:Int):Cr b a=-Cr a b:=by
 unfold Cr
 repeat' split
 all_goals omega
theorem Xf:∀ a b:List Int,II b a=-II a b
 |[],[]=>rfl
 |[],_::_=>rfl
 |_::_,[]=>rfl
 |a::r,b::s=>by
  rw[II,II,Xf r s,Aaw a b];unfold HL;split<;>split<;>omega
theorem Qb:∀{a b c:List Int},II a b<0->II b c<0->II a c<0
 |[],_,[],h1,h2=>by
  rename_i b
  cases b with
  |nil=>exact h1
  |cons=>exact absurd h2 (by decide:¬ (1:Int)<0)
 |[],_,_::_,_,_=>(by decide:(-1:Int)<0)
 |_::_,[],_,h1,_=>absurd h1 (by decide:¬ (1:Int)<0)
 |_::_,_::_,[],_,h2=>absurd h2 (by decide:¬ (1:Int)<0)
 |a::r,b::s,c::t,h1,h2=>by
  rw[II]at h1 h2 ⊢;unfold HL at h1 h2 ⊢
  by_cases e1:Cr a b=0
  .rw[if_pos e1]at h1
   have:=EX.1 e1;subst this
   by_cases e2:Cr a c=0
   .rw[if_pos e2]at h2 ⊢
    exact Qb h1 h2
   .rw[if_neg e2]at h2 ⊢
    exact h2
  .rw[if_neg e1,Q7]at h1
   by_cases e2:Cr b c=0
   .have:=EX.1 e2
    subst this;rw[if_neg e1,Q7];exact h1
   .rw[if_neg e2,Q7]at h2
    have h3:Cr a c<0:=(Q7 a c).2 (by omega);rw[if_neg (by omega)];exact h3
theorem Nw(x y:Lf × Bool):EM y x=-EM x y:=by rw[JQ,JQ,Xf]
theorem Va{x y z:Lf × Bool}(h1:EM x y<0)(h2:EM y z<0):EM x z<0:=by
 rw[JQ]at *;exact Qb h1 h2
theorem K0{x y:Lf × Bool}:EM x y=0 ↔ x=y:=by
 unfold EM;rw[Yp,Aub]
theorem Im(x:Lf × Bool):EM x x=0:=K0.2 rfl
def Pk(l:List (Lf × Bool)):Prop:=l.Pairwise λx y=>EM x y<0
theorem SM:∀{a b:List (Lf × Bool)},Pk a->Pk b->(∀ x,x∈a ↔ x∈b)->a=b
 |[],[],_,_,_=>rfl
 |[],y::b,_,_,h=>absurd ((h y).2 (ι ..)) (by simp)
 |x::a,[],_,_,h=>absurd ((h x).1 (ι ..)) (by simp)
 |x::a,y::b,ha,hb,h=>by
  unfold Pk at ha hb;obtain⟨a1,a2⟩:=AqI.1 ha;obtain⟨b1,b2⟩:=AqI.1 hb;have hxy:x=y:=by
   rcases ApT.1 ((h x).1 (ι ..)) with h1|h1
   .exact h1
   .rcases ApT.1 ((h y).2 (ι ..)) with h2|h2
    .exact h2.symm
    .have h3:=a1 y h2
     have h4:=b1 x h1;rw[Nw x y]at h4;omega
  subst hxy;rw[SM a2 b2 λz=>?_];constructor
  .intro hz
   rcases ApT.1 ((h z).1 (π _ hz)) with h1|h1
   .have:=a1 z hz
    rw[h1,Im]at this;omega
   .exact h1
  .intro hz
   rcases ApT.1 ((h z).2 (π _ hz)) with h1|h1
   .have:=b1 z hz
    rw[h1,Im]at this;omega
   .exact h1
theorem AkJ(x:Int){y:Int}(hy:0<y):0<=rZ x y/\rZ x y<y:=by
 have hv:vN x y<y.natAbs:=Nat.mod_lt _ (by omega);have hu:=Nat.div_add_mod x.natAbs y.natAbs;unfold rZ dS;rw[decide_eq_false (show ¬ y<0 by omega)];unfold E0;generalize hn:vN x y=n at *
 by_cases hx:x<0
 .rw[decide_eq_true hx]
  simp only[bne_iff_ne,ne_eq,Bool.true_eq_false,not_false_eq_true,true_and,if_true];split<;>omega
 .rw[decide_eq_false hx]
  simp;omega
theorem Ux(f:Int->Int){g:Int}(g0:g≠0):∀ l:List (Int × Int),(∀ p∈l,g ∣ p.2)->Ch f (l.map λp=>(p.1,qZ p.2 g))*g=Ch f l
 |[],_=>by simp[Ch]
 |p::r,h=>by
  have ih:=Ux f g0 r λq hq=>h q (π _ hq)
  have hp:=(Oz (h p (ι ..)) g0).2;rw[Ap5,Ch,Ch,Ash,ih]
  congr 1
  show qZ p.2 g*f p.1*g=p.2*f p.1
  rw[AsM,Int.mul_comm (f p.1),←AsM,hp]
theorem S0(p:Tm):∀ q∈AC p.lf.ps,(Ck p:Int) ∣ q.2:=λq hq=>Int.natAbs_dvd_natAbs.1 (by rw[ArS];exact(JY (AC p.lf.ps) 0).2 q hq)
theorem AgW{p:Tm}(h:Ck p≠0):(D3 p).lf=⟨(AC p.lf.ps).map λq=>(q.1,qZ q.2 (Ck p)),qZ (zv p.k) (Ck p)⟩:=by
 unfold D3;rw[if_neg h];unfold Tm.lf;rw[AU,Art]
 congr 1
 refine Ark λq _=>?_
 show ((q.1,zv (Ap (qZ q.2 (Ck p)))):Int × Int)=_
 rw[AU]
theorem AgY{f:Int->Int}(hf:∀ v,v<0->f v=0){p:Tm}(h:Ck p≠0):p.lf.val f=(D3 p).lf.val f*(Ck p:Int)+rZ (zv p.k) (Ck p):=by
 have h1:=Ux f (g:=(Ck p:Int)) (by omega) _ (S0 p);have h2:=Tf (zv p.k) (Ck p:Int);rw[AgW h];unfold Lf.val;rw[Ash,h1,OZ hf]
 show _+zv p.k=_+qZ (zv p.k) (Ck p:Int)*(Ck p:Int)+_
 omega
theorem VU{a g:Int}(hg:0<g)(h:1<=a):g<=a*g:=by
 have:=AsB h (show 0<=g by omega)
 rwa [Int.one_mul]at this
theorem Ok{a g:Int}(hg:0<g)(h:a ≤ -1):a*g ≤ -g:=by
 have:=AsB h (show 0<=g by omega);omega
theorem Aa6{a g r:Int}(hg:0<g)(h0:0<=r)(h1:r<g):0<=a*g+r ↔ 0<=a:=by
 constructor
 .intro h
  rcases AtY a 0 with h2|h2
  .have:=Ok hg (show a ≤ -1 by omega)
   omega
  .exact h2
 .intro h
  have:=Int.mul_nonneg h (show 0<=g by omega);omega
theorem S9{a g r:Int}(hg:0<g)(h0:0<=r)(h1:r<g):a*g+r=0 ↔ a=0/\r=0:=by
 constructor
 .intro h
  rcases ArV a 0 with h2|h2|h2
  .have:=Ok hg (show a ≤ -1 by omega)
   omega
  .subst h2
   omega
  .have:=VU hg (show 1<=a by omega)
   omega
 .rintro⟨rfl,rfl⟩
  omega
theorem OD(v:Int):Ff v Φ=decide (0<=v):=by
 unfold Ff;rw[Bool.not_false,Bool.true_and,←Bool.decide_or,decide_eq_decide];omega
theorem Ls(v:Int):Ff v Δ=decide (v=0):=by
 unfold Ff;rw[Bool.not_true,Bool.false_and,Bool.or_false]
theorem O4{f:Int->Int}(hf:∀ v,v<0->f v=0){l:Lf}(hl:l.pln=l)(eq:Bool) :
  ((CF l.tm eq).2=1/\Ff (l.val f) eq=Δ)\/((CF l.tm eq).2=-1/\Ff (l.val f) eq=Φ)\/((CF l.tm eq).2=0/\(CF l.tm eq).1.2=eq/\Ff ((CF l.tm eq).1.1.lf.val f) eq=Ff (l.val f) eq):=by
 have hlv:l.tm.lf.val f=l.val f:=by rw[BS]
 have hne:l.tm.ps≠[]->Ck l.tm≠0:=by
  have:=Q8 (l:=l)
  rwa [hl]at this
 have hps:l.tm.ps=[]->l.val f=zv l.tm.k:=λh=>by
  rw[←hlv];unfold Lf.val Tm.lf;rw[h];simp[Ch]
 rw[←hlv]at hps ⊢;generalize l.tm=p at *;unfold CF
 by_cases h0:p.ps=[]
 .rw[if_pos h0]
  rw[hps h0]
  by_cases h1:zv p.k=0\/(eq=Φ/\0<zv p.k)
  .refine .inl ⟨if_pos h1,?_⟩
   cases eq with
   |false=>
    rw[OD,decide_eq_true_eq];rcases h1 with h|h<;>omega
   |true=>
    rw[Ls,decide_eq_true_eq];rcases h1 with h|h
    .exact h
    .cases h.1
  .refine .inr (.inl ⟨if_neg h1,?_⟩)
   cases eq with
   |false=>
    rw[OD,decide_eq_false_iff_not];intro h;refine h1 ?_;rcases AtY 0 (zv p.k) with h2|h2
    .exact .inr ⟨rfl,h2⟩
    .exact .inl (by omega)
   |true=>
    rw[Ls,decide_eq_false_iff_not];exact λh=>h1 (.inl h)
 .rw[if_neg h0]
  have hc:=hne h0;have hg:0<(Ck p:Int):=by omega
  have hv:=AgY hf hc;obtain⟨r0,r1⟩:=AkJ (zv p.k) hg
  cases eq with
  |false=>
   rw[if_neg (by decide)];refine .inr (.inr ⟨rfl,rfl,?_⟩);rw[hv,OD,OD,decide_eq_decide];exact(Aa6 hg r0 r1).symm
  |true=>
   rw[if_pos rfl]
   by_cases hr:rZ (zv p.k) (Ck p)=0
   .rw[if_pos hr]
    refine .inr (.inr ⟨rfl,rfl,?_⟩);rw[hv,Ls,Ls,decide_eq_decide,S9 hg r0 r1]
    show Lf.val f (Tm.lf (if hdS (D3 p)<0 then((D3 p).lf.scale (-1)).tm else D3 p))=0 ↔ _
    split
    .rw[BS,ZP hf]
     omega
    .exact⟨λh=>⟨h,hr⟩,λh=>h.1⟩
   .rw[if_neg hr]
    refine .inr (.inl ⟨rfl,?_⟩);rw[hv,Ls,decide_eq_false_iff_not,S9 hg r0 r1];exact λh=>hr h.2
abbrev RL:Type:=Lf × Bool
def IS:List (Int × Int)->Int
 |[]=>0
 |p::_=>p.2
def negP(l:List (Int × Int)):List (Int × Int):=l.map λp=>(p.1,-p.2)
theorem DT(l:List (Int × Int)):negP (negP l)=l:=by
 unfold negP;rw[Art]
 conv=>rhs;rw[←List.map_id l]
 refine Ark λp _=>?_
 show ((p.1,- -p.2):Int × Int)=p
 rw[Int.neg_neg]
theorem Eo(l:List (Int × Int)):IS (negP l)=-IS l:=by
 cases l with
 |nil=>rfl
 |cons p r=>rfl
structure TgR (r:RL):Prop where
 pln:Pln r.1.ps
 ne:r.1.ps≠[]
 one:D1 0 r.1.ps=1
 eq:r.2=Δ->0<IS r.1.ps
theorem TgR.hd{r:RL}(h:TgR r):IS r.1.ps≠0:=by
 cases e:r.1.ps with
 |nil=>exact absurd e h.ne
 |cons p l=>exact h.pln.nz p (by rw[e];exact ι ..)
structure Ln where
 ps:List (Int × Int)
 lo:Option Int
 hi:Option Int
def Px(o:Option Int)(n:Int):Option Int:=match o with
 |none=>Θ n
 |some m=>if m<n then Θ n else Θ m
def mnO(o:Option Int)(n:Int):Option Int:=match o with
 |none=>Θ n
 |some m=>if n<m then Θ n else Θ m
def G5(p:List (Int × Int))(f:Ln->Ln):List Ln->List Ln
 |[]=>[f ⟨p,Ξ,Ξ⟩]
 |x::r=>if x.ps=p then f x::r else x::G5 p f r
def IJ(n:Int)(x:Ln):Ln:=⟨x.ps,Px x.lo n,x.hi⟩
def FD(n:Int)(x:Ln):Ln:=⟨x.ps,x.lo,mnO x.hi n⟩
def EF(ls:List Ln)(r:RL):List Ln:=
 if 0<IS r.1.ps then G5 r.1.ps (λx=>if r.2=Δ then FD (-r.1.k) (IJ (-r.1.k) x) else IJ (-r.1.k) x) ls
 else G5 (negP r.1.ps) (FD r.1.k) ls
def AjZ(T:List RL):List Ln:=T.foldl EF []
def J8(l:List Int):Option Int:=l.foldl Px Ξ
def TR(l:List Int):Option Int:=l.foldl mnO Ξ
def J6(p:List (Int × Int))(r:RL):Option Int:=if r.1.ps=p then Θ (-r.1.k) else Ξ
def Fb(p:List (Int × Int))(r:RL):Option Int:=if r.1.ps=p then(if r.2=Δ then Θ (-r.1.k) else Ξ) else if r.1.ps=negP p then Θ r.1.k else Ξ
def MS(T:List RL)(p:List (Int × Int)):Option Int:=J8 (T.filterMap (J6 p))
def L6(T:List RL)(p:List (Int × Int)):Option Int:=TR (T.filterMap (Fb p))
def Mv(T:List RL)(p:List (Int × Int)):Prop:=0<IS p/\∃ r∈T,r.1.ps=p\/r.1.ps=negP p
theorem YS(l:List Int)(n:Int):J8 (l++[n])=Px (J8 l) n:=by simp[J8]
theorem YV(l:List Int)(n:Int):TR (l++[n])=mnO (TR l) n:=by simp[TR]
theorem AiT(z y:Int):Px (Θ z) y=Θ (if z<y then y else z):=by
 show (if z<y then Θ y else Θ z)=_
 split<;>rfl
theorem Eg:∀{l:List Int} {m:Int},J8 l=Θ m ↔ m∈l/\∀ x∈l,x<=m:=by
 have key:∀(l:List Int) (o:Option Int) (m:Int),l.foldl Px o=Θ m ↔ (m∈l\/o=Θ m)/\(∀ x∈l,x<=m)/\∀ x,o=Θ x->x<=m:=by
  intro l
  induction l with
  |nil=>
   intro o m;simp only[List.foldl_nil];constructor
   .intro h
    exact⟨.inr h,by simp,λx hx=>by rw[h]at hx;injection hx with hx;omega⟩
   .rintro⟨h|h,_⟩
    .simp at h
    .exact h
  |cons y l ih=>
   intro o m;rw[Arx,ih]
   have e:∀ x,Px o y=Θ x ↔ (x=y/\∀ z,o=Θ z->z<=y)\/(o=Θ x/\y<=x):=λx=>by
    unfold Px
    cases o with
    |none=>simp[eq_comm]
    |some z=>
     simp only[ξ];split
     .simp only[ξ]
      constructor
      .intro h
       exact .inl ⟨h.symm,λw hw=>by omega⟩
      .rintro (⟨h,_⟩|⟨h,h2⟩)<;>omega
     .simp only[ξ]
      constructor
      .intro h
       exact .inr ⟨h,by omega⟩
      .rintro (⟨h,h2⟩|⟨h,_⟩)
       .have:=h2 z rfl
        omega
       .exact h
   constructor
   .rintro⟨h1,h2,h3⟩
    refine⟨?_,?_,?_⟩
    .rcases h1 with h|h
     .exact .inl (π _ h)
     .rcases (e m).1 h with⟨h,_⟩|⟨h,_⟩
      .rw[h];exact .inl (ι ..)
      .exact .inr h
    .intro x hx
     rcases ApT.1 hx with rfl|hx
     .cases o with
      |none=>exact h3 x rfl
      |some z=>
       have:=h3 _ (AiT z x);split at this<;>omega
     .exact h2 x hx
    .intro x hx
     subst hx;have:=h3 _ (AiT x y);split at this<;>omega
   .rintro⟨h1,h2,h3⟩
    have hy:=h2 y (ι ..);refine⟨?_,λx hx=>h2 x (π _ hx),λx hx=>?_⟩
    .rcases h1 with h|h
     .rcases ApT.1 h with rfl|h
      .exact .inr ((e m).2 (.inl ⟨rfl,h3⟩))
      .exact .inl h
     .exact .inr ((e m).2 (.inr ⟨h,hy⟩))
    .rcases (e x).1 hx with⟨rfl,_⟩|⟨h,_⟩
     .exact hy
     .exact h3 x h
 intro l m;unfold J8;rw[key];simp
theorem Hy(l:List Int):TR l=(J8 (l.map (- ·))).map (- ·):=by
 have key:∀(l:List Int) (o:Option Int),l.foldl mnO o=((l.map (- ·)).foldl Px (o.map (- ·))).map (- ·):=by
  intro l
  induction l with
  |nil=>intro o;cases o<;>simp
  |cons y l ih=>
   intro o;rw[Arx,ih,Ap5,Arx]
   congr 2
   cases o with
   |none=>rfl
   |some z=>
    unfold mnO Px;simp only[Option.map_some]
    by_cases h:y<z
    .rw[if_pos h,if_pos (by omega)];rfl
    .rw[if_neg h,if_neg (by omega)];rfl
 exact key l Ξ
theorem YW{l:List Int}{m:Int}:TR l=Θ m ↔ m∈l/\∀ x∈l,m<=x:=by
 rw[Hy,Option.map_eq_some_iff];constructor
 .rintro⟨a,ha,rfl⟩
  obtain⟨h1,h2⟩:=Eg.1 ha;obtain⟨b,hb,rfl⟩:=Aqm.1 h1;refine⟨by simpa using hb,λx hx=>?_⟩;have:-x ≤ -b:=h2 (-x) (Aqm.2 ⟨x,hx,rfl⟩)
  show - -b<=x
  omega
 .rintro⟨h1,h2⟩
  refine⟨-m,Eg.2 ⟨Aqm.2 ⟨m,h1,rfl⟩,λx hx=>?_⟩,by simp⟩;obtain⟨b,hb,rfl⟩:=Aqm.1 hx;have:=h2 b hb
  show -b ≤ -m
  omega
theorem TN{a b:List Int}(h:∀ x,x∈a ↔ x∈b):J8 a=J8 b:=by
 cases e:J8 a with
 |some m=>
  obtain⟨h1,h2⟩:=Eg.1 e;exact(Eg.2 ⟨(h m).1 h1,λx hx=>h2 x ((h x).2 hx)⟩).symm
 |none=>
  cases e2:J8 b with
  |none=>rfl
  |some m=>
   obtain⟨h1,h2⟩:=Eg.1 e2;rw[Eg.2 ⟨(h m).2 h1,λx hx=>h2 x ((h x).1 hx)⟩]at e
   cases e
theorem Ab5{a b:List Int}(h:∀ x,x∈a ↔ x∈b):TR a=TR b:=by
 rw[Hy,Hy,TN λx=>?_];rw[Aqm,Aqm];constructor
 .rintro⟨y,hy,rfl⟩;exact⟨y,(h y).1 hy,rfl⟩
 .rintro⟨y,hy,rfl⟩;exact⟨y,(h y).2 hy,rfl⟩
theorem Xg{S T:List RL}(h:∀ x,x∈S ↔ x∈T)(p:List (Int × Int)):MS S p=MS T p:=TN λx=>by
 rw[AqZ,AqZ];constructor
 .rintro⟨y,hy,e⟩;exact⟨y,(h y).1 hy,e⟩
 .rintro⟨y,hy,e⟩;exact⟨y,(h y).2 hy,e⟩
theorem W4{S T:List RL}(h:∀ x,x∈S ↔ x∈T)(p:List (Int × Int)):L6 S p=L6 T p:=Ab5 λx=>by
 rw[AqZ,AqZ];constructor
 .rintro⟨y,hy,e⟩;exact⟨y,(h y).1 hy,e⟩
 .rintro⟨y,hy,e⟩;exact⟨y,(h y).2 hy,e⟩
structure LnOk (T:List RL) (x:Ln):Prop where
 lo:x.lo=MS T x.ps
 hi:x.hi=L6 T x.ps
 key:Mv T x.ps
structure LsOk (T:List RL) (ls:List Ln):Prop where
 ok:∀ x∈ls,LnOk T x
 nodup:(ls.map Ln.ps).Nodup
 all:∀ p,Mv T p->p∈ls.map Ln.ps
theorem Sx(p:List (Int × Int))(f:Ln->Ln)(hf:∀ x,(f x).ps=x.ps):∀ ls:List Ln,(G5 p f ls).map Ln.ps=if p∈ls.map Ln.ps then ls.map Ln.ps else ls.map Ln.ps++[p]
 |[]=>by simp[G5,hf]
 |x::r=>by
  unfold G5
  by_cases h:x.ps=p
  .rw[if_pos h,Ap5,hf,Ap5,if_pos (by rw[h];exact ι ..)]
  .rw[if_neg h,Ap5,Sx p f hf r,Ap5]
   by_cases h2:p∈r.map Ln.ps
   .rw[if_pos h2,if_pos (π _ h2)]
   .rw[if_neg h2,if_neg (λh3=>(ApT.1 h3).elim (λh4=>h h4.symm) h2)]
    rfl
theorem UI(p:List (Int × Int))(f:Ln->Ln):∀(ls:List Ln),(ls.map Ln.ps).Nodup->∀ y,y∈G5 p f ls->(y∈ls/\y.ps≠p)\/(∃ x∈ls,x.ps=p/\y=f x)\/(p∉ls.map Ln.ps/\y=f ⟨p,Ξ,Ξ⟩)
 |[],_,y,hy=>by
  simp[G5]at hy;exact .inr (.inr ⟨by simp,hy⟩)
 |x::r,hn,y,hy=>by
  rw[Ap5,ArE]at hn;unfold G5 at hy
  by_cases h:x.ps=p
  .rw[if_pos h]at hy
   rcases ApT.1 hy with rfl|hy
   .exact .inr (.inl ⟨x,ι ..,h,rfl⟩)
   .refine .inl ⟨π _ hy,λh2=>hn.1 ?_⟩
    rw[h,←h2];exact Aqm.2 ⟨y,hy,rfl⟩
  .rw[if_neg h]at hy
   rcases ApT.1 hy with rfl|hy
   .exact .inl ⟨ι ..,h⟩
   .rcases UI p f r hn.2 y hy with⟨h1,h2⟩|⟨z,h1,h2,h3⟩|⟨h1,h2⟩
    .exact .inl ⟨π _ h1,h2⟩
    .exact .inr (.inl ⟨z,π _ h1,h2,h3⟩)
    .refine .inr (.inr ⟨λh3=>?_,h2⟩)
     rw[Ap5]at h3;rcases ApT.1 h3 with h4|h4
     .exact h h4.symm
     .exact h1 h4
theorem VV{p:List (Int × Int)}(h:0<IS p):negP p≠p:=λe=>by
 have:=Eo p;rw[e]at this;omega
theorem Oe(T:List RL)(r:RL)(p:List (Int × Int)):MS (T++[r]) p=match J6 p r with
  |some n=>Px (MS T p) n
  |none=>MS T p:=by
 unfold MS;rw[Ata]
 cases h:J6 p r with
 |none=>simp[h]
 |some n=>simp only[Ati,h,Atl];exact YS _ _
theorem NR(T:List RL)(r:RL)(p:List (Int × Int)):L6 (T++[r]) p=match Fb p r with
  |some n=>mnO (L6 T p) n
  |none=>L6 T p:=by
 unfold L6;rw[Ata]
 cases h:Fb p r with
 |none=>simp[h]
 |some n=>simp only[Ati,h,Atl];exact YV _ _
theorem AkA{T:List RL}{p:List (Int × Int)}(hp:0<IS p)(h:¬ Mv T p):MS T p=Ξ/\L6 T p=Ξ:=by
 have h1:T.filterMap (J6 p)=[]:=by
  rw[ArY];intro r hr;unfold J6;rw[if_neg λe=>h ⟨hp,r,hr,.inl e⟩]
 have h2:T.filterMap (Fb p)=[]:=by
  rw[ArY];intro r hr;unfold Fb;rw[if_neg λe=>h ⟨hp,r,hr,.inl e⟩,if_neg λe=>h ⟨hp,r,hr,.inr e⟩]
 unfold MS L6;rw[h1,h2];exact⟨rfl,rfl⟩
theorem Agx{T:List RL}{ls:List Ln}{r:RL}(hr:IS r.1.ps≠0)(he:r.2=Δ->0<IS r.1.ps)(h:LsOk T ls):LsOk (T++[r]) (EF ls r):=by
 obtain⟨p,f,hp,hf,hkp,hlo,hhi,hoth,hu⟩:∃(p:List (Int × Int)) (f:Ln->Ln),0<IS p/\(∀ x,(f x).ps=x.ps)/\(r.1.ps=p\/r.1.ps=negP p)/\(∀ x:Ln,(f x).lo=match J6 p r with|some n=>Px x.lo n|none=>x.lo)/\(∀ x:Ln,(f x).hi=match Fb p r with|some n=>mnO x.hi n|none=>x.hi)/\(∀ q,0<IS q->q≠p->r.1.ps≠q/\r.1.ps≠negP q)/\EF ls r=G5 p f ls:=by
  by_cases h0:0<IS r.1.ps
  .refine⟨r.1.ps,λx=>if r.2=Δ then FD (-r.1.k) (IJ (-r.1.k) x) else IJ (-r.1.k) x,h0,λx=>?_,.inl rfl,λx=>?_,λx=>?_,λq hq hne=>⟨λe=>hne e.symm,λe=>?_⟩,if_pos h0⟩
   .simp only
    split<;>rfl
   .unfold J6
    rw[if_pos rfl];simp only;split<;>rfl
   .unfold Fb
    rw[if_pos rfl];simp only
    by_cases h2:r.2=Δ
    .rw[if_pos h2,if_pos h2];rfl
    .rw[if_neg h2,if_neg h2];rfl
   .have:=Eo q
    rw[←e]at this;omega
  .refine⟨negP r.1.ps,FD r.1.k,by rw[Eo];omega,λx=>rfl,.inr (DT _).symm,λx=>?_,λx=>?_,λq hq hne=>⟨λe=>h0 (by rw[e];exact hq),λe=>hne (by rw[e,DT])⟩,if_neg h0⟩
   .have:r.1.ps≠negP r.1.ps:=λe=>by
     have:=Eo r.1.ps;rw[←e]at this;omega
    unfold J6;rw[if_neg this];rfl
   .have:r.1.ps≠negP r.1.ps:=λe=>by
     have:=Eo r.1.ps;rw[←e]at this;omega
    unfold Fb;rw[if_neg this,DT,if_pos rfl];rfl
 have hkey:∀ q,Mv (T++[r]) q ↔ Mv T q\/q=p:=λq=>by
  constructor
  .rintro⟨h1,s,hs,h2⟩
   rcases AqG.1 hs with hs|hs
   .exact .inl ⟨h1,s,hs,h2⟩
   .rw[Aqp]at hs
    subst hs;refine .inr ?_;rcases Classical.em (q=p) with e|e
    .exact e
    .obtain⟨a,b⟩:=hoth q h1 e
     rcases h2 with h2|h2
     .exact absurd h2 a
     .exact absurd h2 b
  .rintro (⟨h1,s,hs,h2⟩|rfl)
   .exact⟨h1,s,AsD _ hs,h2⟩
   .exact⟨hp,r,Asy _ (Aqp.2 rfl),hkp⟩
 rw[hu];refine⟨λy hy=>?_,?_,λq hq=>?_⟩
 .rcases UI p f ls h.nodup y hy with⟨h1,h2⟩|⟨x,h1,h2,rfl⟩|⟨h1,rfl⟩
  .have ok:=h.ok y h1
   obtain⟨a,b⟩:=hoth y.ps ok.key.1 h2;refine⟨?_,?_,(hkey _).2 (.inl ok.key)⟩
   .rw[Oe]
    unfold J6;rw[if_neg a];exact ok.lo
   .rw[NR]
    unfold Fb;rw[if_neg a,if_neg b];exact ok.hi
  .have ok:=h.ok x h1
   refine⟨?_,?_,(hkey _).2 (.inr (by rw[hf,h2]))⟩
   .rw[hlo,hf,h2,Oe,ok.lo,h2]
   .rw[hhi,hf,h2,NR,ok.hi,h2]
  .have hnk:¬ Mv T p:=λhk=>h1 (h.all p hk)
   obtain⟨n1,n2⟩:=AkA hp hnk;refine⟨?_,?_,(hkey _).2 (.inr (by rw[hf]))⟩
   .rw[hlo,hf,Oe,n1]
   .rw[hhi,hf,NR,n2]
 .rw[Sx p f hf]
  split
  .exact h.nodup
  .rename_i hn
   rw[Asn];refine⟨h.nodup,ArE.2 ⟨by simp,AsH⟩,λa ha b hb e=>?_⟩;rw[Aqp]at hb;subst hb;subst e;exact hn ha
 .rw[Sx p f hf]
  rcases (hkey q).1 hq with h1|rfl
  .split
   .exact h.all q h1
   .exact AsD _ (h.all q h1)
  .split
   .assumption
   .exact Asy _ (Aqp.2 rfl)
theorem TK:∀(S T:List RL) (ls:List Ln),LsOk T ls->(∀ r∈S,TgR r)->LsOk (T++S) (S.foldl EF ls)
 |[],T,ls,h,_=>by rw[Aq9];exact h
 |r::S,T,ls,h,hS=>by
  have hr:=hS r (ι ..);have:=TK S (T++[r]) (EF ls r) (Agx hr.hd hr.eq h) λx hx=>hS x (π _ hx)
  rw[List.append_assoc]at this;exact this
theorem Lk{T:List RL}(h:∀ r∈T,TgR r):LsOk T (AjZ T):=by
 have:=TK T [] [] ⟨by simp,by simp,λp hp=>by obtain⟨_,r,hr,_⟩:=hp;cases hr⟩ h;rw[Aql]at this;exact this
def M8(p:List (Int × Int))(lo hi:Option Int)(r:RL):Prop:=
 (∃ a,lo=Θ a/\hi=Θ a/\r=(⟨p,-a⟩,Δ))\/(lo≠hi/\((∃ a,lo=Θ a/\r=(⟨p,-a⟩,Φ))\/∃ b,hi=Θ b/\r=(⟨negP p,b⟩,Φ)))
def QO(T:List RL)(r:RL):Prop:=∃ p,Mv T p/\M8 p (MS T p) (L6 T p) r
def Ajd(T:List RL):Prop:=∀ p,Mv T p->∀ a b,MS T p=Θ a->L6 T p=Θ b->a<=b
def I4(T:List RL):Option (List RL)->Prop
 |none=>¬ Ajd T
 |some l=>Ajd T/\Pk l/\∀ r,r∈l ↔ QO T r
theorem ZE{T:List RL}:∀{o o':Option (List RL)},I4 T o->I4 T o'->o=o'
 |none,Ξ,_,_=>rfl
 |none,Θ _,h,h'=>absurd h'.1 h
 |some _,Ξ,h,h'=>absurd h.1 h'
 |some a,Θ b,h,h'=>congrArg Θ (SM h.2.1 h'.2.1 λr=>by rw[h.2.2,h'.2.2])
theorem TG{S T:List RL}(h:∀ x,x∈S ↔ x∈T)(p:List (Int × Int)):Mv S p ↔ Mv T p:=
 ⟨λ⟨a,r,b,c⟩=>⟨a,r,(h r).1 b,c⟩,λ⟨a,r,b,c⟩=>⟨a,r,(h r).2 b,c⟩⟩
theorem Acj{S T:List RL}(h:∀ x,x∈S ↔ x∈T)(r:RL):QO S r ↔ QO T r:=by
 unfold QO;constructor
 .rintro⟨p,hp,g⟩
  rw[Xg h,W4 h]at g;exact⟨p,(TG h p).1 hp,g⟩
 .rintro⟨p,hp,g⟩
  rw[←Xg h,←W4 h]at g;exact⟨p,(TG h p).2 hp,g⟩
def FL(x:Ln):Option (List RL):=match x.lo,x.hi with
 |some a,Θ b=>if b<a then Ξ else if a=b then Θ [(⟨x.ps,-a⟩,Δ)] else Θ [(⟨x.ps,-a⟩,Φ),(⟨negP x.ps,b⟩,Φ)]
 |some a,Ξ=>Θ [(⟨x.ps,-a⟩,Φ)]
 |none,Θ b=>Θ [(⟨negP x.ps,b⟩,Φ)]
 |none,Ξ=>Θ []
def GZ:List Ln->Option (List RL)
 |[]=>Θ []
 |x::r=>match FL x with
  |none=>Ξ
  |some l=>match GZ r with
   |none=>Ξ
   |some m=>Θ (l++m)
theorem OH{x:Ln}{l:List RL}(h:FL x=Θ l):(∀ r,r∈l ↔ M8 x.ps x.lo x.hi r)/\(∀ a b,x.lo=Θ a->x.hi=Θ b->a<=b):=by
 obtain⟨ps,lo,hi⟩:=x;unfold FL at h;unfold M8
 cases lo with
 |none=>
  cases hi with
  |none=>
   simp only[ξ]at h;subst h;simp
  |some b=>
   simp only[ξ]at h;subst h;refine⟨λr=>?_,by simp⟩;simp only[Aqp];constructor
   .intro h;exact .inr ⟨by simp,.inr ⟨b,rfl,h⟩⟩
   .rintro (⟨a,ha,_⟩|⟨_,⟨a,ha,_⟩|⟨c,hc,h⟩⟩)
    .cases ha
    .cases ha
    .injection hc with hc;subst hc;exact h
 |some a=>
  cases hi with
  |none=>
   simp only[ξ]at h;subst h;refine⟨λr=>?_,by simp⟩;simp only[Aqp];constructor
   .intro h;exact .inr ⟨by simp,.inl ⟨a,rfl,h⟩⟩
   .rintro (⟨c,_,hc,_⟩|⟨_,⟨c,hc,h⟩|⟨c,hc,_⟩⟩)
    .cases hc
    .injection hc with hc;subst hc;exact h
    .cases hc
  |some b=>
   simp only at h
   by_cases h1:b<a
   .rw[if_pos h1]at h;cases h
   rw[if_neg h1]at h;refine⟨λr=>?_,λc d hc hd=>by injection hc with hc;injection hd with hd;omega⟩
   by_cases h2:a=b
   .rw[if_pos h2]at h
    injection h with h
    subst h;subst h2;simp only[Aqp];constructor
    .intro h;exact .inl ⟨a,rfl,rfl,h⟩
    .rintro (⟨c,hc,_,h⟩|⟨hne,_⟩)
     .injection hc with hc;subst hc;exact h
     .exact absurd rfl hne
   .rw[if_neg h2]at h
    injection h with h
    subst h;simp only[ApT,List.not_mem_nil,or_false];constructor
    .rintro (h|h)
     .exact .inr ⟨λe=>h2 (by injection e),.inl ⟨a,rfl,h⟩⟩
     .exact .inr ⟨λe=>h2 (by injection e),.inr ⟨b,rfl,h⟩⟩
    .rintro (⟨c,hc,hd,_⟩|⟨_,⟨c,hc,h⟩|⟨c,hc,h⟩⟩)
     .injection hc with hc;injection hd with hd;omega
     .injection hc with hc;subst hc;exact .inl h
     .injection hc with hc;subst hc;exact .inr h
theorem V8{x:Ln}(h:FL x=Ξ):∃ a b,x.lo=Θ a/\x.hi=Θ b/\b<a:=by
 obtain⟨ps,lo,hi⟩:=x;unfold FL at h
 cases lo with
 |none=>cases hi<;>cases h
 |some a=>
  cases hi with
  |none=>cases h
  |some b=>
   simp only at h
   by_cases h1:b<a
   .exact⟨a,b,rfl,rfl,h1⟩
   .rw[if_neg h1]at h
    split at h<;>cases h
def Cu(r:RL):List (Int × Int):=if 0<IS r.1.ps then r.1.ps else negP r.1.ps
theorem Lv{p:List (Int × Int)}{lo hi:Option Int}{r:RL}(hp:0<IS p)(h:M8 p lo hi r):Cu r=p:=by
 unfold Cu;rcases h with⟨a,_,_,rfl⟩|⟨_,⟨a,_,rfl⟩|⟨b,_,rfl⟩⟩
 .exact if_pos hp
 .exact if_pos hp
 .rw[if_neg (by rw[Eo];omega),DT]
theorem Ue{x:Ln}(hp:0<IS x.ps){l:List RL}(h:FL x=Θ l):l.Nodup:=by
 obtain⟨ps,lo,hi⟩:=x;unfold FL at h;have one:∀ r:RL,[r].Nodup:=λr=>ArE.2 ⟨by simp,AsH⟩
 cases lo with
 |none=>
  cases hi with
  |none=>injection h with h;subst h;exact AsH
  |some b=>injection h with h;subst h;exact one _
 |some a=>
  cases hi with
  |none=>injection h with h;subst h;exact one _
  |some b=>
   simp only at h;split at h
   .cases h
   split at h
   .injection h with h;subst h;exact one _
   .injection h with h
    subst h;refine ArE.2 ⟨λhm=>?_,one _⟩;rw[Aqp]at hm;have:=congrArg (λr:RL=>r.1.ps) hm;exact VV hp this.symm
theorem Ih:∀{ls:List Ln} {l:List RL},GZ ls=Θ l->(∀ r,r∈l ↔ ∃ x∈ls,M8 x.ps x.lo x.hi r)/\(∀ x∈ls,∀ a b,x.lo=Θ a->x.hi=Θ b->a<=b)
 |[],l,h=>by
  injection h with h
  subst h;simp
 |x::r,l,h=>by
  unfold GZ at h
  cases e1:FL x with
  |none=>rw[e1]at h;cases h
  |some u=>
   rw[e1]at h;simp only at h
   cases e2:GZ r with
   |none=>rw[e2]at h;cases h
   |some m=>
    rw[e2]at h;injection h with h
    subst h;obtain⟨h1,h2⟩:=OH e1;obtain⟨h3,h4⟩:=Ih e2;refine⟨λs=>?_,λy hy=>?_⟩
    .rw[AqG,h1,h3]
     simp only[ApT,exists_eq_or_imp]
    .rcases ApT.1 hy with rfl|hy
     .exact h2
     .exact h4 y hy
theorem PI:∀{ls:List Ln},GZ ls=Ξ->∃ x∈ls,∃ a b,x.lo=Θ a/\x.hi=Θ b/\b<a
 |x::r,h=>by
  unfold GZ at h
  cases e1:FL x with
  |none=>exact⟨x,ι ..,V8 e1⟩
  |some u=>
   rw[e1]at h;simp only at h
   cases e2:GZ r with
   |none=>
    obtain⟨y,hy,g⟩:=PI e2;exact⟨y,π _ hy,g⟩
   |some m=>rw[e2]at h;cases h
theorem Na:∀{ls:List Ln} {l:List RL},(ls.map Ln.ps).Nodup->(∀ x∈ls,0<IS x.ps)->GZ ls=Θ l->l.Nodup
 |[],l,_,_,h=>by injection h with h;subst h;exact AsH
 |x::r,l,hn,hp,h=>by
  have hall:=h;unfold GZ at h
  cases e1:FL x with
  |none=>rw[e1]at h;cases h
  |some u=>
   rw[e1]at h;simp only at h
   cases e2:GZ r with
   |none=>rw[e2]at h;cases h
   |some m=>
    rw[e2]at h;injection h with h
    subst h;rw[Ap5,ArE]at hn;refine Asn.2 ⟨Ue (hp x (ι ..)) e1,Na hn.2 (λy hy=>hp y (π _ hy)) e2,λa ha b hb e=>?_⟩;subst e;have k1:=Lv (hp x (ι ..)) (((OH e1).1 a).1 ha);obtain⟨y,hy,g⟩:=((Ih e2).1 a).1 hb;have k2:=Lv (hp y (π _ hy)) g;exact hn.1 (Aqm.2 ⟨y,hy,by rw[←k2,k1]⟩)
theorem Ss{T:List RL}{ls:List Ln}(h:LsOk T ls):(GZ ls=Ξ->I4 T Ξ)/\∀ l,GZ ls=Θ l->l.Nodup/\∀ s:List RL,Pk s->(∀ r,r∈s ↔ r∈l)->I4 T (Θ s):=by
 refine⟨λe=>?_,λl e=>⟨Na h.nodup (λx hx=>(h.ok x hx).key.1) e,λs hs hm=>?_⟩⟩
 .obtain⟨x,hx,a,b,h1,h2,h3⟩:=PI e
  have ok:=h.ok x hx;intro f;have:=f x.ps ok.key a b (by rw[←ok.lo,h1]) (by rw[←ok.hi,h2]);omega
 .obtain⟨h1,h2⟩:=Ih e
  refine⟨λp hp a b ha hb=>?_,hs,λr=>?_⟩
  .obtain⟨x,hx,rfl⟩:=Aqm.1 (h.all p hp)
   have ok:=h.ok x hx;exact h2 x hx a b (by rw[ok.lo,ha]) (by rw[ok.hi,hb])
  .rw[hm,h1]
   constructor
   .rintro⟨x,hx,g⟩
    have ok:=h.ok x hx;rw[ok.lo,ok.hi]at g;exact⟨x.ps,ok.key,g⟩
   .rintro⟨p,hp,g⟩
    obtain⟨x,hx,rfl⟩:=Aqm.1 (h.all p hp);have ok:=h.ok x hx;rw[←ok.lo,←ok.hi]at g;exact⟨x,hx,g⟩
theorem Gp(f:Int->Int):∀ l:List (Int × Int),Ch f (negP l)=-Ch f l
 |[]=>rfl
 |p::r=>by
  have:=Gp f r
  show -p.2*f p.1+Ch f (negP r)=-(p.2*f p.1+Ch f r)
  rw[this,Int.neg_mul];omega
theorem Ge{T:List RL}{p:List (Int × Int)}{a:Int}:MS T p=Θ a ↔ (∃ r∈T,r.1.ps=p/\-r.1.k=a)/\∀ r∈T,r.1.ps=p->-r.1.k<=a:=by
 unfold MS;rw[Eg,AqZ];have e:∀(r:RL) (x:Int),J6 p r=Θ x ↔ r.1.ps=p/\-r.1.k=x:=λr x=>by
  unfold J6
  by_cases h:r.1.ps=p
  .rw[if_pos h];simp[h]
  .rw[if_neg h];simp[h]
 constructor
 .rintro⟨⟨r,hr,h⟩,h2⟩
  exact⟨⟨r,hr,(e r a).1 h⟩,λs hs h3=>h2 _ (AqZ.2 ⟨s,hs,(e s _).2 ⟨h3,rfl⟩⟩)⟩
 .rintro⟨⟨r,hr,h⟩,h2⟩
  refine⟨⟨r,hr,(e r a).2 h⟩,λx hx=>?_⟩;obtain⟨s,hs,h3⟩:=AqZ.1 hx;obtain⟨h4,h5⟩:=(e s x).1 h3;rw[←h5];exact h2 s hs h4
def AtM(p:List (Int × Int))(r:RL)(b:Int):Prop:=(r.1.ps=p/\r.2=Δ/\-r.1.k=b)\/(r.1.ps≠p/\r.1.ps=negP p/\r.1.k=b)
theorem Hm{T:List RL}{p:List (Int × Int)}{b:Int}:L6 T p=Θ b ↔ (∃ r∈T,AtM p r b)/\∀ r∈T,∀ c,AtM p r c->b<=c:=by
 unfold L6;rw[YW,AqZ];have e:∀(r:RL) (x:Int),Fb p r=Θ x ↔ AtM p r x:=λr x=>by
  unfold Fb AtM
  by_cases h:r.1.ps=p
  .rw[if_pos h]
   by_cases h2:r.2=Δ
   .rw[if_pos h2];simp[h,h2]
   .rw[if_neg h2];simp[h,h2]
  .rw[if_neg h]
   by_cases h2:r.1.ps=negP p
   .rw[if_pos h2]
    constructor
    .intro g;injection g with g;exact .inr ⟨h,h2,g⟩
    .rintro (⟨g,_⟩|⟨_,_,g⟩)
     .exact absurd g h
     .rw[g]
   .rw[if_neg h2];simp[h,h2]
 constructor
 .rintro⟨⟨r,hr,h⟩,h2⟩
  exact⟨⟨r,hr,(e r b).1 h⟩,λs hs c h3=>h2 _ (AqZ.2 ⟨s,hs,(e s _).2 h3⟩)⟩
 .rintro⟨⟨r,hr,h⟩,h2⟩
  refine⟨⟨r,hr,(e r b).2 h⟩,λx hx=>?_⟩;obtain⟨s,hs,h3⟩:=AqZ.1 hx;exact h2 s hs x ((e s x).1 h3)
def Di(f:Int->Int)(r:RL):Prop:=Ff (r.1.val f) r.2=Δ
theorem GH{f:Int->Int}{l:Lf}:Di f (l,Φ) ↔ 0<=Ch f l.ps+l.k:=by
 unfold Di;rw[OD,decide_eq_true_eq];exact Iff.rfl
theorem La{f:Int->Int}{l:Lf}:Di f (l,Δ) ↔ Ch f l.ps+l.k=0:=by
 unfold Di;rw[Ls,decide_eq_true_eq];exact Iff.rfl
theorem N3{f:Int->Int}{r:RL}(h:Di f r):-r.1.k<=Ch f r.1.ps:=by
 obtain⟨l,e⟩:=r
 cases e with
 |false=>have:=GH.1 h;simp only;omega
 |true=>have:=La.1 h;simp only;omega
theorem P7{f:Int->Int}{p:List (Int × Int)}{r:RL}{b:Int}(h:Di f r)(hb:AtM p r b):Ch f p<=b:=by
 obtain⟨l,e⟩:=r;rcases hb with⟨h1,h2,h3⟩|⟨_,h1,h2⟩
 .simp only at h1 h2 h3
  subst h2;have:=La.1 h;rw[h1]at this;omega
 .simp only at h1 h2
  have h3:=N3 h;simp only at h3;rw[h1,Gp]at h3;omega
theorem Aca{f:Int->Int}{T:List RL}(h:¬ Ajd T):¬ ∀ r∈T,Di f r:=λg=>h λp _ a b ha hb=>by
 obtain⟨⟨r,hr,h1,h2⟩,_⟩:=Ge.1 ha;obtain⟨⟨s,hs,h3⟩,_⟩:=Hm.1 hb;have h4:=N3 (g r hr);have h5:=P7 (g s hs) h3;rw[h1]at h4;omega
theorem Ws{f:Int->Int}{T:List RL}{l:List RL}(hT:∀ r∈T,TgR r)(h:I4 T (Θ l)):(∀ r∈l,Di f r) ↔ ∀ r∈T,Di f r:=by
 obtain⟨hf,_,hm⟩:=h;constructor
 .intro g r hr
  have tr:=hT r hr;have hk:Mv T (Cu r):=by
   unfold Cu
   by_cases h0:0<IS r.1.ps
   .rw[if_pos h0];exact⟨h0,r,hr,.inl rfl⟩
   .rw[if_neg h0]
    have:=tr.hd;exact⟨by rw[Eo];omega,r,hr,.inr (DT _).symm⟩
  have low:∀ a,MS T (Cu r)=Θ a->a<=Ch f (Cu r):=λa ha=>by
   cases hb:L6 T (Cu r) with
   |none=>
    have:=GH.1 (g (⟨Cu r,-a⟩,Φ) ((hm _).2 ⟨_,hk,.inr ⟨by rw[ha,hb];simp,.inl ⟨a,ha,rfl⟩⟩⟩));simp only at this;omega
   |some b=>
    by_cases e:a=b
    .subst e
     have:=La.1 (g (⟨Cu r,-a⟩,Δ) ((hm _).2 ⟨_,hk,.inl ⟨a,ha,hb,rfl⟩⟩));simp only at this;omega
    .have:=GH.1 (g (⟨Cu r,-a⟩,Φ) ((hm _).2 ⟨_,hk,.inr ⟨by rw[ha,hb];simp[e],.inl ⟨a,ha,rfl⟩⟩⟩))
     simp only at this;omega
  have high:∀ b,L6 T (Cu r)=Θ b->Ch f (Cu r)<=b:=λb hb=>by
   cases ha:MS T (Cu r) with
   |none=>
    have:=GH.1 (g (⟨negP (Cu r),b⟩,Φ) ((hm _).2 ⟨_,hk,.inr ⟨by rw[ha,hb];simp,.inr ⟨b,hb,rfl⟩⟩⟩));simp only[Gp]at this;omega
   |some a=>
    by_cases e:a=b
    .subst e
     have:=La.1 (g (⟨Cu r,-a⟩,Δ) ((hm _).2 ⟨_,hk,.inl ⟨a,ha,hb,rfl⟩⟩));simp only at this;omega
    .have:=GH.1 (g (⟨negP (Cu r),b⟩,Φ) ((hm _).2 ⟨_,hk,.inr ⟨by rw[ha,hb];simp[e],.inr ⟨b,hb,rfl⟩⟩⟩))
     simp only[Gp]at this;omega
  have lows:r.1.ps=Cu r->-r.1.k<=Ch f (Cu r):=λe=>by
   cases ha:MS T (Cu r) with
   |none=>
    unfold MS J8 at ha;exact absurd ha (by
     intro ha;have hmem:-r.1.k∈T.filterMap (J6 (Cu r)):=AqZ.2 ⟨r,hr,by unfold J6;rw[if_pos e]⟩;have key:∀(l:List Int) (o:Option Int),l.foldl Px o=Ξ->l=[]/\o=Ξ:=λl=>by
      induction l with
      |nil=>exact λo h=>⟨rfl,h⟩
      |cons y l ih=>
       intro o h;obtain⟨_,h2⟩:=ih _ h;unfold Px at h2
       cases o with
       |none=>cases h2
       |some z=>simp only at h2;split at h2<;>cases h2
     rw[(key _ _ ha).1]at hmem
     cases hmem)
   |some a=>
    have h1:=low a ha;have h2:=(Ge.1 ha).2 r hr e;omega
  have highs:∀ b,AtM (Cu r) r b->Ch f (Cu r)<=b:=λb e=>by
   cases hb:L6 T (Cu r) with
   |none=>
    exfalso
    have:∃ c,L6 T (Cu r)=Θ c:=by
     unfold L6;rw[Hy];have hmem:b∈T.filterMap (Fb (Cu r)):=AqZ.2 ⟨r,hr,by
      unfold Fb;rcases e with⟨e1,e2,e3⟩|⟨e1,e2,e3⟩
      .rw[if_pos e1,if_pos e2,e3]
      .rw[if_neg e1,if_pos e2,e3]⟩
     generalize T.filterMap (Fb (Cu r))=l at hmem
     cases hx:J8 (l.map (- ·)) with
     |some m=>exact⟨_,rfl⟩
     |none=>
      exfalso
      have key:∀(l:List Int) (o:Option Int),l.foldl Px o=Ξ->l=[]/\o=Ξ:=λl=>by
       induction l with
       |nil=>exact λo h=>⟨rfl,h⟩
       |cons y l ih=>
        intro o h;obtain⟨_,h2⟩:=ih _ h;unfold Px at h2
        cases o with
        |none=>cases h2
        |some z=>simp only at h2;split at h2<;>cases h2
      have:=(key _ _ hx).1;rw[Arv]at this;rw[this]at hmem
      cases hmem
    obtain⟨c,hc⟩:=this;rw[hb]at hc
    cases hc
   |some c=>
    have h1:=high c hb;have h2:=(Hm.1 hb).2 r hr b e;omega
  obtain⟨l0,e0⟩:=r
  by_cases h0:0<IS l0.ps
  .have ek:Cu (l0,e0)=l0.ps:=if_pos h0
   rw[ek]at lows highs;have h1:=lows rfl;simp only at h1
   cases e0 with
   |false=>exact GH.2 (by omega)
   |true=>
    have h2:=highs (-l0.k) (.inl ⟨rfl,rfl,rfl⟩);exact La.2 (by omega)
  .have ek:Cu (l0,e0)=negP l0.ps:=if_neg h0
   rw[ek]at lows highs;have he:e0=Φ:=by
    cases e0 with
    |false=>rfl
    |true=>exact absurd (tr.eq rfl) h0
   subst he;have hne:l0.ps≠negP l0.ps:=λe=>by
    have h1:=Eo l0.ps;rw[←e]at h1;exact tr.hd (show IS l0.ps=0 by omega)
   have h2:=highs l0.k (.inr ⟨hne,(DT _).symm,rfl⟩);rw[Gp]at h2;exact GH.2 (by omega)
 .intro g r hr
  obtain⟨p,hp,h⟩:=(hm r).1 hr;have low:∀ a,MS T p=Θ a->a<=Ch f p:=λa ha=>by
   obtain⟨⟨s,hs,h1,h2⟩,_⟩:=Ge.1 ha;have:=N3 (g s hs);rw[h1]at this;omega
  have high:∀ b,L6 T p=Θ b->Ch f p<=b:=λb hb=>by
   obtain⟨⟨s,hs,h1⟩,_⟩:=Hm.1 hb;exact P7 (g s hs) h1
  rcases h with⟨a,ha,hb,rfl⟩|⟨_,⟨a,ha,rfl⟩|⟨b,hb,rfl⟩⟩
  .have h1:=low a ha
   have h2:=high a hb;exact La.2 (by simp only;omega)
  .have h1:=low a ha
   exact GH.2 (by simp only;omega)
  .have h2:=high b hb
   exact GH.2 (by simp only[Gp];omega)

theorem DU{l:List (Int × Int)}(h:Pln l):Pln (negP l):=by
 refine⟨Aso.2 h.asc,λp hp=>?_,λp hp=>?_⟩
 .obtain⟨q,hq,rfl⟩:=Aqm.1 hp
  exact h.pos q hq
 .obtain⟨q,hq,rfl⟩:=Aqm.1 hp
  have:=h.nz q hq
  show -q.2≠0
  omega
theorem IF{l:Lf}(h:Pln l.ps):l.scale (-1)=⟨negP l.ps,-l.k⟩:=by
 have e:l.ps.map (λp=>(p.1,p.2 * -1))=negP l.ps:=Ark λp _=>by rw[Auc,Atu]
 unfold Lf.scale Lf.pln
 show (⟨AC (l.ps.map λp=>(p.1,p.2 * -1)),l.k * -1⟩:Lf)=_
 rw[e,BV (DU h),Auc,Atu]
theorem JZ:∀(l:List (Int × Int)) (a:Nat),D1 a (negP l)=D1 a l
 |[],_=>rfl
 |p::r,a=>by
  have:=JZ r (ArK a p.2.natAbs)
  show D1 (ArK a (-p.2).natAbs) (negP r)=D1 (ArK a p.2.natAbs) r
  rw[Int.natAbs_neg,this]
theorem Tj{g:Nat}(hg:0<g):∀(l:List (Int × Int)) (a:Nat),(∀ p∈l,(g:Int) ∣ p.2)->D1 a (l.map λq=>(q.1,qZ q.2 g))*g=D1 (a*g) l
 |[],_,_=>rfl
 |p::r,a,h=>by
  have ih:=Tj hg r (ArK a (qZ p.2 g).natAbs) λq hq=>h q (π _ hq)
  have e:=(Oz (h p (ι ..)) (by omega)).2
  show D1 (ArK a (qZ p.2 g).natAbs) (r.map λq=>(q.1,qZ q.2 g))*g=D1 (ArK (a*g) p.2.natAbs) r
  rw[ih,←Nat.gcd_mul_right]
  congr 2
  conv=>rhs;rw[←e]
  rw[Int.natAbs_mul,ArS]
theorem Abg(l:Lf):hdS l.tm=IS l.ps:=by
 obtain⟨ps,k⟩:=l
 cases ps with
 |nil=>rfl
 |cons p r=>exact AU _
def JD(l:Lf)(e:Bool):RL:=((CF l.pln.tm e).1.1.lf,(CF l.pln.tm e).1.2)
def Ft(l:Lf)(e:Bool):Int:=(CF l.pln.tm e).2
theorem Nx(l:Lf):Ck l.pln.tm=D1 0 (AC l.ps):=by
 unfold Ck;rw[BS]
 show D1 0 (AC (AC l.ps))=_
 rw[BV (Cw l.ps)]
def GP(l:Lf):Lf:=⟨(AC l.ps).map λq=>(q.1,qZ q.2 (D1 0 (AC l.ps))),qZ l.k (D1 0 (AC l.ps))⟩
theorem AgX{l:Lf}(h:Ck l.pln.tm≠0):D3 l.pln.tm=(GP l).tm:=by
 unfold D3;rw[if_neg h,Nx,BS];have:AC l.pln.ps=AC l.ps:=BV (Cw l.ps);rw[this];unfold GP Lf.tm;rw[Art]
 congr 2
 show qZ (zv (Ap l.k)) _=qZ l.k _
 rw[AU]
theorem AgV{l:Lf}(h:Ck l.pln.tm≠0)(hne:AC l.ps≠[]):Pln (GP l).ps/\(GP l).ps≠[]/\D1 0 (GP l).ps=1:=by
 have hp:=Cw l.ps;have hd:=S0 l.pln.tm;rw[BS,Nx]at hd;rw[Nx]at h;have hd:∀ q∈AC l.ps,(D1 0 (AC l.ps):Int) ∣ q.2:=λq hq=>hd q (by
  show q∈AC (AC l.ps)
  rw[BV hp];exact hq)
 unfold GP;refine⟨⟨Aso.2 hp.asc,λp hx=>?_,λp hx=>?_⟩,λe=>hne (Arv.1 e),?_⟩
 .obtain⟨q,hq,rfl⟩:=Aqm.1 hx
  exact hp.pos q hq
 .obtain⟨q,hq,rfl⟩:=Aqm.1 hx
  have e:=(Oz (hd q hq) (by omega)).2;intro h0;simp only at h0;rw[h0,Int.zero_mul]at e;exact hp.nz q hq e.symm
 .have e:=Tj (g:=D1 0 (AC l.ps)) (by omega) (AC l.ps) 0 hd
  rw[Nat.zero_mul]at e;generalize D1 0 (AC l.ps)=g at *;generalize D1 0 (List.map (λq=>(q.1,qZ q.2 g)) (AC l.ps))=x at *;have:x*g=1*g:=by rw[e,Nat.one_mul]
  exact Nat.eq_of_mul_eq_mul_right (by omega) this
theorem XU{l:Lf}{e:Bool}(h:Ft l e=0):TgR (JD l e)/\(CF l.pln.tm e).1=((JD l e).1.tm,(JD l e).2):=by
 unfold Ft at h;have hne:AC l.ps≠[]:=λh0=>by
  have:l.pln.tm.ps=[]:=by
   show (AC l.ps).map AJ=[]
   rw[h0];rfl
  unfold CF at h;rw[if_pos this]at h;simp only at h;split at h<;>cases h
 have h0:l.pln.tm.ps≠[]:=λh0=>hne (Arv.1 h0)
 have hc:=Q8 h0;obtain⟨g1,g2,g3⟩:=AgV hc hne;have es:=AgX hc;have eh:hdS (D3 l.pln.tm)=IS (GP l).ps:=by rw[es,Abg]
 have esc:((D3 l.pln.tm).lf.scale (-1)).tm=Lf.tm ⟨negP (GP l).ps,-(GP l).k⟩:=by rw[es,BS,IF g1]
 have key:CF l.pln.tm e=if e=Δ then(if rZ (zv l.pln.tm.k) (Ck l.pln.tm)=0 then((if IS (GP l).ps<0 then Lf.tm ⟨negP (GP l).ps,-(GP l).k⟩ else(GP l).tm,Δ),0) else(zrR,-1)) else(((GP l).tm,Φ),0):=by
  unfold CF;rw[if_neg h0,eh,esc,es]
 unfold JD;have nz:IS (GP l).ps≠0:=by
  cases el:(GP l).ps with
  |nil=>exact absurd el g2
  |cons p r=>exact g1.nz p (by rw[el];exact ι ..)
 cases e with
 |false=>
  rw[key,if_neg (by decide)];simp only[BS];exact⟨⟨g1,g2,g3,λh=>by cases h⟩,trivial⟩
 |true=>
  rw[key,if_pos rfl]at h ⊢
  by_cases hr:rZ (zv l.pln.tm.k) (Ck l.pln.tm)=0
  .rw[if_pos hr]
   by_cases hh:IS (GP l).ps<0
   .rw[if_pos hh]
    simp only[BS];refine⟨⟨DU g1,λe=>g2 (Arv.1 e),by rw[JZ];exact g3,λ_=>?_⟩,trivial⟩
    show 0<IS (negP (GP l).ps)
    rw[Eo];omega
   .rw[if_neg hh]
    simp only[BS];exact⟨⟨g1,g2,g3,λ_=>by show 0<IS (GP l).ps;omega⟩,trivial⟩
  .rw[if_neg hr]at h
   cases h
theorem TgR.plnE{r:RL}(h:TgR r):r.1.pln=r.1:=by
 unfold Lf.pln;rw[BV h.pln]
theorem Ada{r:RL}(h:TgR r):CF r.1.tm r.2=((r.1.tm,r.2),0):=by
 have hp:=BV h.pln;have hc:Ck r.1.tm=1:=by
  unfold Ck;rw[BS,hp,h.one]
 have h0:r.1.tm.ps≠[]:=λh0=>h.ne (Arv.1 h0)
 have q1:∀ x:Int,rZ x ((1:Nat):Int)=0/\qZ x ((1:Nat):Int)=x:=λx=>by
  have:=Oz (g:=1) (Int.one_dvd x) (by decide);rw[Atu]at this;exact this
 have es:D3 r.1.tm=r.1.tm:=by
  unfold D3;rw[if_neg (by rw[hc];decide),hc,BS,hp,(q1 _).2];unfold Lf.tm;rw[AU]
  congr 1
  refine Ark λq _=>?_
  show AJ (q.1,qZ q.2 ((1:Nat):Int))=AJ q
  rw[(q1 _).2]
 unfold CF;rw[if_neg h0,es,hc,(q1 _).1,Abg]
 cases e:r.2 with
 |false=>rw[if_neg (by decide)]
 |true=>rw[if_pos rfl,if_pos rfl,if_neg (by have:=h.eq e;omega)]
theorem X1{W:RL->RL->Prop}:∀{a T:List RL},a.Nodup->(∀ r∈a,∃ s∈T,W r s)->(∀ r∈a,∀ r'∈a,∀ s,W r s->W r' s->r=r')->a.length<=T.length
 |[],_,_,_,_=>Nat.zero_le _
 |r::a,T,hn,hw,hi=>by
  rw[ArE]at hn;obtain⟨s,hs,ws⟩:=hw r (ι ..);obtain⟨T1,T2,rfl⟩:=List.append_of_mem hs;have ih:=X1 (W:=W) (a:=a) (T:=T1++T2) hn.2 (λr' hr'=>by
   obtain⟨s',hs',ws'⟩:=hw r' (π _ hr');refine⟨s',?_,ws'⟩;rcases AqG.1 hs' with h|h
   .exact AsD _ h
   .rcases ApT.1 h with e|h
    .subst e
     have:=hi r (ι ..) r' (π _ hr') _ ws ws';exact absurd (this▸hr') hn.1
    .exact Asy _ h) λx hx y hy=>hi x (π _ hx) y (π _ hy)
  rw[χ]at ih;rw[χ,ο,ο];omega
theorem Ru{r:RL}{p:List (Int × Int)}(hp:0<IS p)(h:r.1.ps=p):Cu r=p:=by
 unfold Cu;rw[h,if_pos hp]
theorem Aer{r:RL}{p:List (Int × Int)}(hp:0<IS p)(h:r.1.ps=negP p):Cu r=p:=by
 unfold Cu;rw[h,if_neg (by rw[Eo];omega),DT]
theorem AdU{r:RL}{p:List (Int × Int)}{b:Int}(hp:0<IS p)(h:AtM p r b):Cu r=p:=by
 rcases h with⟨h,_⟩|⟨_,h,_⟩
 .exact Ru hp h
 .exact Aer hp h
theorem Ot{T:List RL}{r:RL}(h:QO T r):Mv T (Cu r)/\M8 (Cu r) (MS T (Cu r)) (L6 T (Cu r)) r:=by
 obtain⟨p,hp,h⟩:=h;rw[Lv hp.1 h];exact⟨hp,h⟩
theorem Xy{T a:List RL}(hn:a.Nodup)(h:∀ r∈a,QO T r):a.length<=T.length:=by
 refine X1 (W:=λr s=>Cu s=Cu r/\(r.2=Δ\/(r.1.ps=Cu r/\s.1.ps=Cu r/\s.1.k=r.1.k)\/(r.1.ps=negP (Cu r)/\AtM (Cu r) s r.1.k))) hn (λr hr=>?_) (λr hr r' hr' s w w'=>?_)
 .obtain⟨hk,g⟩:=Ot (h r hr)
  generalize Cu r=p at *;rcases g with⟨u,h1,_,rfl⟩|⟨_,⟨u,h1,rfl⟩|⟨v,h1,rfl⟩⟩
  .obtain⟨⟨s,hs,e1,e2⟩,_⟩:=Ge.1 h1
   exact⟨s,hs,Ru hk.1 e1,.inl rfl⟩
  .obtain⟨⟨s,hs,e1,e2⟩,_⟩:=Ge.1 h1
   exact⟨s,hs,Ru hk.1 e1,.inr (.inl ⟨rfl,e1,by simp only;omega⟩)⟩
  .obtain⟨⟨s,hs,e1⟩,_⟩:=Hm.1 h1
   exact⟨s,hs,AdU hk.1 e1,.inr (.inr ⟨rfl,e1⟩)⟩
 .obtain⟨hk,g⟩:=Ot (h r hr)
  obtain⟨hk',g'⟩:=Ot (h r' hr');obtain⟨w0,w⟩:=w;obtain⟨w0',w'⟩:=w';rw[←w0']at g' hk' w';rw[←w0]at g hk w;generalize Cu s=p at *;have np:=VV hk.1;have lh:∀{u v:Int},MS T p≠L6 T p->MS T p=Θ u->L6 T p=Θ v->(((⟨p,-u⟩,Φ):RL).2=Δ\/(p=p/\s.1.ps=p/\s.1.k=-u)\/(p=negP p/\AtM p s (-u)))->(((⟨negP p,v⟩,Φ):RL).2=Δ\/(negP p=p/\s.1.ps=p/\s.1.k=v)\/(negP p=negP p/\AtM p s v))->False:=λ{u v} h0 h1 h2 a b=>by
   rcases a with a|⟨_,a1,a2⟩|⟨a,_⟩
   .cases a
   .rcases b with b|⟨b,_⟩|⟨_,b⟩
    .cases b
    .exact np b
    .rcases b with⟨_,_,b⟩|⟨b,_⟩
     .exact h0 (by rw[h1,h2];congr 1;omega)
     .exact b a1
   .exact np a.symm
  rcases g with⟨u,h1,h2,rfl⟩|⟨h0,⟨u,h1,rfl⟩|⟨v,h1,rfl⟩⟩<;>rcases g' with⟨u',h1',h2',rfl⟩|⟨h0',⟨u',h1',rfl⟩|⟨v',h1',rfl⟩⟩
  .rw[h1]at h1';injection h1' with e;rw[e]
  .exact absurd (h1.trans h2.symm) h0'
  .exact absurd (h1.trans h2.symm) h0'
  .exact absurd (h1'.trans h2'.symm) h0
  .rw[h1]at h1';injection h1' with e;rw[e]
  .exact(lh h0 h1 h1' w w').elim
  .exact absurd (h1'.trans h2'.symm) h0
  .exact(lh h0 h1' h1 w' w).elim
  .rw[h1]at h1';injection h1' with e;rw[e]
theorem Ade{T a:List RL}(h:I4 T (Θ a)):a.length<=T.length:=
 Xy (h.2.1.imp λ{x y} hxy e=>by rw[e,Im]at hxy;omega) λr hr=>(h.2.2 r).1 hr
theorem Qe{l:List Int}(h:J8 l=Ξ):l=[]:=by
 have key:∀(l:List Int) (o:Option Int),l.foldl Px o=Ξ->l=[]/\o=Ξ:=λl=>by
  induction l with
  |nil=>exact λo h=>⟨rfl,h⟩
  |cons y l ih=>
   intro o h;obtain⟨_,h2⟩:=ih _ h;unfold Px at h2
   cases o with
   |none=>cases h2
   |some z=>simp only at h2;split at h2<;>cases h2
 exact(key _ _ h).1
theorem Aj0{T:List RL}{p:List (Int × Int)}{r:RL}(hr:r∈T)(h:r.1.ps=p):∃ u,MS T p=Θ u:=by
 cases e:MS T p with
 |some u=>exact⟨u,rfl⟩
 |none=>
  have:=Qe e;rw[ArY]at this;have:=this r hr;unfold J6 at this;rw[if_pos h]at this
  cases this
theorem AjQ{T:List RL}{p:List (Int × Int)}{r:RL}(hp:0<IS p)(hr:r∈T)(h:r.1.ps=negP p):∃ u,L6 T p=Θ u:=by
 cases e:L6 T p with
 |some u=>exact⟨u,rfl⟩
 |none=>
  unfold L6 at e;rw[Hy,Option.map_eq_none_iff]at e;have:=Arv.1 (Qe e);rw[ArY]at this;have:=this r hr;unfold Fb at this;rw[if_neg (by rw[h];exact VV hp),if_pos h]at this
  cases this
theorem Ack{T:List RL}(hT:∀ r∈T,TgR r){r:RL}(h:QO T r):TgR r:=by
 obtain⟨p,⟨hp,s,hs,e⟩,h⟩:=h;have ts:=hT s hs;have k:Pln p/\p≠[]/\D1 0 p=1:=by
  rcases e with rfl|e
  .exact⟨ts.pln,ts.ne,ts.one⟩
  .have e2:p=negP s.1.ps:=by rw[e,DT]
   rw[e2];exact⟨DU ts.pln,λe=>ts.ne (Arv.1 e),by rw[JZ];exact ts.one⟩
 rcases h with⟨a,_,_,rfl⟩|⟨_,⟨a,_,rfl⟩|⟨b,_,rfl⟩⟩
 .exact⟨k.1,k.2.1,k.2.2,λ_=>hp⟩
 .exact⟨k.1,k.2.1,k.2.2,λh=>by cases h⟩
 .exact⟨DU k.1,λe=>k.2.1 (Arv.1 e),by rw[JZ];exact k.2.2,λh=>by cases h⟩
def Du:List RL->Option (List RL)
 |[]=>Θ []
 |r::s=>if Ft r.1 r.2<0 then Ξ else match Du s with
  |none=>Ξ
  |some t=>Θ (if Ft r.1 r.2=0 then JD r.1 r.2::t else t)
def DL(rs:List RL)(o:Option (List RL)):Prop:=match Du rs with
 |none=>o=Ξ
 |some T=>I4 T o
theorem M4:∀{rs T:List RL},Du rs=Θ T->∀ r∈T,TgR r
 |[],T,h,r,hr=>by injection h with h;subst h;cases hr
 |x::s,T,h,r,hr=>by
  unfold Du at h;split at h
  .cases h
  .cases e:Du s with
   |none=>rw[e]at h;cases h
   |some t=>
    rw[e]at h;injection h with h
    subst h;have ih:=M4 e;split at hr
    .rename_i h0
     rcases ApT.1 hr with rfl|hr
     .exact(XU h0).1
     .exact ih r hr
    .exact ih r hr
theorem O6:∀{rs T:List RL},Du rs=Θ T->T.length<=rs.length
 |[],T,h=>by injection h with h;subst h;exact κ _
 |x::s,T,h=>by
  unfold Du at h;split at h
  .cases h
  .cases e:Du s with
   |none=>rw[e]at h;cases h
   |some t=>
    rw[e]at h;injection h with h
    subst h;have ih:=O6 e;rw[ο];split
    .rw[ο];omega
    .omega
theorem Wr{rs:List RL}{o o':Option (List RL)}(h:DL rs o)(h':DL rs o'):o=o':=by
 unfold DL at h h'
 cases e:Du rs with
 |none=>rw[e]at h h';rw[h,h']
 |some T=>rw[e]at h h';exact ZE h h'
theorem Ia:∀{rs:List RL},(Du rs=Ξ ↔ ∃ r∈rs,Ft r.1 r.2<0)/\∀ T,Du rs=Θ T->∀ x,x∈T ↔ ∃ r∈rs,Ft r.1 r.2=0/\JD r.1 r.2=x
 |[]=>⟨by simp[Du],λT h x=>by injection h with h;subst h;simp⟩
 |r::s=>by
  obtain⟨h1,h2⟩:=Ia (rs:=s);unfold Du
  by_cases h0:Ft r.1 r.2<0
  .rw[if_pos h0]
   exact⟨⟨λ_=>⟨r,ι ..,h0⟩,λ_=>rfl⟩,λT h=>nomatch h⟩
  .rw[if_neg h0]
   cases e:Du s with
   |none=>
    obtain⟨x,hx,hl⟩:=h1.1 e;exact⟨⟨λ_=>⟨x,π _ hx,hl⟩,λ_=>rfl⟩,λT h=>nomatch h⟩
   |some t=>
    refine⟨⟨λh=>(nomatch h),?_⟩,λT h x=>?_⟩
    .rintro⟨x,hx,hl⟩
     rcases ApT.1 hx with rfl|hx
     .exact absurd hl h0
     .rw[h1.2 ⟨x,hx,hl⟩]at e
      cases e
    .injection h with h
     subst h;have:=h2 t e x;simp only[ApT,exists_eq_or_imp];rw[←this];split
     .rename_i hz
      rw[ApT];constructor
      .rintro (rfl|h)
       .exact .inl ⟨hz,rfl⟩
       .exact .inr h
      .rintro (⟨_,rfl⟩|h)
       .exact .inl rfl
       .exact .inr h
     .rename_i hz
      exact⟨.inr,λh=>h.resolve_left λh=>hz h.1⟩
def Da(r:RL):List AV:=C5 (r.1.tm,r.2)
theorem En(r:RL):(Da r).length=4:=rfl
def Ex(L:List RL)(x:RL):Int:=((L.filter λy=>decide (EM y x<0)).length:Int)
theorem WX{α:Type}{p q:α->Bool}:∀{l:List α},(∀ x∈l,p x=Δ->q x=Δ)->(l.filter p).length<=(l.filter q).length
 |[],_=>κ _
 |x::l,h=>by
  have ih:=WX (l:=l) λy hy=>h y (π _ hy)
  have hx:=h x (ι ..);rw[Ar4,Ar4]
  cases hp:p x with
  |false=>cases q x<;>simp<;>omega
  |true=>rw[hx hp];simpa using ih
theorem WY{α:Type}{p q:α->Bool}:∀{l:List α},(∀ x∈l,p x=Δ->q x=Δ)->(∃ x∈l,p x=Φ/\q x=Δ)->(l.filter p).length<(l.filter q).length
 |[],_,h=>by obtain⟨x,hx,_⟩:=h;cases hx
 |x::l,h,he=>by
  have h':∀ y∈l,p y=Δ->q y=Δ:=λy hy=>h y (π _ hy)
  have hx:=h x (ι ..);have le:=WX h';rw[Ar4,Ar4];obtain⟨y,hy,g1,g2⟩:=he;rcases ApT.1 hy with rfl|hy
  .rw[g1,g2]
   simp;omega
  .have ih:=WY h' ⟨y,hy,g1,g2⟩
   cases hp:p x with
   |false=>cases q x<;>simp<;>omega
   |true=>rw[hx hp];simpa using ih
theorem VN{L:List RL}{x y:RL}(hx:x∈L)(h:EM x y<0):Ex L x<Ex L y:=by
 unfold Ex;have:=WY (l:=L) (p:=λz=>decide (EM z x<0)) (q:=λz=>decide (EM z y<0)) (λz _ hz=>by
  rw[decide_eq_true_eq]at hz ⊢;exact Va hz h) ⟨x,hx,by rw[decide_eq_false_iff_not,Im];omega,by rw[decide_eq_true_eq];exact h⟩
 omega
theorem Aeq{L:List RL}{x y:RL}(hx:x∈L)(hy:y∈L):EM x y<0 ↔ Ex L x<Ex L y:=by
 refine⟨VN hx,λh=>?_⟩;rcases ArV (EM x y) 0 with h1|h1|h1
 .exact h1
 .rw[K0.1 h1]at h
  omega
 .have:=VN hy (show EM y x<0 by rw[Nw];omega)
  omega
section
variable {D:Orc} (K:Knows HM XS D) (L:List RL) (hc:∀ x∈L,∀ y∈L,D.ask (.fn 25) [.agg (Da x),.agg (Da y)] []=Θ (iv (EM x y),[]))
include K
def Z5:AV:=.fn (.func 25) [] []
include hc
theorem AgH{x y:RL}(hx:x∈L)(hy:y∈L):∃ n:Int,D.ask (.fn 25) [.agg (Da x),.agg (Da y)] []=Θ (iv n,[])/\(n<0 ↔ Ex L x<Ex L y):=⟨_,hc x hx y hy,Aeq hx hy⟩
theorem AgM(a i:Nat)(b:Int):∀(m j:Nat) (l:List RL),j-a=m->a<=j->j<=i->i<l.length->l.length<=12->(∀ x∈l,x∈L)->SH (Ex L) l a i j->
  ∃ r:List RL,D.ask (.lp 214 1) [.sl 0 0 l.length 4,iv (a:Int),iv b,Z5,iv (i:Int),iv (j:Int)] [θ (Ag Da l) Δ Δ]
   = Θ (.tup [iv 2,.sl 0 0 l.length 4,iv (a:Int),iv b,Z5,iv (i:Int)],[.set (θ (Ag Da r) Δ Δ)])
   ∧ r.length=l.length/\r.Perm l/\Srt (Ex L) r a (i+1):=by
 intro m
 induction m with
 |zero=>
  intro j l hm ha hj hi hl hL hs;obtain rfl:j=a:=by omega
  refine⟨l,?_,rfl,List.Perm.refl _,KA (Ex L) hj hs (.inl rfl)⟩;refine Ax K Fc (Rc ..) ?_;exact Ak rfl
 |succ m ih=>
  intro j l hm ha hj hi hl hL hs;obtain⟨k,rfl⟩:∃ k,j=k+1:=⟨j-1,by omega⟩;have h1:k+1<l.length:=by omega
  have h0:k<l.length:=by omega
  have kf1:kf (Ex L) l (k+1)=Ex L l[k+1]:=EE (Ex L) h1;have kf0:kf (Ex L) l k=Ex L l[k]:=EE (Ex L) h0;obtain⟨n,gc,hn⟩:=AgH K L hc (hL _ (Aqg h1)) (hL _ (Aqg h0));simp only[Da,C5,eT,eN,AqE,Aql]at gc
  by_cases hlt:n<0
  .have hs2:SH (Ex L) (CO l (k+1) k) a i k:=Qu (j:=k+1) (Ex L) hi (by omega) hj hs (by rw[Aq0,kf1,kf0];exact hn.1 hlt)
   have hlen:=Gq l (k+1) k;obtain⟨r,g,hr,hp,ho⟩:=ih k (CO l (k+1) k) (by omega) (by omega) (by omega) (by omega) (by omega) (λx hx=>hL x ((Ej l (k+1) k).mem_iff.1 hx)) hs2;rw[hlen]at g hr;refine⟨r,?_,hr,hp.trans (Ej _ _ _),ho⟩;refine Ax K Fc (Rc ..) ?_;refine Al ?_;rw[GX (by omega),At,AL h1];refine Ac ?_;refine(Bf En l (k+1) h1 _).trans ?_;simp only[Da,C5,eT,eN,AqE,Aql,ND,DK,Aa];rw[At,AL h0];refine Ac ?_;refine(Bf En l k h0 _).trans ?_;simp only[Da,C5,eT,eN,AqE,Aql,ND,DK,Aa];refine Ab gc ?_;simp only[ND,DK,Aa];refine Al ?_ hlt;rw[At,AL h0];refine Ac ?_;refine(Bf En l k h0 _).trans ?_;simp only[Da,C5,eT,eN,AqE,Aql,ND,DK,Aa];rw[At,AL h1];refine Ac ?_;refine(Bf En l (k+1) h1 _).trans ?_;simp only[Da,C5,eT,eN,AqE,Aql,ND,DK,Aa];rw[At,AL h1];refine Ac ?_;have s1:=Co En l (k+1) h1 l[k];have s2:=Co En (l.set (k+1) l[k]) k (by rw[Aqc];exact h0) l[k+1];rw[←Dt h1 h0]at s2;simp only[Da,C5,eT,eN,AqE,Aql]at s1 s2;rw[show Nat.ble (0+(k+1)*4+4) (Ag Da l).length=Δ by rw[AP En];simp;omega];refine Ac ?_;rw[At,AL h0];refine Ac ?_;rw[s1,s2];rw[show Nat.ble (0+k*4+4) (Ag Da (l.set (k+1) l[k])).length=Δ by rw[AP En,Aqc];simp;omega];refine Ac ?_;refine Ab g ?_;rfl
  .refine⟨l,?_,rfl,List.Perm.refl _,KA (Ex L) hj hs (.inr ?_)⟩
   .skip
    refine Ax K Fc (Rc ..) ?_;refine Al ?_;rw[GX (by omega),At,AL h1];refine Ac ?_;refine(Bf En l (k+1) h1 _).trans ?_;simp only[Da,C5,eT,eN,AqE,Aql,ND,DK,Aa];rw[At,AL h0];refine Ac ?_;refine(Bf En l k h0 _).trans ?_;simp only[Da,C5,eT,eN,AqE,Aql,ND,DK,Aa];refine Ab gc ?_;simp only[ND,DK,Aa];exact Ak rfl hlt
   .rw[Aq0,kf1,kf0]
    have:=λh=>hlt (hn.2 h)
    omega
theorem AcG(b:Nat):∀(m i:Nat) (l:List RL),b-i=m->0<i->i<=b->b<=l.length->l.length<=12->(∀ x∈l,x∈L)->Srt (Ex L) l 0 i->
  ∃ r:List RL,D.ask (.lp 214 0) [.sl 0 0 l.length 4,iv ((0:Nat):Int),iv (b:Int),Z5,iv (i:Int)] [θ (Ag Da l) Δ Δ]
   = Θ (.tup [iv 0,.sl 0 0 l.length 4],[.set (θ (Ag Da r) Δ Δ)])
   ∧ r.length=l.length/\r.Perm l/\Srt (Ex L) r 0 b:=by
 intro m
 induction m with
 |zero=>
  intro i l hm ha hi hb hl hL hs;obtain rfl:i=b:=by omega
  refine⟨l,?_,rfl,List.Perm.refl _,hs⟩;refine Ax K Fc (Rb ..) ?_;exact Ak rfl
 |succ m ih=>
  intro i l hm ha hi hb hl hL hs;obtain⟨r,g,hr,hp,ho⟩:=AgM K L hc 0 i (b:Int) _ i l rfl (by omega) (κ _) (by omega) hl hL (OX (Ex L) hs);obtain⟨r2,g2,hr2,hp2,ho2⟩:=ih (i+1) r (by omega) (by omega) (by omega) (by omega) (by omega) (λx hx=>hL x (hp.mem_iff.1 hx)) ho;rw[hr]at g2;refine⟨r2,?_,by omega,hp2.trans hp,ho2⟩;refine Ax K Fc (Rb ..) ?_;refine Al ?_;refine Ab g ?_;simp only[Z5,ND,DK,Aa];refine Ac ?_;rw[BZ (by omega)];refine Ab g2 ?_;rfl
theorem AgN{l:List RL}(hl:l.length<=12)(hL:∀ x∈l,x∈L) :
  ∃ r:List RL,D.ask (.fn 214) [.sl 0 0 l.length 4,iv ((0:Nat):Int),iv (l.length:Int),Z5] [θ (Ag Da l) Δ Δ]=Θ (.tup [],[.set (θ (Ag Da r) Δ Δ)])
   ∧ r.Perm l/\Srt (Ex L) r 0 r.length:=by
 by_cases h:0<l.length
 .obtain⟨r,g,hr,hp,ho⟩:=AcG K L hc l.length _ 1 l rfl (by omega) (by omega) (κ _) hl hL (XN (Ex L) l 0)
  refine⟨r,?_,hp,by rw[hr];exact ho⟩;refine AI K Fc (AhI ..) ?_;rw[BZ (by omega)];refine Ab g ?_;rfl
 .have e0:l=[]:=List.length_eq_zero_iff.1 (by omega)
  subst e0;refine⟨[],?_,List.Perm.refl _,XM (Ex L) [] 0⟩;have g:D.ask (.lp 214 0) [.sl 0 0 0 4,iv ((0:Nat):Int),iv ((0:Nat):Int),Z5,iv ((0+1:Nat):Int)] [θ (Ag Da []) Δ Δ]=Θ (.tup [iv 0,.sl 0 0 0 4],[.set (θ (Ag Da []) Δ Δ)]):=by
   refine Ax K Fc (Rb ..) ?_;exact Ak rfl
  refine AI K Fc (AhI ..) ?_;rw[BZ (by omega)];refine Ab g ?_;rfl
end
section
variable {D:Orc} (K:Knows HM XS D)
include K
theorem AbQ{n:Nat}(hn:n<=12):∃ k:Int,D.ask (.fn 164) [.v (.int .u64 (n:Int))] []=Θ (iv k,[]):=by
 obtain⟨k,hk⟩:∃ k:Int,D.ask (.fn 223) [.v (.int .u64 (n:Int))] []=Θ (iv k,[]):=by
  have:n=0\/n=1\/n=2\/n=3\/n=4\/n=5\/n=6\/n=7\/n=8\/n=9\/n=10\/n=11\/n=12:=by omega
  rcases this with rfl|rfl|rfl|rfl|rfl|rfl|rfl|rfl|rfl|rfl|rfl|rfl|rfl
  .exact⟨0,K.fn' K8 _ rfl ((S5 ..).trans (by kernel_rfl))⟩
  .exact⟨1,K.fn' K8 _ rfl ((S5 ..).trans (by kernel_rfl))⟩
  iterate 2 exact⟨2,K.fn' K8 _ rfl ((S5 ..).trans (by kernel_rfl))⟩
  iterate 4 exact⟨3,K.fn' K8 _ rfl ((S5 ..).trans (by kernel_rfl))⟩
  all_goals exact⟨4,K.fn' K8 _ rfl ((S5 ..).trans (by kernel_rfl))⟩
 exact⟨k,K.fn' Abi _ rfl ((AlK ..).trans ((BP hk _).trans rfl))⟩
theorem AcY{l:List RL}(hl:l.length<=12)(hn:l.Nodup)(hc:∀ x∈l,∀ y∈l,D.ask (.fn 25) [.agg (Da x),.agg (Da y)] []=Θ (iv (EM x y),[])) :
  ∃ r:List RL,D.ask (.fn 90) [.sl 0 0 l.length 4,Z5] [θ (Ag Da l) Δ Δ]=Θ (.tup [],[.set (θ (Ag Da r) Δ Δ)])
   ∧ r.Perm l/\Pk r:=by
 obtain⟨r,g,hp,hs⟩:=AgN K l hc hl λx hx=>hx
 obtain⟨k,hk⟩:=AbQ K hl;have g1:D.ask (.lp 163 0) [.sl 0 0 l.length 4,iv ((0:Nat):Int),iv (l.length:Int),iv k,Z5,bv Δ,bv Δ] [θ (Ag Da l) Δ Δ]=Θ (.tup [bv Δ,.sl 0 0 l.length 4],[.set (θ (Ag Da r) Δ Δ)]):=by
  refine Ax K Rl (Ad7 ..) ?_;rw[EH (by omega) (by omega)];refine CI ?_;refine Ab g ?_;rfl
 refine⟨r,?_,hp,?_⟩
 .refine AI K Aii (Aoy ..) ?_
  rw[A1 (by omega)];refine Ab hk ?_;simp only[ND,DK,Aa];refine Ab (K.fn' Rl _ rfl ((AlJ ..).trans ((BP g1 _).trans rfl))) ?_;rfl
 .have hnr:r.Nodup:=hp.nodup_iff.2 hn
  have hpw:=ES (Ex l) hs;unfold Pk;refine(hpw.and hnr).imp_of_mem λ{x y} hx hy h=>?_
  have hx:=hp.mem_iff.1 hx;have hy:=hp.mem_iff.1 hy;rcases ArV (EM x y) 0 with h1|h1|h1
  .exact h1
  .exact absurd (K0.1 h1) h.2
  .have:=VN (L:=l) hy (show EM y x<0 by rw[Nw];omega)
   omega
theorem Zw:D.ask (.fn 90) [.v (.slice Ξ 0 0),Z5] []=Θ (.tup [],[]):=by
 obtain⟨k,hk⟩:=AbQ (n:=0) K (by omega);have g0:D.ask (.lp 214 0) [.v (.slice Ξ 0 0),iv 0,iv 0,Z5,iv 1] []=Θ (.tup [iv 0,.v (.slice Ξ 0 0)],[]):=
  K.lp' MP _ rfl (by kernel_rfl) ((AaK ..).trans ((C3 (by omega)).trans rfl))
 have g:D.ask (.fn 214) [.v (.slice Ξ 0 0),iv 0,iv 0,Z5] []=Θ (.tup [],[]):=
  K.fn' MP _ rfl ((AjD ..).trans ((BP g0 _).trans rfl))
 have g1:D.ask (.lp 163 0) [.v (.slice Ξ 0 0),iv 0,iv 0,iv k,Z5,bv Δ,bv Δ] []=Θ (.tup [bv Δ,.v (.slice Ξ 0 0)],[]):=
  K.lp' MN _ rfl (by kernel_rfl) ((AaD ..).trans ((KW (by decide)).trans ((BP g _).trans rfl)))
 refine AI K Abr (Al4 ..) ?_;refine Ab hk ?_;simp only[ND,DK,Aa];refine Ab (K.fn' MN _ rfl ((AjC ..).trans ((BP g1 _).trans rfl))) ?_;rfl
end
section
variable {D:Orc} (Kt:Knows Av Fj D) (Kf:Knows Av KF D) (Ks:Knows Av DY D) (Z:ZF D) (C:PartF D)  (Kl:Knows Av KE D)
include Kl
theorem Agz(a b:Int):D.ask (.lp 82 0) [iv 0,.ls [[iv a],[iv b]],iv 2,iv 2] []=Θ (.tup [iv 0,iv 0],[]):=by
 refine Ax Kl YE (AaT ..) ?_;exact Ak rfl
theorem AgA(a b:Int):D.ask (.lp 82 0) [iv 0,.ls [[iv a],[iv b]],iv 2,iv 1] []=Θ (if b=0 then .tup [iv 0,iv 0] else .tup [bv Δ,iv b],[]):=by
 refine Ax Kl YE (AaT ..) ?_;refine Al ?_
 show br (Ad.eq b 0) _ _=_
 by_cases h:b=0
 .refine BF ?_ h
  rw[if_pos h];refine Ab (Agz Kl a b) ?_;rfl
 .rw[if_neg h]
  exact Bm rfl h
theorem V4(a b:Int):D.ask (.fn 82) [.ls [[iv a],[iv b]]] []=Θ (iv (HL a b),[]):=by
 have g:D.ask (.lp 82 0) [iv 0,.ls [[iv a],[iv b]],iv 2,iv 0] []=Θ (if HL a b=0 then .tup [iv 0,iv 0] else .tup [bv Δ,iv (HL a b)],[]):=by
  refine Ax Kl YE (AaT ..) ?_;refine Al ?_
  show br (Ad.eq a 0) _ _=_
  unfold HL
  by_cases h:a=0
  .refine BF ?_ h
   rw[if_pos h];refine Ab (AgA Kl a b) ?_
   by_cases h2:b=0
   .rw[if_pos h2];rfl
   .rw[if_neg h2];rfl
  .rw[if_neg h,if_neg h]
   exact Bm rfl h
 refine AI Kl YE (e82 ..) ?_;refine Ab g ?_
 by_cases h:HL a b=0
 .rw[if_pos h,h];rfl
 .rw[if_neg h];rfl
include Ks Z
theorem Ad2{p q:Pt}(hp:Lz 1000000000 p.z)(hq:Lz 1000000000 q.z):D.ask (.fn 154) [.agg (eP p),.agg (eP q)] []=Θ (iv (JP (pv p) (pv q)),[]):=by
 have g1:=Q5 Ks p.v q.v;have g2:=Z.cmp p.z q.z hp hq;obtain⟨a,n,x⟩:=p;obtain⟨b,m,y⟩:=q;refine AI Kl Ah6 (An9 ..) ?_;refine Ab g1 ?_;simp only[ND,DK,Aa];refine Ab g2 ?_;simp only[ND,DK,Aa];refine Ab (V4 Kl _ _) ?_;rfl
theorem Ad4{a b:List Pt}(la:a.length<=1000000)(lb:b.length<=1000000)(ha:∀ p∈a,Lz 1000000000 p.z)(hb:∀ p∈b,Lz 1000000000 p.z):∀(m i:Nat),a.length-i=m->i<=a.length->D.ask (.lp 156 0) [.ls (a.map eP),.ls (b.map eP),.fn (.func 154) [] [],.ls (a.map eP),iv (a.length:Int),iv (i:Int)] []=Θ (match Je ((a.drop i).map pv) ((b.drop i).map pv) with|some n=>.tup [bv Δ,iv n] | none=>.tup [iv 0,.ls (a.map eP),.ls (b.map eP)],[]):=by
 intro m
 induction m with
 |zero=>
  intro i hm hi;rw[Aqd (by omega)];refine Ax Kl Ts (AaC ..) ?_;exact Ak rfl
 |succ m ih=>
  intro i hm hi;have h1:i<a.length:=by omega
  have ih:=ih (i+1) (by omega) (by omega);rw[ApV h1,Ap5];refine Ax Kl Ts (AaC ..) ?_;refine Al ?_;rw[At,AB (φ h1)];simp only[eP,eN,ND,DK,Aa];rw[Aw]
  by_cases h2:b.length<=i
  .refine CI ?_
   rw[Aqd h2];rfl
  .have h2:i<b.length:=by omega
   refine DA ?_;rw[At,AB (φ h2)];simp only[eP,eN,ND,DK,Aa];have gc:=Ad2 Ks Z Kl (ha _ (Aqg h1)) (hb _ (Aqg h2));refine Ab gc ?_;simp only[ND,DK,Aa];rw[ApV h2,Ap5,Je]
   by_cases h3:JP (pv a[i]) (pv b[i])=0
   .refine BF ?_ h3
    rw[if_pos h3,BZ (by omega)];refine Ab ih ?_
    cases Je ((a.drop (i+1)).map pv) ((b.drop (i+1)).map pv)<;>rfl
   .rw[if_neg h3]
    exact Bm rfl h3
theorem Aau{a b:List Pt}(la:a.length<=1000000)(lb:b.length<=1000000)(ha:∀ p∈a,Lz 1000000000 p.z)(hb:∀ p∈b,Lz 1000000000 p.z):D.ask (.fn 156) [.ls (a.map eP),.ls (b.map eP),.fn (.func 154) [] []] []=Θ (iv (JO (a.map pv) (b.map pv)),[]):=by
 refine AI Kl Ts (Aob ..) ?_;rw[Aw];refine Ab (Ad4 Ks Z Kl la lb ha hb _ 0 rfl (by omega)) ?_;rw[Ap4,Ap4];unfold JO
 cases Je (a.map pv) (b.map pv) with
 |some n=>rfl
 |none=>
  simp only[ND,DK,Aa]
  show br (Ad.lt _ _) _ _=_
  rw[Aw,Aw];simp only[Ap1]
  by_cases h:a.length<b.length
  .refine Al ?_
   rw[if_pos h]
  .refine Ak ?_
   rw[if_neg h]
include Kt C
theorem WK{n k:Nat}{t u:Tm}(ht:TmB n k t)(hu:TmB n k u)(hn:n<=1000000)(hk:k+n<=900000000):D.ask (.fn 83) [.agg (eT t),.agg (eT u)] []=Θ (iv (Q6 t.lf.pln u.lf.pln),[]):=by
 have g1:=EB Kt Ks Z C ht hn hk;have g2:=EB Kt Ks Z C hu hn hk;have b1:=ht.lb.pln.tb;have b2:=hu.lb.pln.tb;have e1:(t.lf.pln.tm.ps).map pv=t.lf.pln.ps:=congrArg Lf.ps (BS t.lf.pln);have e2:(u.lf.pln.tm.ps).map pv=u.lf.pln.ps:=congrArg Lf.ps (BS u.lf.pln);have k1:zv t.lf.pln.tm.k=t.lf.pln.k:=congrArg Lf.k (BS t.lf.pln);have k2:zv u.lf.pln.tm.k=u.lf.pln.k:=congrArg Lf.k (BS u.lf.pln);have g3:=Aau Ks Z Kl (a:=t.lf.pln.tm.ps) (b:=u.lf.pln.tm.ps) (Aqs b1.len hn) (Aqs b2.len hn) (λp hp=>(b1.ps p hp).mono (by omega)) (λp hp=>(b2.ps p hp).mono (by omega));have g4:=Z.cmp t.lf.pln.tm.k u.lf.pln.tm.k (b1.k.mono (by omega)) (b2.k.mono (by omega));rw[e1,e2]at g3;rw[k1,k2]at g4;unfold Q6;revert g1 g2 g3 g4;generalize t.lf.pln.tm=x;generalize u.lf.pln.tm=y;intro g1 g2 g3 g4;obtain⟨tp,tz⟩:=t;obtain⟨up,uz⟩:=u;obtain⟨xp,xn,xa⟩:=x;obtain⟨yp,yn,ya⟩:=y;refine AI Kl Amm (e83 ..) ?_;refine Ab g1 ?_;simp only[eT,eN,ND,DK,Aa];refine Ab g2 ?_;simp only[eT,eN,ND,DK,Aa];refine Ab g3 ?_;simp only[ND,DK,Aa];refine Ab g4 ?_;simp only[ND,DK,Aa];refine Ab (V4 Kl _ _) ?_;rfl
theorem Qr{n k:Nat}{t u:Tm}(ht:TmB n k t)(hu:TmB n k u)(hn:n<=1000000)(hk:k+n<=900000000)(e f:Bool):D.ask (.fn 25) [.agg (eT t++[bv e]),.agg (eT u++[bv f])] []=Θ (iv (U7 t.lf.pln u.lf.pln e f),[]):=by
 have g1:=WK Kt Ks Z C Kl ht hu hn hk;have gr:∀(t:Tm) (e:Bool),D.ask (.fn 85) [.agg (eT t++[bv e])] []=Θ (iv (Ua e),[]):=by
  rintro⟨p,z⟩ e;refine AI Kl Amo (e85 ..) ?_
  cases e<;>rfl
 unfold U7;revert g1;generalize Q6 t.lf.pln u.lf.pln=c;intro g1;have r1:=gr t e;have r2:=gr u f;obtain⟨tp,tz⟩:=t;obtain⟨up,uz⟩:=u;refine AI Kl Amd (e25 ..) ?_;refine Ab g1 ?_;simp only[ND,DK,Aa];refine Ab r1 ?_;simp only[ND,DK,Aa];refine Ab r2 ?_;simp only[ND,DK,Aa];refine Ab (Q5 Ks _ _) ?_;simp only[ND,DK,Aa];refine Ab (V4 Kl _ _) ?_;rfl
end
def eO(o:Option Int):List AV:=eZ (Ap (o.getD 0))
def D4(x:Ln):List AV:=eT (Lf.tm ⟨x.ps,0⟩)++(eO x.lo++(eO x.hi++[bv x.lo.isSome,bv x.hi.isSome]))
def OB(k:Nat)(o:Option Int):Prop:=∀ n,o=Θ n->InB k n
structure LnB (n k:Nat) (x:Ln):Prop where
 pln:Pln x.ps
 lb:LB n k ⟨x.ps,0⟩
 lo:OB k x.lo
 hi:OB k x.hi
theorem XP{ps:List (Int × Int)}(h:Pln ps)(k a:Int):(⟨ps,k⟩:Lf).sub (Lf.num a)=⟨ps,k-a⟩:=by
 have e:(Lf.num a).scale (-1)=⟨[],-a⟩:=IF (l:=Lf.num a) RV;unfold Lf.sub;rw[e]
 show (⟨AC (ps++[]),k + -a⟩:Lf)=_
 rw[Aq9,BV h];rfl
theorem Agy{ps:List (Int × Int)}(h:Pln ps)(k a:Int):(Lf.num a).sub ⟨ps,k⟩=⟨negP ps,a-k⟩:=by
 have e:(⟨ps,k⟩:Lf).scale (-1)=⟨negP ps,-k⟩:=IF (l:=⟨ps,k⟩) h;unfold Lf.sub;rw[e]
 show (⟨AC ([]++negP ps),a + -k⟩:Lf)=_
 rw[Aql,BV (DU h)];rfl
theorem RW{ps:List (Int × Int)}(h:Pln ps)(k:Int):(⟨ps,k⟩:Lf).pln=⟨ps,k⟩:=by
 unfold Lf.pln;rw[BV h]
theorem V0{k:Nat}{a:Int}(h:InB k a):TmB 0 k (Lf.num a).tm:=LB.tb ⟨κ _,(λp hp=>nomatch hp),h⟩
section
variable {D:Orc} (Kt:Knows Av Fj D) (Kf:Knows Av KF D) (Ks:Knows Av DY D) (Z:ZF D) (C:PartF D) (Kl:Knows Av KE D) (Kd:Knows Av QA D)
include Kd Z
theorem AbT{k:Nat}(hk:k<=1000000000)(x:Ln){n:Int}(hn:InB k n)(hx:OB k x.lo):D.ask (.fn 160) [.ptr 0 0,.agg (eZ (Ap n))] [bk (D4 x)]=Θ (.tup [],[.set (bk (D4 (IJ n x)))]):=by
 obtain⟨ps,lo,hi⟩:=x;refine AI Kd Aia (Aoe ..) ?_
 cases lo with
 |none=>rfl
 |some m=>
  have g:=Z.cmp (Ap n) (Ap m) ((hn.lz).mono hk) (((hx m rfl).lz).mono hk);rw[AU,AU]at g
  show br Φ _ _=_
  refine B1 ?_;refine Ab g ?_;simp only[ND,DK,Aa]
  by_cases h:m<n
  .refine Al ?_ (by unfold Cr;rw[if_neg (by omega),if_pos h];decide)
   unfold IJ Px;simp only[if_pos h];rfl
  .refine Ak ?_ (by unfold Cr;split<;>(try split)<;>omega)
   unfold IJ Px;simp only[if_neg h];rfl
theorem Qd{k:Nat}(hk:k<=1000000000)(x:Ln){n:Int}(hn:InB k n)(hx:OB k x.hi):D.ask (.fn 162) [.ptr 0 0,.agg (eZ (Ap n))] [bk (D4 x)]=Θ (.tup [],[.set (bk (D4 (FD n x)))]):=by
 obtain⟨ps,lo,hi⟩:=x;refine AI Kd Aic (Aog ..) ?_
 cases hi with
 |none=>rfl
 |some m=>
  have g:=Z.cmp (Ap n) (Ap m) ((hn.lz).mono hk) (((hx m rfl).lz).mono hk);rw[AU,AU]at g
  show br Φ _ _=_
  refine B1 ?_;refine Ab g ?_;simp only[ND,DK,Aa]
  by_cases h:n<m
  .refine Al ?_ (by unfold Cr;rw[if_pos h];decide)
   unfold FD mnO;simp only[if_pos h];rfl
  .refine Ak ?_ (by unfold Cr;split<;>(try split)<;>omega)
   unfold FD mnO;simp only[if_neg h];rfl
include Kt Kf Ks C Kl
theorem Acp{n k:Nat}{t u:Tm}(ht:TmB n k t)(hu:TmB n k u)(hn:n<=1000000)(hk:k+n<=900000000):D.ask (.fn 213) [.agg (eT t),.agg (eT u)] []=Θ (bv (decide (Q6 t.lf.pln u.lf.pln=0)),[]):=by
 have g:=WK Kt Ks Z C Kl ht hu hn hk;refine AI Kd Aih (Aos ..) ?_;refine Ab g ?_;simp only[ND,DK,Aa]
 by_cases h:Q6 t.lf.pln u.lf.pln=0
 .rw[decide_eq_true h]
  exact D9 h
 .rw[decide_eq_false h]
  exact Cj h
omit Kl Kd in
theorem AoP{n k:Nat}{ps:List (Int × Int)}{u:Int}(hp:Pln ps)(lb:LB n k ⟨ps,0⟩)(hu:InB k u)(hn:n<=100000)(hk:k<=1000000):D.ask (.fn 127) [.agg (eT (Lf.tm ⟨ps,0⟩)),.agg (eT (Lf.num u).tm)] []=Θ (.agg (eT (Lf.tm ⟨ps,-u⟩)),[]):=by
 have g:=Wn Kt Kf Ks Z C lb.tb (V0 hu) (by omega) (by omega);rw[BS,BS,XP hp,Int.zero_sub]at g;exact g
omit Kl Kd in
theorem AoQ{n k:Nat}{ps:List (Int × Int)}{u:Int}(hp:Pln ps)(lb:LB n k ⟨ps,0⟩)(hu:InB k u)(hn:n<=100000)(hk:k<=1000000):D.ask (.fn 127) [.agg (eT (Lf.num u).tm),.agg (eT (Lf.tm ⟨ps,0⟩))] []=Θ (.agg (eT (Lf.tm ⟨negP ps,u⟩)),[]):=by
 have g:=Wn Kt Kf Ks Z C (V0 hu) lb.tb (by omega) (by omega);rw[BS,BS,Agy hp,Int.sub_zero]at g;exact g
omit Kl Kd in
theorem AbN{n k:Nat}{ps:List (Int × Int)}{u:Int}(hp:Pln ps)(lb:LB n k ⟨ps,u⟩)(hn:n<=100000)(hk:k<=1000000):D.ask (.fn 28) [.agg (eT (Lf.tm ⟨ps,u⟩))] []=Θ (.agg (Da (⟨ps,u⟩,Φ)),[]):=by
 have g:=AbO Kt Kf Ks Z C lb.tb (by omega) (by omega);rw[BS,RW hp]at g;exact g
omit Kl Kd in
theorem AnA{n k:Nat}{ps:List (Int × Int)}{u:Int}(hp:Pln ps)(lb:LB n k ⟨ps,u⟩)(hn:n<=100000)(hk:k<=1000000):D.ask (.fn 27) [.agg (eT (Lf.tm ⟨ps,u⟩))] []=Θ (.agg (Da (⟨ps,u⟩,Δ)),[]):=by
 have g:=AhD Kt Kf Ks Z C lb.tb (by omega) (by omega);rw[BS,RW hp]at g;exact g
def OG(x:Ln):AV:=match FL x with
 |none=>.tup [.ls [],bv Φ]
 |some l=>.tup [.ls (l.map Da),bv Δ]
omit Kl in
theorem YN{n k:Nat}{x:Ln}(hx:LnB n k x)(hn:n<=100000)(hk:k<=1000000):D.ask (.fn 89) [.ptr 0 0] [bk (D4 x)]=Θ (OG x,[.set (bk (D4 x))]):=by
 obtain⟨hp,lb,hlo,hhi⟩:=hx;have lbk:∀{a},InB k a->LB n k ⟨x.ps,a⟩:=λh=>⟨lb.len,lb.ps,h⟩
 have lbn:∀{a},InB k a->LB n k ⟨negP x.ps,a⟩:=λh=>⟨by show (List.map _ _).length<=n;rw[Ap1];exact lb.len,λp hp=>by
  obtain⟨q,hq,rfl⟩:=Aqm.1 hp;exact(lb.ps q hq).neg,h⟩
 have gn:∀{a},InB k a->D.ask (.fn 125) [.agg (eZ (Ap a))] []=Θ (.agg (eT (Lf.num a).tm),[]):=λ{a} h=>by
  have:=Qm Kt Kf Z (h.lz.mono (by omega));rw[AU]at this;exact this
 have g1:∀{u},InB k u->_:=λ{u} h=>AoP Kt Kf Ks Z C hp lb h hn hk
 have g2:∀{u},InB k u->_:=λ{u} h=>AoQ Kt Kf Ks Z C hp lb h hn hk
 have gl:∀{u},InB k u->_:=λ{u} h=>AbN Kt Kf Ks Z C hp (lbk h.neg) hn hk
 have gm:∀{u},InB k u->_:=λ{u} h=>AbN Kt Kf Ks Z C (DU hp) (lbn h) hn hk
 have gz:∀{u},InB k u->_:=λ{u} h=>AnA Kt Kf Ks Z C hp (lbk h.neg) hn hk
 simp only[eT,eZ,eN,Da,C5,AqE,Aql]at gn g1 g2 gl gm gz;obtain⟨ps,lo,hi⟩:=x;refine AI Kd Amp (e89 ..) ?_;unfold OG FL
 cases lo with
 |none=>
  refine B1 ?_;refine B1 ?_;refine B1 ?_;refine B1 ?_;refine B1 ?_;refine B1 ?_
  cases hi with
  |none=>exact B1 rfl
  |some v=>
   have hv:=hhi v rfl;refine Ac ?_;refine Ab (gn hv) ?_;simp only[ND,DK,Aa];refine Ab (g2 hv) ?_;simp only[ND,DK,Aa];refine Ab (gm hv) ?_;rfl
 |some u=>
  have hu:=hlo u rfl;refine Ac ?_;refine Ac ?_;refine Ac ?_;refine Ac ?_;refine Ac ?_
  cases hi with
  |none=>
   refine B1 ?_;refine Ac ?_;refine Ab (gn hu) ?_;simp only[ND,DK,Aa];refine Ab (g1 hu) ?_;simp only[ND,DK,Aa];refine Ab (gl hu) ?_;simp only[ND,DK,Aa];exact B1 rfl
  |some v=>
   have hv:=hhi v rfl;have gc:=Z.cmp (Ap u) (Ap v) (hu.lz.mono (by omega)) (hv.lz.mono (by omega));rw[AU,AU]at gc;refine Ac ?_;refine Ab gc ?_;simp only[ND,DK,Aa]
   by_cases h1:v<u
   .rw[if_pos h1]
    exact BF rfl (by unfold Cr;rw[if_neg (by omega),if_pos h1])
   rw[if_neg h1];refine Bm ?_ (by unfold Cr;split<;>(try split)<;>omega)
   by_cases h2:u=v
   .rw[if_pos h2]
    refine BF ?_ (by unfold Cr;split<;>(try split)<;>omega);refine Ab (gn hu) ?_;simp only[ND,DK,Aa];refine Ab (g1 hu) ?_;simp only[ND,DK,Aa];refine Ab (gz hu) ?_;rfl
   .rw[if_neg h2]
    refine Bm ?_ (by unfold Cr;split<;>(try split)<;>omega);refine Ac ?_;refine Ab (gn hu) ?_;simp only[ND,DK,Aa];refine Ab (g1 hu) ?_;simp only[ND,DK,Aa];refine Ab (gl hu) ?_;simp only[ND,DK,Aa];refine Ac ?_;refine Ab (gn hv) ?_;simp only[ND,DK,Aa];refine Ab (g2 hv) ?_;simp only[ND,DK,Aa];refine Ab (gm hv) ?_;rfl
