/- Sums of variables, each -/
import Derived.Test.YtmbfbclboenajaaGreatFAX
set_option linter.all false
open Bool renaming false->Φ,true->Δ,false_or->Atq
open Int renaming le_refl->AtF,lt_trichotomy->AsO,natAbs_natCast->AsK
open List renaming append_assoc->AqY,append_nil->ArB,drop->AqT,drop_append->AtT,drop_eq_getElem_cons->κ,drop_eq_nil_of_le->AqX,drop_of_length_le->Atn,drop_zero->AqQ,ext_getElem?->Aup,filter_cons->AsZ,findIdx_cons->AsP,foldl_cons->Asn,getElem?_drop->ArU,getElem?_eq_getElem->ξ,getElem?_eq_none->ArZ,getElem?_set_ne->Ar6,getElem?_set_self->Ash,getElem?_take->Aro,getElem_mem->Arc,length_append->υ,length_cons->AqR,length_map->Aq7,length_set->Are,length_singleton->Ari,length_take->Aq9,map_cons->Aq8,mem_cons->AqU,mem_cons_of_mem->ο,mem_cons_self->AqS,mem_filter->Aso,mem_iff_getElem?->At8,mem_map->Arj,mem_reverse->Att,mem_singleton->Arh,pairwise_cons->Arx,pairwise_map->AsR,pairwise_singleton->AsF,reverse_cons->Atk,take->ε,take_append->AtW,take_append_drop->ArW,take_left'->AsE,take_of_length_le->ArS
open Nat renaming add_mul->Art,add_sub_cancel->Ar1,add_zero->ArG,ble->AqZ,ble_eq_true_of_le->As8,dvd_mul_left->AtX,dvd_refl->AuW,dvd_sub->Aux,dvd_trans->AuQ,dvd_zero->AuX,gcd->Asi,le_of_dvd->Aue,le_refl->π,min_eq_left->ArH,min_eq_right->At0,one_mul->Ar9,strongRecOn->Asp,zero_add->Ara,zero_le->ArC,zero_mul->Asm
open Option renaming some->Θ
namespace Go.Proofs.YtmbfbclboenajaaGreat
open ABlk renaming mk->θ
open AV renaming agg->φ,ls->Ψ,ptr->η,tup->γ
open BO renaming set->AqV
open Go.RowKit
def Bk(v:Int):List (Int × Int)->Int
 |[]=>0
 |p::r=>(if p.1=v then p.2 else 0)+Bk v r
theorem Fg{v:Int}:∀{l:List (Int × Int)},(∀ p∈l,p.1≠v)->Bk v l=0
 |[],_=>rfl
 |p::r,h=>by
  rw[Bk,if_neg (h p (AqS ..)),Fg λq hq=>h q (ο _ hq)];rfl
theorem N8{v:Int}{a b:List (Int × Int)}(h:a.Perm b):Bk v a=Bk v b:=by
 induction h with
 |nil=>rfl
 |cons x _ ih=>rw[Bk,Bk,ih]
 |swap x y l=>rw[Bk,Bk,Bk,Bk];omega
 |trans _ _ ih1 ih2=>rw[ih1,ih2]
structure Pln (l:List (Int × Int)):Prop where
 asc:l.Pairwise λa b=>a.1<b.1
 pos:∀ p∈l,0<=p.1
 nz:∀ p∈l,p.2≠0
theorem Su:Pln []:=⟨.nil,by simp,by simp⟩
theorem Pln.tail{p:Int × Int}{r:List (Int × Int)}(h:Pln (p::r)):Pln r:=⟨(Arx.1 h.asc).2,λq hq=>h.pos q (ο _ hq),λq hq=>h.nz q (ο _ hq)⟩
theorem Pln.head{p:Int × Int}{r:List (Int × Int)}(h:Pln (p::r)):Bk p.1 (p::r)=p.2:=by
 rw[Bk,if_pos rfl,Fg λq hq=>by have:=(Arx.1 h.asc).1 q hq;omega];omega
theorem Pln.below{p:Int × Int}{r:List (Int × Int)}(h:Pln (p::r)){v:Int}(hv:v<p.1):Bk v (p::r)=0:=by
 refine Fg λq hq=>?_
 rcases AqU.1 hq with rfl|hq
 .omega
 .have:=(Arx.1 h.asc).1 q hq
  omega
theorem Pln.ext:∀{a b:List (Int × Int)},Pln a->Pln b->(∀ v,Bk v a=Bk v b)->a=b
 |[],[],_,_,_=>rfl
 |[],q::s,_,hb,h=>by
  have h1:=hb.head;rw[←h q.1]at h1;exact absurd h1.symm (hb.nz q (AqS ..))
 |p::r,[],ha,_,h=>by
  have h1:=ha.head;rw[h p.1]at h1;exact absurd h1.symm (ha.nz p (AqS ..))
 |p::r,q::s,ha,hb,h=>by
  have h1:=ha.head;have h2:=hb.head;have n1:=ha.nz p (AqS ..);have n2:=hb.nz q (AqS ..);have e:p.1=q.1:=by
   rcases AsO p.1 q.1 with h3|h3|h3
   .rw[h p.1,hb.below h3]at h1
    exact absurd h1.symm n1
   .exact h3
   .rw[←h q.1,ha.below h3]at h2
    exact absurd h2.symm n2
  have e2:p.2=q.2:=by rw[←h1,←h2,h p.1,e]
  have ep:p=q:=Prod.ext e e2;rw[ep,Pln.ext ha.tail hb.tail λv=>by
   have:=h v;rw[Bk,Bk,ep]at this;omega]
def KB(v c:Int):List (Int × Int)->List (Int × Int)
 |[]=>if c=0 then [] else [(v,c)]
 |p::r=>if v<p.1 then(if c=0 then p::r else(v,c)::p::r) else if p.1<v then p::KB v c r else if p.2+c=0 then r else(v,p.2+c)::r
theorem LQ(v c u:Int):∀ l:List (Int × Int),Bk u (KB v c l)=(if v=u then c else 0)+Bk u l
 |[]=>by
  unfold KB;split
  .rename_i h;simp[Bk,h]
  .simp[Bk]
 |p::r=>by
  have ih:=LQ v c u r;unfold KB;split
  .split
   .rename_i h;rw[h];simp
   .rfl
  .split
   .rw[Bk,ih,Bk];omega
   .have e:p.1=v:=by omega
    split
    .rename_i h
     rw[Bk,e];split<;>omega
    .rw[Bk,Bk,e]
     split<;>omega
theorem Ud{v c:Int}:∀{l:List (Int × Int)} {q:Int × Int},q∈KB v c l->q.1=v\/q∈l
 |[],q,h=>by
  unfold KB at h;split at h
  .exact .inr h
  .rw[Arh.1 h];exact .inl rfl
 |p::r,q,h=>by
  unfold KB at h;split at h
  .split at h
   .exact .inr h
   .rcases AqU.1 h with h|h
    .rw[h];exact .inl rfl
    .exact .inr h
  .split at h
   .rcases AqU.1 h with h|h
    .rw[h];exact .inr (AqS ..)
    .rcases Ud h with h|h
     .exact .inl h
     .exact .inr (ο _ h)
   .split at h
    .exact .inr (ο _ h)
    .rcases AqU.1 h with h|h
     .rw[h];exact .inl rfl
     .exact .inr (ο _ h)
theorem Ue{v c:Int}(hv:0<=v):∀{l:List (Int × Int)},Pln l->Pln (KB v c l)
 |[],_=>by
  unfold KB;split
  .exact Su
  .rename_i h
   exact⟨AsF _ _,by simpa using hv,by simpa using h⟩
 |p::r,h=>by
  have ih:=Ue (c:=c) hv h.tail;have hp:=Arx.1 h.asc;unfold KB;split
  .rename_i h1
   split
   .exact h
   .rename_i h2
    refine⟨Arx.2 ⟨λq hq=>?_,h.asc⟩,λq hq=>?_,λq hq=>?_⟩
    .rcases AqU.1 hq with rfl|hq
     .exact h1
     .have:=hp.1 q hq;simp only;omega
    .rcases AqU.1 hq with rfl|hq
     .exact hv
     .exact h.pos q hq
    .rcases AqU.1 hq with rfl|hq
     .exact h2
     .exact h.nz q hq
  .split
   .rename_i h1 h2
    refine⟨Arx.2 ⟨λq hq=>?_,ih.asc⟩,λq hq=>?_,λq hq=>?_⟩
    .rcases Ud hq with e|hq
     .rw[e];exact h2
     .exact hp.1 q hq
    .rcases AqU.1 hq with rfl|hq
     .exact h.pos _ (AqS ..)
     .exact ih.pos q hq
    .rcases AqU.1 hq with rfl|hq
     .exact h.nz _ (AqS ..)
     .exact ih.nz q hq
   .rename_i h1 h2
    split
    .exact h.tail
    .rename_i h3
     refine⟨Arx.2 ⟨λq hq=>?_,hp.2⟩,λq hq=>?_,λq hq=>?_⟩
     .have:=hp.1 q hq;simp only;omega
     .rcases AqU.1 hq with rfl|hq
      .exact hv
      .exact h.tail.pos q hq
     .rcases AqU.1 hq with rfl|hq
      .exact h3
      .exact h.tail.nz q hq
def AO:List (Int × Int)->List (Int × Int)
 |[]=>[]
 |p::r=>if 0<=p.1 then KB p.1 p.2 (AO r) else AO r
theorem C5:∀ l:List (Int × Int),Pln (AO l)
 |[]=>Su
 |p::r=>by
  unfold AO;split
  .rename_i h;exact Ue h (C5 r)
  .exact C5 r
theorem JO(v:Int):∀ l:List (Int × Int),Bk v (AO l)=if 0<=v then Bk v l else 0
 |[]=>by simp[AO,Bk]
 |p::r=>by
  have ih:=JO v r;unfold AO
  by_cases h:0<=p.1
  .by_cases hv:0<=v
   .rw[if_pos h,LQ,ih,Bk,if_pos hv,if_pos hv]
   .rw[if_pos h,LQ,ih,if_neg hv,if_neg hv,if_neg (by omega)]
    rfl
  .by_cases hv:0<=v
   .rw[if_neg h,ih,Bk,if_pos hv,if_pos hv,if_neg (show ¬ p.1=v by omega)]
    omega
   .rw[if_neg h,ih,if_neg hv,if_neg hv]
theorem O7{l r:List (Int × Int)}(h:Pln r)(hc:∀ v,0<=v->Bk v r=Bk v l):r=AO l:=by
 refine Pln.ext h (C5 l) λv=>?_
 rw[JO]
 by_cases hv:0<=v
 .rw[if_pos hv,hc v hv]
 .rw[if_neg hv]
  refine Fg λp hp e=>?_
  have:=h.pos p hp;omega
theorem B7{l:List (Int × Int)}(h:Pln l):AO l=l:=(O7 h λ_ _=>rfl).symm
theorem Gr:∀ l:List (Int × Int),(AO l).length<=l.length
 |[]=>π _
 |p::r=>by
  have ih:=Gr r;have ins:∀ l:List (Int × Int),(KB p.1 p.2 l).length<=l.length+1:=λl=>by
   induction l with
   |nil=>unfold KB;split<;>simp
   |cons q s ih=>
    unfold KB;split
    .split<;>simp
    .split
     .simpa using ih
     .split
      .simp;omega
      .simp
  unfold AO;split
  .have:=ins (AO r)
   rw[AqR];omega
  .rw[AqR]
   omega
section
variable {α:Type} (key:α->Int)
def kf(l:List α)(p:Nat):Int:=match l[p]? with
 |some x=>key x
 |none=>0
theorem EN{l:List α}{p:Nat}(h:p<l.length):kf key l p=key l[p]:=by
 unfold kf;rw[ξ h]
def C2(l:List α)(i j:Nat):List α:=match l[i]?,l[j]? with
 |some x,Θ y=>(l.set i y).set j x
 |_,_=>l
theorem DH{l:List α}{i j:Nat}(hi:i<l.length)(hj:j<l.length):C2 l i j=(l.set i l[j]).set j l[i]:=by
 unfold C2;rw[ξ hi,ξ hj]
theorem Gz(l:List α)(i j:Nat):(C2 l i j).length=l.length:=by
 unfold C2;split<;>simp
theorem XE{l:List α}{i j:Nat}(hi:i<l.length)(hj:j<l.length)(p:Nat):kf key (C2 l i j) p=if p=j then kf key l i else if p=i then kf key l j else kf key l p:=by
 rw[DH hi hj];unfold kf
 by_cases h1:p=j
 .subst h1
  rw[if_pos rfl,Ash (by simpa using hj),ξ hi]
 .rw[if_neg h1,Ar6 (λe=>h1 e.symm)]
  by_cases h2:p=i
  .subst h2
   rw[if_pos rfl,Ash hi,ξ hj]
  .rw[if_neg h2,Ar6 (λe=>h2 e.symm)]
theorem Ew(l:List α)(i j:Nat):(C2 l i j).Perm l:=by
 by_cases hi:i<l.length
 .by_cases hj:j<l.length
  .rw[DH hi hj]
   have:=Array.swap_perm (xs:=l.toArray) (i:=i) (j:=j) (by simpa using hi) (by simpa using hj);have h2:=this.toList;simpa[Array.swap]using h2
  .unfold C2
   rw[ArZ (show l.length<=j by omega)];split
   .rename_i h;cases h
   .exact List.Perm.refl _
 .unfold C2
  rw[ArZ (show l.length<=i by omega)]
theorem Aae{l:List α}{i j p:Nat}(h1:p≠i)(h2:p≠j):(C2 l i j)[p]? = l[p]?:=by
 unfold C2;split
 .rw[Ar6 (λe=>h2 e.symm),Ar6 (λe=>h1 e.symm)]
 .rfl
def Srt(l:List α)(a b:Nat):Prop:=∀ p q,a<=p->p<q->q<b->kf key l p<=kf key l q
def Tf(l:List α)(a i j:Nat):Prop:=∀ p q,a<=p->p<q->q<=i->q≠j->kf key l p<=kf key l q
def Same0(l r:List α)(a b:Nat):Prop:=∀ p,(p<a\/b<=p)->r[p]? = l[p]?
theorem Do(l:List α)(a b:Nat):Same0 l l a b:=λ_ _=>rfl
theorem Same0.trans{l r s:List α}{a b:Nat}(h1:Same0 l r a b)(h2:Same0 r s a b):Same0 l s a b:=λp hp=>(h2 p hp).trans (h1 p hp)
theorem Same0.wide{l r:List α}{a b c d:Nat}(h1:Same0 l r a b)(hc:c<=a)(hd:b<=d):Same0 l r c d:=λp hp=>h1 p (by omega)
theorem Same0.kf{l r:List α}{a b p:Nat}(h:Same0 l r a b)(hp:p<a\/b<=p):kf key r p=kf key l p:=by
 unfold Go.Proofs.YtmbfbclboenajaaGreat.kf;rw[h p hp]
theorem Aaf{l:List α}{i j a b:Nat}(h1:a<=i)(h2:i<b)(h3:a<=j)(h4:j<b):Same0 l (C2 l i j) a b:=λp hp=>Aae (by omega) (by omega)
theorem Q4{l:List α}{a i j:Nat}(hi:i<l.length)(ha:a<j)(hj:j<=i)(h:Tf key l a i j)(hlt:kf key l j<kf key l (j-1)):Tf key (C2 l j (j-1)) a i (j-1):=by
 intro p q h1 h2 h3 h4;rw[XE key (by omega) (by omega),XE key (by omega) (by omega)]
 by_cases q1:q=j
 .subst q1
  rw[if_neg (show ¬ q=q-1 by omega),if_pos rfl]
  by_cases p1:p=q-1
  .rw[if_pos p1];omega
  .rw[if_neg p1,if_neg (by omega)]
   exact h p (q-1) h1 (by omega) (by omega) (by omega)
 .rw[if_neg h4,if_neg q1]
  by_cases p1:p=j-1
  .rw[if_pos p1]
   exact h j q (by omega) (by omega) h3 q1
  .rw[if_neg p1]
   by_cases p2:p=j
   .rw[if_pos p2]
    exact h (j-1) q (by omega) (by omega) h3 q1
   .rw[if_neg p2]
    exact h p q h1 h2 h3 q1
theorem K8{l:List α}{a i j:Nat}(hj:j<=i)(h:Tf key l a i j)(he:j=a\/kf key l (j-1)<=kf key l j):Srt key l a (i+1):=by
 intro p q h1 h2 h3
 by_cases hq:q=j
 .subst hq
  rcases he with he|he
  .omega
  .by_cases hp:p=q-1
   .rw[hp];exact he
   .have:=h p (q-1) h1 (by omega) (by omega) (by omega)
    omega
 .exact h p q h1 h2 (by omega) hq
theorem Pz{l:List α}{a i:Nat}(h:Srt key l a i):Tf key l a i i:=λp q h1 h2 h3 h4=>h p q h1 h2 (by omega)
theorem E0{l:List α}(h:Srt key l 0 l.length):l.Pairwise λx y=>key x<=key y:=by
 rw[List.pairwise_iff_getElem];intro i j hi hj hij;have:=h i j (by omega) hij hj
 rwa [EN key hi,EN key hj]at this
theorem Yq(l:List α)(a:Nat):Srt key l a (a+1):=λp q h1 h2 h3=>by omega
theorem Yp(l:List α)(a:Nat):Srt key l a a:=λp q h1 h2 h3=>by omega
end
structure Pt where
 v:Int
 z:Zi
def eP(p:Pt):List AV:=[iv p.v,bv p.z.neg,eN p.z.abs]
theorem Ax(p:Pt):(eP p).length=3:=rfl
section
variable {α:Type} {e:α->List AV} {w:Nat} (he:∀ x,(e x).length=w)
include he
theorem Yj(l:List α):∀(i:Nat) (h:i<l.length),(Ah e l).drop (i*w)=e l[i]++(Ah e l).drop (i*w+w):=by
 induction l with
 |nil=>intro i h;cases h
 |cons x r ih=>
  intro i h;have hx:=he x
  cases i with
  |zero=>
   rw[Asm,AqQ,Ara]
   show e x++Ah e r=e x++(e x++Ah e r).drop w
   rw[←hx,List.drop_left]
  |succ i=>
   have:=ih i (by simpa using h);have e1:∀ n,(Ah e (x::r)).drop (w+n)=(Ah e r).drop n:=λn=>by
    show (e x++Ah e r).drop (w+n)=_
    rw[←hx,AtT];simp
   rw[show (i+1)*w=w+i*w by rw[Art];omega,e1,this,show w+i*w+w=w+(i*w+w) by omega,e1];rfl
theorem Bx(l:List α)(i:Nat)(h:i<l.length)(k:List AV->KR):EX (Ah e l) (0+i*w) w k=k (e l[i]):=by
 have hw:i*w+w<=l.length*w:=by
  rw[←Nat.succ_mul];exact Nat.mul_le_mul_right w h
 unfold EX;have:AqZ (0+i*w+w) (Ah e l).length=Δ:=by rw[AT he];simp;omega
 rw[this]
 show k (((Ah e l).drop (0+i*w)).take w)=_
 rw[Ara,Yj he l i h,AsE (he _)]
theorem CA(l:List α)(i:Nat)(h:i<l.length)(x:α):AI (Ah e l) (0+i*w) (e x)=Ah e (l.set i x):=by
 unfold AI;rw[he x,Ara];have e1:=Yj he l i h;have e2:∀(l:List α) (i:Nat),i<=l.length->(Ah e l).take (i*w)=Ah e (l.take i):=λl=>by
  induction l with
  |nil=>intro i _;simp[Ah]
  |cons y r ih=>
   intro i hi
   cases i with
   |zero=>simp[Ah]
   |succ i=>
    rw[show (i+1)*w=w+i*w by rw[Art];omega]
    show (e y++Ah e r).take (w+i*w)=e y++Ah e (r.take i)
    rw[←he y,AtW,ArS (by omega),show (e y).length+i*(e y).length-(e y).length=i*(e y).length by omega,he y,ih i (by simpa using hi)]
 have e3:∀(l:List α) (i:Nat),i<=l.length->(Ah e l).drop (i*w)=Ah e (l.drop i):=λl=>by
  induction l with
  |nil=>intro i _;simp[Ah]
  |cons y r ih=>
   intro i hi
   cases i with
   |zero=>simp[Ah]
   |succ i=>
    rw[show (i+1)*w=w+i*w by rw[Art];omega]
    show (e y++Ah e r).drop (w+i*w)=Ah e (r.drop i)
    rw[←he y,AtT,Atn (by omega),show (e y).length+i*(e y).length-(e y).length=i*(e y).length by omega,he y,ih i (by simpa using hi),List.nil_append]
 rw[e2 l i (by omega),show i*w+w=(i+1)*w by rw[Art];omega,e3 l (i+1) (by omega),List.set_eq_take_append_cons_drop,if_pos h];simp[Ah]
end
theorem Fz{a b:Int}:Cp a b<0 ↔ a<b:=by
 unfold Cp;split
 .omega
 .split<;>omega
theorem Lc{j:Nat}(h:j<4611686018427387904):Af.sub .i64 ((j+1:Nat):Int) 1=(j:Int):=by
 rw[Dm (by omega) (by omega)];omega
theorem AQ{a b:Nat}(h:a<b):Nat.blt a b=Δ:=by simpa using h
section
variable {D:Orc} (K:Knows Al Ed D)
include K
theorem Uh(x:Int):D.ask (.fn 91) [iv x] []=Θ (bv Φ,[]):=by
 refine AB K Amb (e91 ..) ?_;exact Bu rfl rfl
theorem RE(x y:Int):D.ask (.fn 47) [iv x,iv y] []=Θ (iv (Cp x y),[]):=by
 refine AB K AlN (e47 ..) ?_;refine Aa (Uh K x) ?_;simp only[ND,DK,Ab];refine Aa (Uh K y) ?_;simp only[ND,DK,Ab];unfold Cp
 by_cases h:x<y
 .rw[if_pos h]
  exact Aj rfl h
 .rw[if_neg h]
  refine Ag ?_ h
  by_cases h2:y<x
  .rw[if_pos h2]
   exact Aj rfl h2
  .rw[if_neg h2]
   exact Ag rfl h2
theorem HH(p q:Pt):D.ask (.fn 61) [.agg (eP p),.agg (eP q)] []=Θ (iv (Cp p.v q.v),[]):=by
 refine AB K AlW (e61 ..) ?_;refine Aa (RE K p.v q.v) ?_;rfl
def Fv:AV:=.fn (.func 61) [] []
theorem Ajm(a i:Nat)(b:Int):∀(m j:Nat) (l:List Pt),j-a=m->a<=j->j<=i->i<l.length->l.length<=1000000000->Tf Pt.v l a i j->
  ∃ r:List Pt,D.ask (.lp 128 1) [.sl 0 0 l.length 3,iv (a:Int),iv b,Fv,iv (i:Int),iv (j:Int)] [θ (Ah eP l) Δ Δ]
   = Θ (.tup [iv 2,.sl 0 0 l.length 3,iv (a:Int),iv b,Fv,iv (i:Int)],[.set (θ (Ah eP r) Δ Δ)])
   ∧ r.length=l.length/\r.Perm l/\Srt Pt.v r a (i+1)/\Same0 l r a (i+1):=by
 intro m
 induction m with
 |zero=>
  intro j l hm ha hj hi hl hs;obtain rfl:j=a:=by omega
  refine⟨l,?_,rfl,List.Perm.refl _,K8 Pt.v hj hs (.inl rfl),Do _ _ _⟩;refine Au K HQ (VO ..) ?_;exact Ag rfl
 |succ m ih=>
  intro j l hm ha hj hi hl hs;obtain⟨k,rfl⟩:∃ k,j=k+1:=⟨j-1,by omega⟩;have h1:k+1<l.length:=by omega
  have h0:k<l.length:=by omega
  have kf1:kf Pt.v l (k+1)=l[k+1].v:=EN Pt.v h1;have kf0:kf Pt.v l k=l[k].v:=EN Pt.v h0
  by_cases hlt:l[k+1].v<l[k].v
  .have hs2:Tf Pt.v (C2 l (k+1) k) a i k:=Q4 (j:=k+1) Pt.v hi (by omega) hj hs (by rw[Ar1,kf1,kf0];exact hlt)
   have hlen:=Gz l (k+1) k;obtain⟨r,g,hr,hp,ho,hsm⟩:=ih k (C2 l (k+1) k) (by omega) (by omega) (by omega) (by omega) (by omega) hs2;rw[hlen]at g hr;refine⟨r,?_,hr,hp.trans (Ew _ _ _),ho,(Aaf (by omega) (by omega) (by omega) (by omega)).trans hsm⟩;refine Au K HQ (VO ..) ?_;refine Aj ?_;rw[Lc (by omega),Av,AQ h1];refine Ac ?_;refine(Bx Ax l (k+1) h1 _).trans ?_;simp only[eP,eN,ND,DK,Ab];rw[Av,AQ h0];refine Ac ?_;refine(Bx Ax l k h0 _).trans ?_;simp only[eP,eN,ND,DK,Ab];refine Aa (HH K l[k+1] l[k]) ?_;simp only[ND,DK,Ab];refine Aj ?_ (Fz.2 hlt);rw[Av,AQ h0];refine Ac ?_;refine(Bx Ax l k h0 _).trans ?_;simp only[eP,eN,ND,DK,Ab];rw[Av,AQ h1];refine Ac ?_;refine(Bx Ax l (k+1) h1 _).trans ?_;simp only[eP,eN,ND,DK,Ab];rw[Av,AQ h1];refine Ac ?_;have s1:=CA Ax l (k+1) h1 l[k];have s2:=CA Ax (l.set (k+1) l[k]) k (by rw[Are];exact h0) l[k+1];rw[←DH h1 h0]at s2;simp only[eP,eN]at s1 s2;rw[show AqZ (0+(k+1)*3+3) (Ah eP l).length=Δ by rw[AT Ax];simp;omega];refine Ac ?_;rw[Av,AQ h0];refine Ac ?_;rw[s1,s2];rw[show AqZ (0+k*3+3) (Ah eP (l.set (k+1) l[k])).length=Δ by rw[AT Ax,Are];simp;omega];refine Ac ?_;refine Aa g ?_;rfl
  .refine⟨l,?_,rfl,List.Perm.refl _,K8 Pt.v hj hs (.inr ?_),Do _ _ _⟩
   .skip
    refine Au K HQ (VO ..) ?_;refine Aj ?_;rw[Lc (by omega),Av,AQ h1];refine Ac ?_;refine(Bx Ax l (k+1) h1 _).trans ?_;simp only[eP,eN,ND,DK,Ab];rw[Av,AQ h0];refine Ac ?_;refine(Bx Ax l k h0 _).trans ?_;simp only[eP,eN,ND,DK,Ab];refine Aa (HH K l[k+1] l[k]) ?_;simp only[ND,DK,Ab];exact Ag rfl (λh=>hlt (Fz.1 h))
   .rw[Ar1,kf1,kf0]
    omega
theorem Ae8(a b:Nat):∀(m i:Nat) (l:List Pt),b-i=m->a<i->i<=b->b<=l.length->l.length<=1000000000->Srt Pt.v l a i->
  ∃ r:List Pt,D.ask (.lp 128 0) [.sl 0 0 l.length 3,iv (a:Int),iv (b:Int),Fv,iv (i:Int)] [θ (Ah eP l) Δ Δ]
   = Θ (.tup [iv 0,.sl 0 0 l.length 3],[.set (θ (Ah eP r) Δ Δ)])
   ∧ r.length=l.length/\r.Perm l/\Srt Pt.v r a b/\Same0 l r a b:=by
 intro m
 induction m with
 |zero=>
  intro i l hm ha hi hb hl hs;obtain rfl:i=b:=by omega
  refine⟨l,?_,rfl,List.Perm.refl _,hs,Do _ _ _⟩;refine Au K HQ (VN ..) ?_;exact Ag rfl
 |succ m ih=>
  intro i l hm ha hi hb hl hs;obtain⟨r,g,hr,hp,ho,hsm⟩:=Ajm K a i (b:Int) _ i l rfl (by omega) (π _) (by omega) hl (Pz Pt.v hs);obtain⟨r2,g2,hr2,hp2,ho2,hsm2⟩:=ih (i+1) r (by omega) (by omega) (by omega) (by omega) (by omega) ho;rw[hr]at g2;refine⟨r2,?_,by omega,hp2.trans hp,ho2,(hsm.wide (π _) (by omega)).trans hsm2⟩;refine Au K HQ (VN ..) ?_;refine Aj ?_;refine Aa g ?_;simp only[Fv,ND,DK,Ab];refine Ac ?_;rw[BA (by omega)];refine Aa g2 ?_;rfl
theorem Aci{a b:Nat}{l:List Pt}(hab:a<=b)(hb:b<=l.length)(hl:l.length<=1000000000) :
  ∃ r:List Pt,D.ask (.fn 128) [.sl 0 0 l.length 3,iv (a:Int),iv (b:Int),Fv] [θ (Ah eP l) Δ Δ]=Θ (.tup [],[.set (θ (Ah eP r) Δ Δ)])
   ∧ r.length=l.length/\r.Perm l/\Srt Pt.v r a b/\Same0 l r a b:=by
 by_cases h:a<b
 .obtain⟨r,g,hr⟩:=Ae8 K a b _ (a+1) l rfl (by omega) (by omega) hb hl (Yq Pt.v l a)
  refine⟨r,?_,hr⟩;refine AB K HQ (Ak0 ..) ?_;rw[BA (by omega)];refine Aa g ?_;rfl
 .obtain rfl:a=b:=by omega
  have g:D.ask (.lp 128 0) [.sl 0 0 l.length 3,iv (a:Int),iv (a:Int),Fv,iv ((a+1:Nat):Int)] [θ (Ah eP l) Δ Δ]=Θ (.tup [iv 0,.sl 0 0 l.length 3],[.set (θ (Ah eP l) Δ Δ)]):=by
   refine Au K HQ (VN ..) ?_;exact Ag rfl
  refine⟨l,?_,rfl,List.Perm.refl _,Yp Pt.v l a,Do _ _ _⟩;refine AB K HQ (Ak0 ..) ?_;rw[BA (by omega)];refine Aa g ?_;rfl
end
structure Tm where
 ps:List Pt
 k:Zi
def eT(t:Tm):List AV:=[.ls (t.ps.map eP),bv t.k.neg,eN t.k.abs]
structure Lf where
 ps:List (Int × Int)
 k:Int
def pv(p:Pt):Int × Int:=(p.v,zv p.z)
def AP(p:Int × Int):Pt:=⟨p.1,Aq p.2⟩
def Tm.lf(t:Tm):Lf:=⟨t.ps.map pv,zv t.k⟩
def Lf.tm(l:Lf):Tm:=⟨l.ps.map AP,Aq l.k⟩
def Lf.pln(l:Lf):Lf:=⟨AO l.ps,l.k⟩
theorem Af1(p:Int × Int):pv (AP p)=p:=by
 unfold pv AP;rw[AE]
theorem BE(l:Lf):l.tm.lf=l:=by
 obtain⟨ps,k⟩:=l;unfold Lf.tm Tm.lf;simp only[List.map_map,AE];rw[show (pv ∘ AP)=id from funext Af1,List.map_id]
structure TmB (n k:Nat) (t:Tm):Prop where
 len:t.ps.length<=n
 ps:∀ p∈t.ps,Lz k p.z
 k:Lz k t.k
structure LB (n k:Nat) (l:Lf):Prop where
 len:l.ps.length<=n
 ps:∀ p∈l.ps,InB k p.2
 k:InB k l.k
theorem TmB.lb{n k:Nat}{t:Tm}(h:TmB n k t):LB n k t.lf:=by
 refine⟨by simpa[Tm.lf]using h.len,λp hp=>?_,h.k.inb⟩;simp only[Tm.lf,Arj]at hp;obtain⟨q,hq,rfl⟩:=hp;exact(h.ps q hq).inb
theorem LB.tb{n k:Nat}{l:Lf}(h:LB n k l):TmB n k l.tm:=by
 refine⟨by simpa[Lf.tm]using h.len,λp hp=>?_,h.k.lz⟩;simp only[Lf.tm,Arj]at hp;obtain⟨q,hq,rfl⟩:=hp;exact(h.ps q hq).lz
theorem LB.mono{n k m j:Nat}{l:Lf}(h:LB n k l)(hn:n<=m)(hk:k<=j):LB m j l:=⟨by have:=h.len;omega,λp hp=>(h.ps p hp).mono hk,h.k.mono hk⟩
theorem TmB.mono{n k m j:Nat}{t:Tm}(h:TmB n k t)(hn:n<=m)(hk:k<=j):TmB m j t:=⟨by have:=h.len;omega,λp hp=>(h.ps p hp).mono hk,h.k.mono hk⟩
theorem II{k:Nat}(v:Int):∀ l:List (Int × Int),(∀ p∈l,InB k p.2)->InB (k+l.length) (Bk v l)
 |[],_=>InB.zero _
 |p::r,h=>by
  have h1:=II v r λq hq=>h q (ο _ hq)
  have h2:=h p (AqS ..);rw[Bk,AqR,←Nat.add_assoc];refine InB.add ?_ h1;split
  .exact h2.mono (by omega)
  .exact InB.zero _
theorem Pln.mem:∀{l:List (Int × Int)},Pln l->∀ p∈l,Bk p.1 l=p.2
 |q::r,h,p,hp=>by
  rcases AqU.1 hp with rfl|hp
  .exact h.head
  .rw[Bk,if_neg (by have:=(Arx.1 h.asc).1 p hp;omega),h.tail.mem p hp]
   omega
theorem LB.pln{n k:Nat}{l:Lf}(h:LB n k l):LB n (k+n) l.pln:=by
 have hl:=Gr l.ps;refine⟨by have:=h.len;simp only[Lf.pln];omega,λp hp=>?_,h.k.mono (by omega)⟩;have h1:=(C5 l.ps).mem p hp;rw[JO,if_pos ((C5 l.ps).pos p hp)]at h1;rw[←h1];exact(II p.1 l.ps h.ps).mono (by have:=h.len;omega)
def Lf.add(a b:Lf):Lf:=Lf.pln ⟨a.ps++b.ps,a.k+b.k⟩
def Lf.scale(a:Lf)(n:Int):Lf:=Lf.pln ⟨a.ps.map λp=>(p.1,p.2*n),a.k*n⟩
def Lf.sub(a b:Lf):Lf:=a.add (b.scale (-1))
def Lf.num(k:Int):Lf:=⟨[],k⟩
theorem LB.mul{n k j:Nat}{a:Lf}{x:Int}(ha:LB n k a)(hx:InB j x):LB n (k+j) ⟨a.ps.map λp=>(p.1,p.2*x),a.k*x⟩:=by
 refine⟨by simpa using ha.len,λp hp=>?_,InB.mul ha.k hx⟩;simp only[Arj]at hp;obtain⟨q,hq,rfl⟩:=hp;exact InB.mul (ha.ps q hq) hx
theorem LB.scale{n k j:Nat}{a:Lf}{x:Int}(ha:LB n k a)(hx:InB j x):LB n (k+j+n) (a.scale x):=(ha.mul hx).pln
def AnW(f:Int->Int):List (Int × Int)->Int
 |[]=>0
 |p::r=>p.2*f p.1+AnW f r
def Lf.val(f:Int->Int)(l:Lf):Int:=AnW f l.ps+l.k
section
open Go.RowKit
noncomputable def Afq:MFn:=BI [⟨21,(mB 3596),[],[2,3],[(1,((mB 12),([],[])))]⟩] 33
def Ab0:Hnt:=⟨[(26,(.agg Bl,[])),(74,(.agg Ay,[]))],[(0,[(1,([.ptr 0 0,.ptr 1 0],[.box Ay,.box Ay]))])],[(7,Bl),(13,Br),(14,Br),(15,Ay),(17,Ay),(20,Ay)]⟩
noncomputable def Yx:List (Nat × MFn):=[(33,Afq)]
variable (A:Ar) (D:Orc)
theorem e33(x0_0:Rw)(x0_1:Bool)(x0_2:Rw):BN A D Al Ab0 .n 33 Afq [φ [Ψ x0_0,bv x0_1,Ψ x0_2]] [] =
 Ae D (Key.fn 26) [φ [Ψ x0_0,bv x0_1,Ψ x0_2]] [] [.a,.L,.B,.L,.N,.E] λxs _ _=>
 Ae D (Key.lp 33 0) [η 0 0,η 1 0,Ψ xs,iv ↑(AL xs),iv 0] [bk [bv Φ,Ψ []],bk [bv Φ,Ψ []]] [.t,.C,.x,.X,.Y] λc l3 o1=>
 br (Bm 1 c)
 (dk [.P 0 0,.P 1 0,.N,.T,.B,.L,.N,.T,.B,.L,.N,.E] [.l l3,.o o1] λ_ _ b2 xs3=>
 Θ ((φ [bv b2,Ψ xs3],[])))
 (none):=by kernel_rfl
theorem Ahk(b2_0:Bool)(b2_1:Rw)(b3_0:Bool)(b3_1 t9:Rw)(t10 t11:Int):CS A D Al Ab0 .n 33 0 (AJ Afq 0).fst (AJ Afq 0).snd [η 0 0,η 1 0,Ψ t9,iv t10,iv t11] [bk [bv b2_0,Ψ b2_1],bk [bv b3_0,Ψ b3_1]] =
 br (A.lt t11 t10)
 (unI t11 λi=>
 Bj t9 i λcs=>
 dk [.I,.B,.L,.N] [.l cs] λn b xs=>
 Ae D (Key.fn 74) [φ [bv b3_0,Ψ b3_1],φ [bv b,Ψ xs]] [] [.a,.B,.L,.N,.E] λb1 xs1=>
 AA D (Key.lp 33 0) [η 0 0,η 1 0,Ψ t9,iv t10,iv (A.add IntKind.i64 t11 1)] [bk [bv b2_0,Ψ b2_1],bk [bv b1,Ψ xs1]] λr1 o1=>
 As 2 [0,1] (AH.mk [(1,bk [bv b1,Ψ xs1]),(0,bk [bv b2_0,Ψ b2_1]),(2,bk [iv n,bv b,Ψ xs])] 3 none) [0,1] r1 o1)
 (Θ ((γ [iv 0,η 0 0,η 1 0],[AqV (bk [bv b2_0,Ψ b2_1]),AqV (bk [bv b3_0,Ψ b3_1])]))):=by kernel_rfl
end
structure ZdF (D:Orc):Prop where
 div:∀ a b:Zi,Lz 800000000 a->Lz 800000000 b->D.ask (.fn 32) [.agg (eZ a),.agg (eZ b)] []
  = Θ (if zv b=0 then .tup [.agg [bv Φ,.ls []],.agg [bv Φ,.ls []],iv 10] else .tup [.agg (eZ (Aq (qZ (zv a) (zv b)))),.agg (eZ (Aq (rZ (zv a) (zv b)))),iv 0],[])
 exact:∀ a b:Zi,Lz 800000000 a->Lz 800000000 b->D.ask (.fn 69) [.agg (eZ a),.agg (eZ b)] []
  = Θ (if zv b=0 then .tup [.agg [bv Φ,.ls []],iv 10] else if rZ (zv a) (zv b)=0 then .tup [.agg (eZ (Aq (qZ (zv a) (zv b)))),iv 0] else .tup [.agg [bv Φ,.ls []],iv 1],[])
 gcd:∀ a b:Zi,Lz 900000000 a->Lz 900000000 b->D.ask (.fn 74) [.agg (eZ a),.agg (eZ b)] []=Θ (.agg (eZ (Aq (Asi (zv a).natAbs (zv b).natAbs:Nat))),[])
theorem Aix{D:Orc}(K:Knows Al Hi D)(Z:Knows Al Jl D)(C:CloneF D)(G:Knows Al Q6 D)(V:DivF D):ZdF D:=⟨λ_ _ ha hb=>YG K Z C G V ha hb,λ_ _ ha hb=>Aaz K Z C G V ha hb,λ_ _ ha hb=>Ahb K Z C G V ha hb⟩
def DZ(g:Nat)(l:List (Int × Int)):Nat:=l.foldl (λg p=>Asi g p.2.natAbs) g
theorem Np{k g:Nat}{x:Int}(hg:InB k (g:Int))(hx:InB k x):InB k ((Asi g x.natAbs:Nat):Int):=by
 unfold InB at *;rw[AsK]at *;rcases Nat.eq_zero_or_pos g with h|h
 .rw[h,Nat.gcd_zero_left]
  exact hx
 .have:=Nat.gcd_le_left x.natAbs h
  omega
theorem Oj{k:Nat}:∀(l:List (Int × Int)) (g:Nat),InB k (g:Int)->(∀ p∈l,InB k p.2)->InB k (DZ g l:Int)
 |[],_,h,_=>h
 |p::r,g,h,hl=>Oj r _ (Np h (hl p (AqS ..))) λq hq=>hl q (ο _ hq)
theorem Ko:∀(l:List (Int × Int)) (g:Nat),DZ g l ∣ g/\∀ p∈l,DZ g l ∣ p.2.natAbs
 |[],g=>⟨AuW _,λ_ h=>by cases h⟩
 |p::r,g=>by
  obtain⟨h1,h2⟩:=Ko r (Asi g p.2.natAbs);refine⟨AuQ h1 (Nat.gcd_dvd_left ..),λq hq=>?_⟩;rcases AqU.1 hq with rfl|h
  .exact AuQ h1 (Nat.gcd_dvd_right ..)
  .exact h2 q h
section
variable {D:Orc} (T:Knows Al Yx D) (W:ZdF D)
include T W
theorem AiX(l:List (Int × Int))(hlen:l.length<=4000000)(hl:∀ p∈l,InB 800000000 p.2):∀(m i g:Nat),l.length-i=m->i<=l.length->InB 800000000 (g:Int)->
  D.ask (.lp 33 0) [.ptr 0 0,.ptr 1 0,.ls (l.map λp=>eP (AP p)),iv (l.length:Int),iv (i:Int)] [bk [bv Φ,.ls []],bk (eZ (Aq (g:Int)))]
   = Θ (.tup [iv 0,.ptr 0 0,.ptr 1 0],[.set (bk [bv Φ,.ls []]),.set (bk (eZ (Aq (DZ g (l.drop i):Int))))]):=by
 intro m
 induction m with
 |zero=>
  intro i g hm hi hg;rw[AqX (by omega)];refine Au T Ab0 (Ahk ..) ?_;exact Ag rfl
 |succ m ih=>
  intro i g hm hi hg;have h1:i<l.length:=by omega
  have hx:=hl _ (Arc h1);rw[κ h1];have ga:=W.gcd (Aq (g:Int)) (Aq l[i].2) (hg.lz.mono (by omega)) (hx.lz.mono (by omega));rw[AE,AE,AsK]at ga;have ih1:=ih (i+1) (Asi g l[i].2.natAbs) (by omega) (by omega) (Np hg hx);refine Au T Ab0 (Ahk ..) ?_;refine Aj ?_;rw[Av,At (f:=λp=>eP (AP p)) (ξ h1)];simp only[eP,AP,eN,ND,DK,Ab];refine Aa ga ?_;simp only[eZ,eN,ND,DK,Ab];rw[BA (by omega)];refine Aa ih1 ?_;rfl
theorem VF{t:Tm}{l:List (Int × Int)}{k:Zi}(hp:D.ask (.fn 26) [.agg (eT t)] []=Θ (.agg [.ls (l.map λp=>eP (AP p)),bv k.neg,eN k.abs],[]))(hlen:l.length<=4000000)(hl:∀ p∈l,InB 800000000 p.2) :
  D.ask (.fn 33) [.agg (eT t)] []=Θ (.agg (eZ (Aq (DZ 0 l:Int))),[]):=by
 have g:=AiX T W l hlen hl _ 0 0 rfl (by omega) (InB.zero _);rw[AqQ,show Aq ((0:Nat):Int)=⟨Φ,[]⟩ from IC,show eZ ⟨Φ,[]⟩=[bv Φ,.ls []] from rfl]at g;refine AB T Ab0 (e33 ..) ?_;refine Aa hp ?_;simp only[eZ,eN,Ak,ND,DK,Ab];refine Aa g ?_;rfl
end
def HZ(v:Int):Bool->List Int->List Int × Bool
 |d,[]=>([],d)
 |d,x::r=>((if !d&&decide (v<=x) then [v] else [])++((if x=v then [] else [x])++(HZ v (d||decide (v<=x)) r).1),(HZ v (d||decide (v<=x)) r).2)
def JI(v:Int)(l:List Int):List Int:=(HZ v Φ l).1++(if(HZ v Φ l).2 then [] else [v])
theorem LP(v:Int):∀ l:List Int,(∀ x∈l,v<x)->HZ v Δ l=(l,Δ)
 |[],_=>rfl
 |x::r,h=>by
  have h1:=h x AqS;rw[HZ,Bool.true_or,LP v r λy hy=>h y (ο _ hy),if_neg (show ¬ x=v by omega)];rfl
theorem Ug(v:Int):JI v []=[v]:=rfl
theorem R7{v x:Int}{r:List Int}(h:v<x)(hr:∀ y∈r,x<y):JI v (x::r)=v::x::r:=by
 unfold JI;rw[HZ,decide_eq_true (by omega:v<=x),Atq,LP v r λy hy=>by have:=hr y hy;omega,if_neg (show ¬ x=v by omega)];simp
theorem R5{v:Int}{r:List Int}(hr:∀ y∈r,v<y):JI v (v::r)=v::r:=by
 unfold JI;rw[HZ,decide_eq_true (AtF v),Atq,LP v r hr,if_pos rfl];simp
theorem R6{v x:Int}{r:List Int}(h:x<v):JI v (x::r)=x::JI v r:=by
 unfold JI;rw[HZ,decide_eq_false (by omega:¬ v<=x),Atq,if_neg (show ¬ x=v by omega)];simp
def Asc(l:List Int):Prop:=l.Pairwise (· < ·)
theorem OK(v:Int):∀{l:List Int},Asc l->∀ y,y∈JI v l ↔ y=v\/y∈l
 |[],_,y=>by rw[Ug];simp
 |x::r,h,y=>by
  have h1:=Arx.1 h;have ih:=OK v h1.2 y;rcases AsO v x with hv|hv|hv
  .rw[R7 hv h1.1];simp
  .subst hv
   rw[R5 h1.1];simp
  .rw[R6 hv,AqU,ih,AqU]
   exact or_left_comm
theorem H7(v:Int):∀{l:List Int},Asc l->Asc (JI v l)
 |[],_=>by rw[Ug];exact AsF _ _
 |x::r,h=>by
  have h1:=Arx.1 h;rcases AsO v x with hv|hv|hv
  .rw[R7 hv h1.1]
   refine Arx.2 ⟨λy hy=>?_,h⟩;rcases AqU.1 hy with rfl|hy
   .exact hv
   .have:=h1.1 y hy;omega
  .subst hv
   rw[R5 h1.1];exact h
  .rw[R6 hv]
   refine Arx.2 ⟨λy hy=>?_,H7 v h1.2⟩;rcases (OK v h1.2 y).1 hy with rfl|hy
   .exact hv
   .exact h1.1 y hy
theorem Uc(v:Int):∀(d:Bool) (l:List Int),(HZ v d l).1.length<=2*l.length
 |_,[]=>π _
 |d,x::r=>by
  have:=Uc v (d||decide (v<=x)) r;rw[HZ,υ,υ,AqR];have h1:(if(!d&&decide (v<=x))=Δ then [v] else []).length<=1:=by split<;>simp
  have h2:(if x=v then [] else [x]).length<=1:=by split<;>simp
  omega
theorem OJ(v:Int):∀{l:List Int},Asc l->(JI v l).length<=l.length+1
 |[],_=>π _
 |x::r,h=>by
  have h1:=Arx.1 h;have ih:=OJ v h1.2;rcases AsO v x with hv|hv|hv
  .rw[R7 hv h1.1];simp
  .subst hv
   rw[R5 h1.1];simp
  .rw[R6 hv,AqR,AqR];omega
def GD(f:Int->Int):List Int->List Int->List Int
 |out,[]=>out
 |out,v::r=>GD f (if f v=0 then out else JI v out) r
theorem Ri(f:Int->Int):∀(l:List Int) {out:List Int},Asc out->Asc (GD f out l)
 |[],_,h=>h
 |v::r,out,h=>by
  rw[GD];refine Ri f r ?_;split
  .exact h
  .exact H7 v h
theorem Mv(f:Int->Int)(y:Int):∀(l:List Int) {out:List Int},Asc out->(y∈GD f out l ↔ y∈out\/(y∈l/\f y≠0))
 |[],out,_=>by rw[GD];simp
 |v::r,out,h=>by
  rw[GD]
  by_cases hv:f v=0
  .rw[if_pos hv,Mv f y r h,AqU]
   constructor
   .rintro (h1|⟨h1,h2⟩)
    .exact .inl h1
    .exact .inr ⟨.inr h1,h2⟩
   .rintro (h1|⟨rfl|h1,h2⟩)
    .exact .inl h1
    .exact absurd hv h2
    .exact .inr ⟨h1,h2⟩
  .rw[if_neg hv,Mv f y r (H7 v h),OK v h,AqU]
   constructor
   .rintro ((rfl|h1) | ⟨h1,h2⟩)
    .exact .inr ⟨.inl rfl,hv⟩
    .exact .inl h1
    .exact .inr ⟨.inr h1,h2⟩
   .rintro (h1|⟨rfl|h1,h2⟩)
    .exact .inl (.inr h1)
    .exact .inl (.inl rfl)
    .exact .inr ⟨h1,h2⟩
theorem Mt(f:Int->Int):∀(l:List Int) {out:List Int},Asc out->(GD f out l).length<=out.length+l.length
 |[],out,_=>by rw[GD];simp
 |v::r,out,h=>by
  rw[GD,AqR]
  by_cases hv:f v=0
  .rw[if_pos hv]
   have:=Mt f r h;omega
  .rw[if_neg hv]
   have:=Mt f r (H7 v h);have:=OJ v h;omega
def CV(ps:List (Int × Int))(v:Int):Int:=if 0<=v then Bk v ps else 0
def FR(ps:List (Int × Int)):List Int:=GD (CV ps) [] (ps.map (·.1))
theorem Nj:Asc []:=List.Pairwise.nil
theorem Qi(c:Int->Int)(v:Int):∀{l:List Int},Asc l->Bk v (l.map λu=>(u,c u))=if v∈l then c v else 0
 |[],_=>by simp[Bk]
 |x::r,h=>by
  have h1:=Arx.1 h;rw[Aq8,Bk,Qi c v h1.2]
  by_cases hx:x=v
  .subst hx
   rw[if_pos rfl,if_pos AqS,if_neg (λhm=>by have:=h1.1 _ hm;omega)];exact Int.add_zero _
  .rw[if_neg hx,Int.zero_add]
   have e:(v∈x::r) ↔ v∈r:=by
    rw[AqU];exact⟨λh=>h.resolve_left λe=>hx e.symm,.inr⟩
   by_cases hm:v∈r
   .rw[if_pos hm,if_pos (e.2 hm)]
   .rw[if_neg hm,if_neg λh=>hm (e.1 h)]
theorem DO(ps:List (Int × Int)):(FR ps).map (λv=>(v,CV ps v))=AO ps:=by
 have ha:Asc (FR ps):=Ri _ _ Nj;have hm:∀ y,y∈FR ps ↔ y∈ps.map (·.1)/\CV ps y≠0:=λy=>by
  have:=Mv (CV ps) y (ps.map (·.1)) Nj;unfold FR;simpa using this
 refine O7 ⟨?_,?_,?_⟩ λv hv=>?_
 .rw[AsR]
  exact ha
 .intro p hp
  rw[Arj]at hp;obtain⟨v,hv,rfl⟩:=hp;have:=((hm v).1 hv).2;unfold CV at this
  by_cases h0:0<=v
  .exact h0
  .rw[if_neg h0]at this
   exact absurd rfl this
 .intro p hp
  rw[Arj]at hp;obtain⟨v,hv,rfl⟩:=hp;exact((hm v).1 hv).2
 .rw[Qi _ _ ha]
  have hc:CV ps v=Bk v ps:=if_pos hv
  by_cases hv2:v∈FR ps
  .rw[if_pos hv2,hc]
  .rw[if_neg hv2]
   by_cases hz:Bk v ps=0
   .exact hz.symm
   .refine absurd ((hm v).2 ⟨?_,by rw[hc];exact hz⟩) hv2
    by_cases hmm:v∈ps.map (·.1)
    .exact hmm
    .refine absurd (Fg λp hp e=>hmm ?_) hz
     rw[←e];exact List.mem_map_of_mem hp
inductive Fm where
 |mk (kind:Int) (t:Tm) (eq:Bool) (kids:List Fm)
def Fm.kind:Fm->Int
 |.mk k _ _ _=>k
def Fm.tm:Fm->Tm
 |.mk _ t _ _=>t
def Fm.eq:Fm->Bool
 |.mk _ _ e _=>e
def Fm.kids:Fm->List Fm
 |.mk _ _ _ ks=>ks
def Tm0:Tm:=⟨[],⟨Φ,[]⟩⟩
def kF(k:Int)(ks:List Fm):Fm:=.mk k Tm0 Φ ks
def Akn(b:Bool):Fm:=kF (if b then 0 else 1) []
def AaR(l:Lf)(e:Bool):Fm:=.mk 2 l.tm e []
mutual
def Jw:Fm->Fm
 |.mk k t e ks=>if k=0 then Akn Δ else if k=2 then AaR t.lf.pln e else if k=3 then kF 3 (Xi ks) else if k=4\/k=5 then kF k (Nn ks) else Akn Φ
def Xi:List Fm->List Fm
 |[]=>[]
 |x::_=>[Jw x]
def Nn:List Fm->List Fm
 |[]=>[]
 |x::r=>Jw x::Nn r
end
mutual
inductive CanF:Fm->Prop
 |tru (b:Bool):CanF (Akn b)
 |atom (l:Lf) (e:Bool) (h:l.pln=l):CanF (AaR l e)
 |no (x:Fm) (h:CanF x):CanF (kF 3 [x])
 |and (l:List Fm) (h:CanFs l):CanF (kF 4 l)
 |or (l:List Fm) (h:CanFs l):CanF (kF 5 l)
 |no0:CanF (kF 3 [])
inductive CanFs:List Fm->Prop
 |nil:CanFs []
 |cons {x:Fm} {r:List Fm} (h:CanF x) (hr:CanFs r):CanFs (x::r)
end
mutual
theorem CanF.clone:∀{x:Fm},CanF x->Jw x=x
 |_,.tru b=>by cases b<;>rfl
 |_,.atom l e h=>by
  unfold AaR;rw[Jw,if_neg (by decide),if_pos rfl,BE,h];rfl
 |_,.no x h=>by
  unfold kF;rw[Jw,if_neg (by decide),if_neg (by decide),if_pos rfl,Xi,h.clone];rfl
 |_,.and l h=>by
  unfold kF;rw[Jw,if_neg (by decide),if_neg (by decide),if_neg (by decide),if_pos (.inl rfl),h.clone];rfl
 |_,.or l h=>by
  unfold kF;rw[Jw,if_neg (by decide),if_neg (by decide),if_neg (by decide),if_pos (.inr rfl),h.clone];rfl
 |_,.no0=>rfl
theorem CanFs.clone:∀{l:List Fm},CanFs l->Nn l=l
 |_,.nil=>rfl
 |_,.cons h hr=>by rw[Nn,h.clone,hr.clone]
end

def C8:List (Int × Int)->Int × Int->List (Int × Int)
 |[],p=>if p.1<0 then [] else [p]
 |q::r,p=>if p.1<0 then q::r else if q.1=p.1 then(q.1,q.2+p.2)::r else p::q::r
theorem EC(p:Int × Int):C8 [] p=if p.1<0 then [] else [p]:=rfl
theorem DU(q:Int × Int)(r:List (Int × Int))(p:Int × Int):C8 (q::r) p=if p.1<0 then q::r else if q.1=p.1 then(q.1,q.2+p.2)::r else p::q::r:=rfl
structure GrpI (s t:List (Int × Int)):Prop where
 desc:s.Pairwise λa b=>b.1<a.1
 pos:∀ q∈s,0<=q.1
 up:∀ q∈s,∀ p∈t,0<=p.1->q.1<=p.1
theorem Zb(v:Int)(hv:0<=v):∀(s:List (Int × Int)) (p:Int × Int),Bk v (C8 s p)=Bk v s+(if p.1=v then p.2 else 0)
 |[],p=>by
  rw[EC];split
  .rw[if_neg (by omega)];simp[Bk]
  .simp[Bk]
 |q::r,p=>by
  rw[DU];split
  .rw[if_neg (by omega)];omega
  .split
   .rename_i h
    rw[Bk,Bk];simp only[h];split<;>omega
   .rw[Bk]
    omega
theorem AbO{s t:List (Int × Int)}{p:Int × Int}(h:GrpI s (p::t))(ht:∀ x∈t,p.1<=x.1):GrpI (C8 s p) t:=by
 have ut:∀ q∈s,∀ x∈t,0<=x.1->q.1<=x.1:=λq hq x hx=>h.up q hq x (ο _ hx)
 cases s with
 |nil=>
  rw[EC];split
  .exact⟨.nil,by simp,by simp⟩
  .exact⟨AsF _ _,by simp;omega,λq hq x hx _=>by rw[Arh.1 hq];exact ht x hx⟩
 |cons q r=>
  have hd:=Arx.1 h.desc;rw[DU];split
  .exact⟨h.desc,h.pos,ut⟩
  .rename_i hp
   split
   .refine⟨Arx.2 ⟨λx hx=>hd.1 x hx,hd.2⟩,λx hx=>?_,λx hx y hy hy0=>?_⟩
    .rcases AqU.1 hx with rfl|hx
     .exact h.pos q (AqS ..)
     .exact h.pos x (ο _ hx)
    .rcases AqU.1 hx with rfl|hx
     .exact ut q (AqS ..) y hy hy0
     .exact ut x (ο _ hx) y hy hy0
   .rename_i hne
    have hq:=h.up q (AqS ..) p (AqS ..) (by omega);refine⟨Arx.2 ⟨λx hx=>?_,h.desc⟩,λx hx=>?_,λx hx y hy hy0=>?_⟩
    .rcases AqU.1 hx with rfl|hx
     .omega
     .have:=hd.1 x hx;omega
    .rcases AqU.1 hx with rfl|hx
     .omega
     .exact h.pos x hx
    .rcases AqU.1 hx with rfl|hx
     .exact ht y hy
     .exact ut x hx y hy hy0
theorem XA:∀(t s:List (Int × Int)),t.Pairwise (λa b=>a.1<=b.1)->GrpI s t->GrpI (t.foldl C8 s) []/\∀ v,0<=v->Bk v (t.foldl C8 s)=Bk v s+Bk v t
 |[],s,_,h=>⟨h,λv _=>by simp[Bk]⟩
 |p::t,s,ht,h=>by
  have hp:=Arx.1 ht;obtain⟨g1,g2⟩:=XA t (C8 s p) hp.2 (AbO h hp.1);refine⟨g1,λv hv=>?_⟩;rw[Asn,g2 v hv,Zb v hv,Bk];omega
theorem Tx(v:Int):∀ l:List (Int × Int),Bk v (l.filter λp=>!decide (p.2=0))=Bk v l
 |[]=>rfl
 |p::r=>by
  have ih:=Tx v r
  by_cases h:p.2=0
  .rw[List.filter_cons_of_neg (by simp[h]),ih,Bk,h]
   simp
  .rw[List.filter_cons_of_pos (by simp[h]),Bk,Bk,ih]
theorem RW{t l:List (Int × Int)}(ht:t.Pairwise λa b=>a.1<=b.1)(hp:t.Perm l):((t.foldl C8 []).reverse).filter (λp=>!decide (p.2=0))=AO l:=by
 obtain⟨g1,g2⟩:=XA t [] ht ⟨.nil,by simp,by simp⟩;refine O7 ⟨?_,λp h=>?_,λp h=>?_⟩ λv hv=>?_
 .refine List.Pairwise.filter _ ?_
  rw[List.pairwise_reverse];exact g1.desc
 .have:=(Aso.1 h).1
  exact g1.pos p (Att.1 this)
 .simpa using (Aso.1 h).2
 .rw[Tx,N8 (List.reverse_perm _),g2 v hv,N8 hp]
  simp[Bk]
theorem HL{k:Nat}{s:List (Int × Int)}{p:Int × Int}(hs:∀ q∈s,InB k q.2)(hp:InB k p.2):∀ q∈C8 s p,InB (k+1) q.2:=by
 cases s with
 |nil=>
  rw[EC];split
  .simp
  .intro q hq
   rw[Arh.1 hq];exact hp.mono (by omega)
 |cons q r=>
  rw[DU];have hq:=hs q (AqS ..);have hr:∀ x∈r,InB (k+1) x.2:=λx hx=>(hs x (ο _ hx)).mono (by omega)
  split
  .intro x hx
   rcases AqU.1 hx with rfl|hx
   .exact hq.mono (by omega)
   .exact hr x hx
  .split
   .intro x hx
    rcases AqU.1 hx with rfl|hx
    .exact InB.add hq hp
    .exact hr x hx
   .intro x hx
    rcases AqU.1 hx with rfl|hx
    .exact hp.mono (by omega)
    .rcases AqU.1 hx with rfl|hx
     .exact hq.mono (by omega)
     .exact hr x hx
theorem HM(s:List (Int × Int))(p:Int × Int):(C8 s p).length<=s.length+1:=by
 cases s with
 |nil=>rw[EC];split<;>simp
 |cons q r=>
  rw[DU];split
  .simp
  .split<;>simp
theorem Srt.same{l r:List Pt}{a b p q:Nat}(h:Srt Pt.v l p q)(hs:Same0 l r a b)(hd:q<=a\/b<=p):Srt Pt.v r p q:=by
 intro x y h1 h2 h3;rw[hs.kf Pt.v (by omega),hs.kf Pt.v (by omega)];exact h x y h1 h2 h3
def Vp(q t:Nat)(l:List Pt):Prop:=∀ p,q ∣ p->p+q<=t->Srt Pt.v l p (p+q)
theorem AkD{a:Nat}(h:a<4611686018427387000):Af.add .i64 (a:Int) 20=((a+20:Nat):Int):=by
 rw[EJ (by omega) (by omega)];rfl
section
variable {D:Orc} (K:Knows Al Ed D)
include K
theorem Akg:∀(m a:Nat) (l:List Pt),l.length-a=m->a<=l.length->l.length<=1000000000->20 ∣ a->Vp 20 a l->
  ∃(r:List Pt) (c:Nat),D.ask (.lp 101 0) [.sl 0 0 l.length 3,iv (l.length:Int),Fv,iv 20,iv (a:Int),iv ((a+20:Nat):Int)] [θ (Ah eP l) Δ Δ]
   = Θ (.tup [iv 0,.sl 0 0 l.length 3,iv (l.length:Int),Fv,iv 20,iv (c:Int)],[.set (θ (Ah eP r) Δ Δ)])
   ∧ r.length=l.length/\r.Perm l/\c<=l.length/\l.length<c+20/\20 ∣ c/\Vp 20 c r:=by
 intro m
 induction m using Asp with
 |_ m ih=>
  intro a l hm ha hl hd hb
  by_cases h:a+20<=l.length
  .obtain⟨r,g,hr,hp,ho,hsm⟩:=Aci K (a:=a) (b:=a+20) (l:=l) (by omega) h hl
   have hb2:Vp 20 (a+20) r:=λp h1 h2=>by
    by_cases hpa:p=a
    .subst hpa
     exact ho
    .exact(hb p h1 (by omega)).same hsm (.inl (by omega))
   obtain⟨r2,c,g2,hr2,hp2,h3,h4,h5,h6⟩:=ih (r.length-(a+20)) (by omega) (a+20) r rfl (by omega) (by omega) (by omega) hb2;rw[hr]at g2 h3 h4;refine⟨r2,c,?_,by omega,hp2.trans hp,h3,h4,h5,h6⟩;refine Au K Hf (Abe ..) ?_;refine B6 ?_;refine Aa g ?_;simp only[Fv,ND,DK,Ab];rw[AkD (by omega)];refine Aa g2 ?_;rfl
  .refine⟨l,a,?_,rfl,List.Perm.refl _,ha,by omega,hd,hb⟩
   refine Au K Hf (Abe ..) ?_;exact Cr rfl
omit K in
def NF(D:Orc):Prop:=∀(l:List Pt) (a m b:Nat),a<m->m<b->b<=l.length->l.length<=1000000000->Srt Pt.v l a m->Srt Pt.v l m b->
 ∃ r:List Pt,D.ask (.fn 129) [.sl 0 0 l.length 3,iv (a:Int),iv (m:Int),iv (b:Int),Fv] [θ (Ah eP l) Δ Δ]=Θ (.tup [],[.set (θ (Ah eP r) Δ Δ)])
  ∧ r.length=l.length/\r.Perm l/\Srt Pt.v r a b/\Same0 l r a b
def TlS(q a:Nat)(l:List Pt):Prop:=∀ j,Srt Pt.v l (a+j*q) (min (a+(j+1)*q) l.length)
theorem Aki(M:NF D)(q:Nat)(hq:0<q)(hq2:q<=1000000000):∀(m a:Nat) (l:List Pt),l.length-a=m->a<=l.length->l.length<=1000000000->2*q ∣ a->Vp (2*q) a l->TlS q a l->
  ∃(r:List Pt) (c:Nat),D.ask (.lp 101 2) [.sl 0 0 l.length 3,iv (l.length:Int),Fv,iv (q:Int),iv (a:Int),iv ((a+2*q:Nat):Int)] [θ (Ah eP l) Δ Δ]
   = Θ (.tup [iv 4,.sl 0 0 l.length 3,iv (l.length:Int),Fv,iv (q:Int),iv (c:Int)],[.set (θ (Ah eP r) Δ Δ)])
   ∧ r.length=l.length/\r.Perm l/\c<=l.length/\l.length<c+2*q/\2*q ∣ c/\Vp (2*q) c r/\TlS q c r:=by
 intro m
 induction m using Asp with
 |_ m ih=>
  intro a l hm ha hl hd hb ht
  by_cases h:a+2*q<=l.length
  .have t0:=ht 0
   have t1:=ht 1;rw[Asm,ArG,Ara,Ar9,ArH (by omega)]at t0;rw[Ar9,show (1+1)*q=2*q from rfl,ArH h]at t1;obtain⟨r,g,hr,hp,ho,hsm⟩:=M l a (a+q) (a+2*q) (by omega) (by omega) h hl t0 t1;have hb2:Vp (2*q) (a+2*q) r:=λp h1 h2=>by
    by_cases hpa:p=a
    .subst hpa
     exact ho
    .have:=Aue (by omega) (Aux hd h1)
     exact(hb p h1 (by omega)).same hsm (.inl (by omega))
   have ht2:TlS q (a+2*q) r:=λj=>by
    have:=ht (j+2);rw[show a+(j+2)*q=a+2*q+j*q by rw[Art];omega,show a+(j+2+1)*q=a+2*q+(j+1)*q by rw[Art,Art,Art];omega]at this;rw[hr];exact this.same hsm (.inr (by omega))
   obtain⟨r2,c,g2,hr2,hp2,h3,h4,h5,h6,h7⟩:=ih (r.length-(a+2*q)) (by omega) (a+2*q) r rfl (by omega) (by omega) (Nat.dvd_add hd (AuW _)) hb2 ht2;rw[hr]at g2 h3 h4;refine⟨r2,c,?_,by omega,hp2.trans hp,h3,h4,h5,h6,h7⟩;refine Au K Hf (Abf ..) ?_;refine B6 ?_;rw[show Af.add .i64 (a:Int) (q:Int)=((a+q:Nat):Int) by rw[EJ (by omega) (by omega)];omega,
    show Af.mul .i64 2 (q:Int)=((2*q:Nat):Int) by
     show IntKind.i64.wrap (2*(q:Int))=_
     rw[IntKind.wrap_i64];omega,
    show Af.add .i64 ((a+2*q:Nat):Int) ((2*q:Nat):Int)=((a+2*q+2*q:Nat):Int) by rw[EJ (by omega) (by omega)];omega]
   refine Aa g ?_;simp only[Fv,ND,DK,Ab];refine Aa g2 ?_;rfl
  .refine⟨l,a,?_,rfl,List.Perm.refl _,ha,by omega,hd,hb,ht⟩
   refine Au K Hf (Abf ..) ?_;exact Cr rfl
omit K in
theorem W7{q c:Nat}{r:List Pt}(hq:0<q)(hd:q ∣ c)(hn:r.length<c+q)(hb:Vp q c r)(hs:Srt Pt.v r c r.length):TlS q 0 r:=λj=>by
 rw[Ara,Ara];have e:(j+1)*q=j*q+q:=by rw[Art];omega
 by_cases h1:j*q+q<=c
 .have:=hb (j*q) (AtX q j) h1
  intro x y hx hxy hy;exact this x y hx hxy (by omega)
 .by_cases h2:j*q=c
  .intro x y hx hxy hy
   exact hs x y (by omega) hxy (by omega)
  .intro x y hx hxy hy
   exfalso
   by_cases h3:j*q<c
   .have:=Aue (by omega) (Aux hd (AtX q j))
    omega
   .have:=Aue (by omega) (Aux (AtX q j) hd)
    omega
theorem Akh(M:NF D):∀(m q:Nat) (l:List Pt),l.length-q=m->0<q->q<=2000000000->l.length<=1000000000->TlS q 0 l->
  ∃ r:List Pt,D.ask (.lp 101 1) [.sl 0 0 l.length 3,iv (l.length:Int),Fv,iv (q:Int)] [θ (Ah eP l) Δ Δ]
   = Θ (.tup [iv 2,.sl 0 0 l.length 3],[.set (θ (Ah eP r) Δ Δ)])
   ∧ r.length=l.length/\r.Perm l/\Srt Pt.v r 0 r.length:=by
 intro m
 induction m using Asp with
 |_ m ih=>
  intro q l hm hq hq2 hl ht
  by_cases h:q<l.length
  .obtain⟨r,c,g,hr,hp,hc,hn,hd,hb,ht2⟩:=Aki K M q hq (by omega) _ 0 l rfl (by omega) hl (AuX _) (λp _ h2=>by omega) ht
   have t0:=ht2 0;have t1:=ht2 1;rw[Asm,ArG,Ara,Ar9]at t0;rw[Ar9,show (1+1)*q=2*q from rfl,At0 (by omega)]at t1;rw[Ara]at g;have emul:Af.mul .i64 2 (q:Int)=((2*q:Nat):Int):=by
    show IntKind.i64.wrap (2*(q:Int))=_
    rw[IntKind.wrap_i64];omega
   have emul2:Af.mul .i64 (q:Int) 2=((2*q:Nat):Int):=by
    show IntKind.i64.wrap ((q:Int)*2)=_
    rw[IntKind.wrap_i64];omega
   have eadd:Af.add .i64 (c:Int) (q:Int)=((c+q:Nat):Int):=by rw[EJ (by omega) (by omega)];omega
   by_cases h2:c+q<l.length
   .rw[ArH (by omega)]at t0
    obtain⟨r3,g3,hr3,hp3,ho3,hsm⟩:=M r c (c+q) r.length (by omega) (by omega) (π _) (by omega) t0 t1;have ht3:TlS (2*q) 0 r3:=W7 (by omega) hd (by omega) (λp h1 h2=>(hb p h1 h2).same hsm (.inl (by omega))) (by rw[hr3];exact ho3);obtain⟨r4,g4,hr4,hp4,ho4⟩:=ih (r3.length-2*q) (by omega) (2*q) r3 rfl (by omega) (by omega) (by omega) ht3;rw[hr]at g3 hr3;rw[hr3]at g4 hr4;refine⟨r4,?_,hr4,hp4.trans (hp3.trans hp),ho4⟩;refine Au K Hf (VJ ..) ?_;refine Aj ?_;rw[emul];refine Aa g ?_;simp only[Fv,ND,DK,Ab];refine Ac ?_;rw[eadd,emul2];refine Aj ?_;refine Aa g3 ?_;simp only[Fv,ND,DK,Ab];refine Aa g4 ?_;rfl
   .rw[At0 (by omega)]at t0
    have ht3:TlS (2*q) 0 r:=W7 (by omega) hd (by omega) hb t0;obtain⟨r4,g4,hr4,hp4,ho4⟩:=ih (r.length-2*q) (by omega) (2*q) r rfl (by omega) (by omega) (by omega) ht3;rw[hr]at g4 hr4;refine⟨r4,?_,hr4,hp4.trans hp,ho4⟩;refine Au K Hf (VJ ..) ?_;refine Aj ?_;rw[emul];refine Aa g ?_;simp only[Fv,ND,DK,Ab];refine Ac ?_;rw[eadd,emul2];refine Ag ?_;refine Aa g4 ?_;rfl
  .refine⟨l,?_,rfl,List.Perm.refl _,?_⟩
   .refine Au K Hf (VJ ..) ?_
    exact Ag rfl
   .have t0:=ht 0
    rw[Asm,Ara,Ara,Ar9,At0 (by omega)]at t0;exact t0
theorem Aad(M:NF D){l:List Pt}(hl:l.length<=1000000000) :
  ∃ r:List Pt,D.ask (.fn 101) [.sl 0 0 l.length 3,iv (l.length:Int),Fv] [θ (Ah eP l) Δ Δ]=Θ (.tup [],[.set (θ (Ah eP r) Δ Δ)])
   ∧ r.length=l.length/\r.Perm l/\Srt Pt.v r 0 r.length:=by
 obtain⟨r,c,g,hr,hp,hc,hn,hd,hb⟩:=Akg K _ 0 l rfl (by omega) hl (AuX _) (λp _ h2=>by omega);obtain⟨r2,g2,hr2,hp2,ho2,hsm⟩:=Aci K (a:=c) (b:=r.length) (l:=r) (by omega) (π _) (by omega);have ht:TlS 20 0 r2:=W7 (by omega) hd (by omega) (λp h1 h2=>(hb p h1 h2).same hsm (.inl (by omega))) (by rw[hr2];exact ho2);obtain⟨r3,g3,hr3,hp3,ho3⟩:=Akh K M _ 20 r2 rfl (by omega) (by omega) (by omega) ht;rw[hr]at g2 hr2;rw[hr2]at g3 hr3;refine⟨r3,?_,hr3,hp3.trans (hp2.trans hp),ho3⟩;refine AB K Hf (Aou ..) ?_;refine Aa g ?_;simp only[Fv,ND,DK,Ab];refine Aa g2 ?_;simp only[Fv,ND,DK,Ab];refine Aa g3 ?_;rfl
theorem AgD(M:NF D){l:List Pt}(hl:l.length<=1000000000) :
  ∃ r:List Pt,D.ask (.fn 60) [.sl 0 0 l.length 3,Fv] [θ (Ah eP l) Δ Δ]=Θ (.tup [],[.set (θ (Ah eP r) Δ Δ)])
   ∧ r.length=l.length/\r.Perm l/\Srt Pt.v r 0 r.length:=by
 obtain⟨r,g,h⟩:=Aad K M hl;refine⟨r,?_,h⟩;refine AB K AlV (e60 ..) ?_;refine Aa g ?_;rfl
end
section
variable {α:Type} (key:α->Int)
structure Rot (l r:List α) (a m b:Nat):Prop where
 out:∀ p,p<a\/b<=p->r[p]? = l[p]?
 low:∀ p,a<=p->p<a+(b-m)->r[p]? = l[p+(m-a)]?
 high:∀ p,a+(b-m)<=p->p<b->r[p]? = l[p-(b-m)]?
structure SwR (l r:List α) (a b n:Nat):Prop where
 out:∀ p,p<a\/(a+n<=p/\p<b)\/b+n<=p->r[p]? = l[p]?
 low:∀ p,a<=p->p<a+n->r[p]? = l[p+(b-a)]?
 high:∀ p,b<=p->p<b+n->r[p]? = l[p-(b-a)]?
theorem CD{l:List α}{i j:Nat}(h:i=j):l[i]? = l[j]?:=by rw[h]
theorem Adv{c d r:List α}{i j m:Nat}(h0:i<=m)(h:j<i)(s:SwR c d (m-i) m j)(t:Rot d r (m-(i-j)) m (m+j)):Rot c r (m-i) m (m+j):=by
 refine⟨λp hp=>?_,λp h1 h2=>?_,λp h1 h2=>?_⟩
 .rw[t.out p (by omega),s.out p (by omega)]
 .rw[t.out p (by omega),s.low p (by omega) (by omega)]
 .by_cases h3:p<m-(i-j)+j
  .rw[t.low p (by omega) (by omega),s.high _ (by omega) (by omega)]
   exact CD (by omega)
  .rw[t.high p (by omega) (by omega),s.out _ (by omega)]
theorem ZP{c d r:List α}{i j m:Nat}(h0:i<=m)(h:i<j)(s:SwR c d (m-i) (m+j-i) i)(t:Rot d r (m-i) m (m+(j-i))):Rot c r (m-i) m (m+j):=by
 refine⟨λp hp=>?_,λp h1 h2=>?_,λp h1 h2=>?_⟩
 .rw[t.out p (by omega),s.out p (by omega)]
 .by_cases h3:p<m-i+(j-i)
  .rw[t.low p (by omega) (by omega),s.out _ (by omega)]
  .rw[t.high p (by omega) (by omega),s.low _ (by omega) (by omega)]
   exact CD (by omega)
 .rw[t.out p (by omega),s.high p (by omega) (by omega)]
  exact CD (by omega)
theorem Adx{c r:List α}{i m:Nat}(h0:i<=m)(s:SwR c r (m-i) m i):Rot c r (m-i) m (m+i):=by
 refine⟨λp hp=>?_,λp h1 h2=>?_,λp h1 h2=>?_⟩
 .rw[s.out p (by omega)]
 .rw[s.low p (by omega) (by omega)]
 .rw[s.high p (by omega) (by omega)]
  exact CD (by omega)
theorem Gv{l:List α}{a m b:Nat}(h:a=m\/m=b)(ha:a<=m)(hb:m<=b):Rot l l a m b:=by
 refine⟨λp hp=>rfl,λp h1 h2=>CD (by omega),λp h1 h2=>CD (by omega)⟩
theorem AdU{l r:List α}{a b n:Nat}(hab:a+n<b)(hb:b+n<l.length)(s:SwR l r a b n)(hr:r.length=l.length):SwR l (C2 r (a+n) (b+n)) a b (n+1):=by
 have ha:a+n<r.length:=by omega
 have hb2:b+n<r.length:=by omega
 have e1:∀ p,(C2 r (a+n) (b+n))[p]? = if p=a+n then r[b+n]? else if p=b+n then r[a+n]? else r[p]?:=λp=>by
  rw[DH ha hb2]
  by_cases h1:p=b+n
  .subst h1
   rw[if_neg (by omega),if_pos rfl,Ash (by simpa using hb2),ξ ha]
  .rw[Ar6 (λe=>h1 e.symm)]
   by_cases h2:p=a+n
   .subst h2
    rw[if_pos rfl,Ash ha,ξ hb2]
   .rw[if_neg h2,if_neg h1,Ar6 (λe=>h2 e.symm)]
 refine⟨λp hp=>?_,λp h1 h2=>?_,λp h1 h2=>?_⟩
 .rw[e1,if_neg (by omega),if_neg (by omega),s.out p (by omega)]
 .rw[e1]
  by_cases h:p=a+n
  .rw[if_pos h,s.out _ (by omega)]
   exact CD (by omega)
  .rw[if_neg h,if_neg (by omega),s.low p h1 (by omega)]
 .rw[e1]
  by_cases h:p=b+n
  .rw[if_neg (by omega),if_pos h,s.out _ (by omega)]
   exact CD (by omega)
  .rw[if_neg (by omega),if_neg h,s.high p h1 (by omega)]
theorem AdV(l:List α)(a b:Nat):SwR l l a b 0:=⟨λ_ _=>rfl,λ_ h1 h2=>by omega,λ_ h1 h2=>by omega⟩
theorem H9{l r:List α}{p q:Nat}(h:r[p]? = l[q]?):kf key r p=kf key l q:=by
 unfold kf;rw[h]
theorem Rot.kout{l r:List α}{a m b p:Nat}(h:Rot l r a m b)(hp:p<a\/b<=p):kf key r p=kf key l p:=H9 key (h.out p hp)
theorem Rot.klow{l r:List α}{a m b p:Nat}(h:Rot l r a m b)(h1:a<=p)(h2:p<a+(b-m)):kf key r p=kf key l (p+(m-a)):=H9 key (h.low p h1 h2)
theorem Rot.khigh{l r:List α}{a m b p:Nat}(h:Rot l r a m b)(h1:a+(b-m)<=p)(h2:p<b):kf key r p=kf key l (p-(b-m)):=H9 key (h.high p h1 h2)
theorem Us{l r:List α}{a b i:Nat}(hi:a+1<=i)(hib:i<=b)(hs:Srt key l (a+1) b)(h1:∀ p,a+1<=p->p<i->kf key l p<kf key l a)(h2:∀ p,i<=p->p<b->kf key l a<=kf key l p)(t:Rot l r a (a+1) i):Srt key r a b:=by
 intro p q hp hpq hq
 by_cases q1:q<i-1
 .rw[t.klow key (by omega) (by omega),t.klow key (by omega) (by omega)]
  exact hs _ _ (by omega) (by omega) (by omega)
 .by_cases q2:q=i-1
  .rw[t.klow key (by omega) (by omega),t.khigh key (by omega) (by omega),show q-(i-(a+1))=a by omega]
   have:=h1 (p+(a+1-a)) (by omega) (by omega);omega
  .rw[t.kout key (p:=q) (by omega)]
   by_cases p1:p<i-1
   .rw[t.klow key (by omega) (by omega)]
    exact hs _ _ (by omega) (by omega) (by omega)
   .by_cases p2:p=i-1
    .rw[t.khigh key (by omega) (by omega),show p-(i-(a+1))=a by omega]
     exact h2 q (by omega) hq
    .rw[t.kout key (by omega)]
     exact hs _ _ (by omega) (by omega) (by omega)
theorem Wt{l r:List α}{a m i:Nat}(hi:a<=i)(him:i<=m)(hs:Srt key l a m)(h1:∀ p,a<=p->p<i->kf key l p<=kf key l m)(h2:∀ p,i<=p->p<m->kf key l m<kf key l p)(t:Rot l r i m (m+1)):Srt key r a (m+1):=by
 intro p q hp hpq hq
 by_cases p1:p<i
 .rw[t.kout key (p:=p) (by omega)]
  by_cases q1:q<i
  .rw[t.kout key (by omega)]
   exact hs _ _ (by omega) (by omega) (by omega)
  .by_cases q2:q=i
   .rw[t.klow key (by omega) (by omega),show q+(m-i)=m by omega]
    exact h1 p hp p1
   .rw[t.khigh key (by omega) (by omega)]
    exact hs _ _ (by omega) (by omega) (by omega)
 .rw[t.khigh key (p:=q) (by omega) (by omega)]
  by_cases p2:p=i
  .rw[t.klow key (by omega) (by omega),show p+(m-i)=m by omega]
   have:=h2 (q-(m+1-m)) (by omega) (by omega);omega
  .rw[t.khigh key (by omega) (by omega)]
   exact hs _ _ (by omega) (by omega) (by omega)
def Low(l:List α)(a m b:Nat):Prop:=∀ p q,a<=p->p<m->m<=q->q<b->kf key l p<=kf key l q
theorem AgE{l:List α}{a m b:Nat}(h1:Srt key l a m)(h2:Srt key l m b)(h3:Low key l a m b):Srt key l a b:=by
 intro p q hp hpq hq
 by_cases c:q<m
 .exact h1 p q hp hpq c
 .by_cases d:p<m
  .exact h3 p q hp d (by omega) hq
  .exact h2 p q (by omega) hpq hq
structure CutAt (l:List α) (a m b mid s e:Nat):Prop where
 asl:a<=s
 sm:s<=m
 me:m<=e
 eb:e<=b
 mid:s+(e-m)=mid
 up:∀ p q,a<=p->p<s->e<=q->q<b->kf key l p<=kf key l q
 dn:∀ p q,m<=p->p<e->s<=q->q<m->kf key l p<=kf key l q
theorem E7{l r:List α}{a m b mid s e:Nat}(c:CutAt key l a m b mid s e)(h1:Srt key l a m)(h2:Srt key l m b)(t:Rot l r s m e) :
  Srt key r a s/\Srt key r s mid/\Srt key r mid e/\Srt key r e b/\Low key r a mid b:=by
 have:=c.asl;have:=c.sm;have:=c.me;have:=c.eb;have:=c.mid;refine⟨λp q x y z=>?_,λp q x y z=>?_,λp q x y z=>?_,λp q x y z=>?_,λp q x y z w=>?_⟩
 .rw[t.kout key (by omega),t.kout key (by omega)]
  exact h1 _ _ (by omega) (by omega) (by omega)
 .rw[t.klow key (by omega) (by omega),t.klow key (by omega) (by omega)]
  exact h2 _ _ (by omega) (by omega) (by omega)
 .rw[t.khigh key (by omega) (by omega),t.khigh key (by omega) (by omega)]
  exact h1 _ _ (by omega) (by omega) (by omega)
 .rw[t.kout key (by omega),t.kout key (by omega)]
  exact h2 _ _ (by omega) (by omega) (by omega)
 .by_cases p1:p<s
  .rw[t.kout key (p:=p) (by omega)]
   by_cases q1:q<e
   .rw[t.khigh key (by omega) (by omega)]
    exact h1 _ _ (by omega) (by omega) (by omega)
   .rw[t.kout key (by omega)]
    exact c.up _ _ (by omega) (by omega) (by omega) (by omega)
  .rw[t.klow key (p:=p) (by omega) (by omega)]
   by_cases q1:q<e
   .rw[t.khigh key (by omega) (by omega)]
    exact c.dn _ _ (by omega) (by omega) (by omega) (by omega)
   .rw[t.kout key (by omega)]
    exact h2 _ _ (by omega) (by omega) (by omega)
theorem X4{l r:List α}{a b:Nat}(hp:r.Perm l)(hs:Same0 l r a b){p:Nat}(h1:a<=p)(h2:p<b)(hb:b<=l.length):∃ q,a<=q/\q<b/\r[p]? = l[q]?:=by
 have hlen:=hp.length_eq;have ht:r.take a=l.take a:=by
  apply Aup;intro i;rw[Aro,Aro];split
  .exact hs i (by omega)
  .rfl
 have hd:r.drop b=l.drop b:=by
  apply Aup;intro i;rw[ArU,ArU];exact hs _ (by omega)
 have er:∀ x:List α,b<=x.length->x=x.take a++((x.drop a).take (b-a)++x.drop b):=λx hx=>by
  have e1:=(ArW a x).symm;have e2:=(ArW (b-a) (x.drop a)).symm;rw[List.drop_drop,show a+(b-a)=b by omega]at e2;rw[←e2];exact e1
 have hp2:(r.take a++((r.drop a).take (b-a)++r.drop b)).Perm (l.take a++((l.drop a).take (b-a)++l.drop b)):=by
  rw[←er r (by omega),←er l hb];exact hp
 rw[ht,hd]at hp2;have hp3:=(List.perm_append_right_iff _).1 ((List.perm_append_left_iff _).1 hp2);have hpr:p<r.length:=by omega
 have hm:r[p]∈(r.drop a).take (b-a):=by
  rw[At8];refine⟨p-a,?_⟩;rw[Aro,if_pos (by omega),ArU,show a+(p-a)=p by omega,ξ hpr]
 have hm2:=hp3.mem_iff.1 hm;rw[At8]at hm2;obtain⟨i,hi⟩:=hm2;rw[Aro]at hi;split at hi
 .rename_i hib
  rw[ArU]at hi;exact⟨a+i,by omega,by omega,by rw[hi,ξ hpr]⟩
 .cases hi
theorem AcG{l r:List α}{a m b:Nat}(h:Low key l a m b)(hp:r.Perm l)(hs:Same0 l r a m)(hb:m<=l.length):Low key r a m b:=by
 intro p q x y z w;obtain⟨p2,h1,h2,h3⟩:=X4 hp hs x y hb;rw[H9 key h3,hs.kf key (by omega)];exact h p2 q h1 h2 z w
theorem Zq{l r:List α}{a m b:Nat}(h:Low key l a m b)(hp:r.Perm l)(hs:Same0 l r m b)(hb:b<=l.length):Low key r a m b:=by
 intro p q x y z w;obtain⟨q2,h1,h2,h3⟩:=X4 hp hs z w hb;rw[H9 key h3,hs.kf key (by omega)];exact h p q2 x y h1 h2
theorem Srt.same'{l r:List α}{a b p q:Nat}(h:Srt key l p q)(hs:Same0 l r a b)(hd:q<=a\/b<=p):Srt key r p q:=by
 intro x y h1 h2 h3;rw[hs.kf key (by omega),hs.kf key (by omega)];exact h x y h1 h2 h3
theorem K9{l:List α}{a s m:Nat}(h:s=a\/s=m)(h1:Srt key l a s)(h2:Srt key l s m):Srt key l a m:=by
 rcases h with rfl|rfl
 .exact h2
 .exact h1
structure Bs (l:List α) (n x y s r:Nat):Prop where
 xs:x<=s
 sr:s<=r
 ry:r<=y
 lo:∀ c,x<=c->c<s->kf key l c<=kf key l (n-1-c)
 hi:∀ c,r<=c->c<y->kf key l (n-1-c)<kf key l c
section
variable {l:List α} {n x y s r a m b:Nat}
theorem Bs.up(B:Bs key l n x y s r)(h1:Srt key l a m)(h2:Srt key l m b)(hx:a<=x)(hy:y<=m)(hn:n<=x+b)(hm:m+y<=n){c:Nat}(hc:s<=c)(hr:c<r)(h:kf key l c<=kf key l (n-1-c)):Bs key l n x y (c+1) r:=by
 have:=B.xs;have:=B.sr;have:=B.ry;refine⟨by omega,by omega,B.ry,λd hd1 hd2=>?_,B.hi⟩
 by_cases hdc:d=c
 .rw[hdc];exact h
 .have e1:=h1 d c (by omega) (by omega) (by omega)
  have e2:=h2 (n-1-c) (n-1-d) (by omega) (by omega) (by omega);omega
theorem Bs.dn(B:Bs key l n x y s r)(h1:Srt key l a m)(h2:Srt key l m b)(hx:a<=x)(hy:y<=m)(hn:n<=x+b)(hm:m+y<=n){c:Nat}(hc:s<=c)(hr:c<r)(h:kf key l (n-1-c)<kf key l c):Bs key l n x y s c:=by
 have:=B.xs;have:=B.sr;have:=B.ry;refine⟨B.xs,hc,by omega,B.lo,λd hd1 hd2=>?_⟩
 by_cases hdc:d=c
 .rw[hdc];exact h
 .have e1:=h1 c d (by omega) (by omega) (by omega)
  have e2:=h2 (n-1-d) (n-1-c) (by omega) (by omega) (by omega);omega
theorem Bs.cut{mid:Nat}(B:Bs key l (mid+m) x y s s)(h1:Srt key l a m)(h2:Srt key l m b)(hx:a<=x)(hy:y<=m)(hn:mid+m<=x+b)(hm:y<=mid)(cx:x=a\/mid+m=x+b)(cy:y=m\/y=mid):CutAt key l a m b mid s (mid+m-s):=by
 have:=B.xs;have:=B.ry;refine⟨by omega,by omega,by omega,by omega,by omega,λp q c1 c2 c3 c4=>?_,λp q c1 c2 c3 c4=>?_⟩
 .have hs:x<s:=by omega
  have e:=B.lo (s-1) (by omega) (by omega);rw[show mid+m-1-(s-1)=mid+m-s by omega]at e;have e1:kf key l p<=kf key l (s-1):=by
   by_cases h:p=s-1
   .rw[h];exact AtF _
   .exact h1 _ _ (by omega) (by omega) (by omega)
  have e2:kf key l (mid+m-s)<=kf key l q:=by
   by_cases h:q=mid+m-s
   .rw[h];exact AtF _
   .exact h2 _ _ (by omega) (by omega) (by omega)
  omega
 .have hs:s<y:=by omega
  have e:=B.hi s (by omega) (by omega);have e1:kf key l p<=kf key l (mid+m-1-s):=by
   by_cases h:p=mid+m-1-s
   .rw[h];exact AtF _
   .exact h2 _ _ (by omega) (by omega) (by omega)
  have e2:kf key l s<=kf key l q:=by
   by_cases h:q=s
   .rw[h];exact AtF _
   .exact h1 _ _ (by omega) (by omega) (by omega)
  omega
end
theorem Akb{l r:List α}{a k:Nat}(h:a<=k)(hk:k+1<l.length)(hr:r.length=l.length)(t:Rot l r a (a+1) (k+1)):Rot l (C2 r k (k+1)) a (a+1) (k+2):=by
 have e1:∀ p,(C2 r k (k+1))[p]? = if p=k then r[k+1]? else if p=k+1 then r[k]? else r[p]?:=λp=>by
  rw[DH (by omega) (by omega)]
  by_cases h1:p=k+1
  .subst h1
   rw[if_neg (by omega),if_pos rfl,Ash (by rw[Are];omega),ξ (by omega)]
  .rw[Ar6 (λe=>h1 e.symm)]
   by_cases h2:p=k
   .subst h2
    rw[if_pos rfl,Ash (by omega),ξ (by omega)]
   .rw[if_neg h2,if_neg h1,Ar6 (λe=>h2 e.symm)]
 refine⟨λp hp=>?_,λp h1 h2=>?_,λp h1 h2=>?_⟩
 .rw[e1,if_neg (by omega),if_neg (by omega),t.out p (by omega)]
 .rw[e1]
  by_cases h:p=k
  .rw[if_pos h,t.out _ (by omega)]
   exact CD (by omega)
  .rw[if_neg h,if_neg (by omega),t.low p h1 (by omega)]
 .rw[e1,if_neg (by omega),if_pos (by omega),t.high k (by omega) (by omega)]
  exact CD (by omega)
theorem Adu{l r:List α}{m k:Nat}(h:k<m)(hk:m<l.length)(hr:r.length=l.length)(t:Rot l r (k+1) m (m+1)):Rot l (C2 r (k+1) k) k m (m+1):=by
 have e1:∀ p,(C2 r (k+1) k)[p]? = if p=k then r[k+1]? else if p=k+1 then r[k]? else r[p]?:=λp=>by
  rw[DH (by omega) (by omega)]
  by_cases h1:p=k
  .subst h1
   rw[if_pos rfl,Ash (by rw[Are];omega),ξ (by omega)]
  .rw[if_neg h1,Ar6 (λe=>h1 e.symm)]
   by_cases h2:p=k+1
   .subst h2
    rw[if_pos rfl,Ash (by omega),ξ (by omega)]
   .rw[if_neg h2,Ar6 (λe=>h2 e.symm)]
 refine⟨λp hp=>?_,λp h1 h2=>?_,λp h1 h2=>?_⟩
 .rw[e1,if_neg (by omega),if_neg (by omega),t.out p (by omega)]
 .rw[e1,if_pos (by omega),t.low (k+1) (by omega) (by omega)]
  exact CD (by omega)
 .rw[e1,if_neg (by omega)]
  by_cases h:p=k+1
  .rw[if_pos h,t.out _ (by omega)]
   exact CD (by omega)
  .rw[if_neg h,t.high p (by omega) (by omega)]
end
theorem DJ{a b:Nat}(h:a+b<4611686018427387904):Af.conv .i64 (Af.shr .u64 (Af.conv .u64 (Af.add .i64 (a:Int) (b:Int))) 1)=(((a+b) / 2:Nat):Int):=by
 rw[EJ (by omega) (by omega),show (a:Int)+(b:Int)=((a+b:Nat):Int) by omega,Bo (by omega)];have:Af.shr .u64 ((a+b:Nat):Int) 1=(((a+b) / 2:Nat):Int):=by
  show Int.fdiv ((a+b:Nat):Int) (2 ^ 1)=_
  have:(2 ^ 1:Int)=((2:Nat):Int):=by decide
  rw[this,Int.fdiv_eq_ediv_of_nonneg _ (by omega)];rfl
 rw[this]
 show IntKind.i64.wrap (((a+b) / 2:Nat):Int)=_
 rw[IntKind.wrap_i64];omega
theorem JZ{a b:Nat}(h:a+b<4611686018427387904):Af.add .i64 (a:Int) (b:Int)=((a+b:Nat):Int):=by
 rw[EJ (by omega) (by omega)];omega
theorem CC{a b:Nat}(hb:b<=a)(h:a<4611686018427387904):Af.sub .i64 (a:Int) (b:Int)=((a-b:Nat):Int):=by
 rw[Dm (by omega) (by omega)];omega
theorem Ir{a:Nat}(hb:1<=a)(h:a<4611686018427387904):Af.sub .i64 (a:Int) 1=((a-1:Nat):Int):=by
 rw[Dm (by omega) (by omega)];omega
abbrev EB(l:List Pt):ABlk:=θ (Ah eP l) Δ Δ
section
variable {D:Orc} (K:Knows Al Ed D)
include K
theorem Akj(a b n:Nat)(l0:List Pt):∀(m i:Nat) (l:List Pt),n-i=m->i<=n->a+n<=b->b+n<=l.length->l.length<=1000000000->l.length=l0.length->SwR l0 l a b i->
  ∃ r:List Pt,D.ask (.lp 145 0) [.sl 0 0 l.length 3,iv (a:Int),iv (b:Int),iv (n:Int),iv (i:Int)] [EB l]=Θ (.tup [iv 0,.sl 0 0 l.length 3],[.set (EB r)])
   ∧ r.length=l.length/\r.Perm l/\SwR l0 r a b n:=by
 intro m
 induction m with
 |zero=>
  intro i l hm hi ha hb hl h0 hs;obtain rfl:i=n:=by omega
  refine⟨l,?_,rfl,List.Perm.refl _,hs⟩;refine Au K T5 (Abw ..) ?_;exact Ag rfl
 |succ m ih=>
  intro i l hm hi ha hb hl h0 hs;have hI:a+i<l.length:=by omega
  have hJ:b+i<l.length:=by omega
  have hlen:=Gz l (a+i) (b+i);obtain⟨r,g,hr,hp,ho⟩:=ih (i+1) (C2 l (a+i) (b+i)) (by omega) (by omega) ha (by omega) (by omega) (by omega) (AdU (by omega) (by omega) hs h0);rw[hlen]at g hr;refine⟨r,?_,hr,hp.trans (Ew _ _ _),ho⟩;refine Au K T5 (Abw ..) ?_;refine Aj ?_;rw[JZ (a:=b) (b:=i) (by omega),JZ (a:=a) (b:=i) (by omega),BA (by omega)];rw[Av,AQ hJ];refine Ac ?_;refine(Bx Ax l (b+i) hJ _).trans ?_;simp only[eP,eN,ND,DK,Ab];rw[Av,AQ hI];refine Ac ?_;refine(Bx Ax l (a+i) hI _).trans ?_;simp only[eP,eN,ND,DK,Ab];have s1:=CA Ax l (a+i) hI l[(b+i)];have s2:=CA Ax (l.set (a+i) l[(b+i)]) (b+i) (by rw[Are];exact hJ) l[(a+i)];rw[←DH hI hJ]at s2;simp only[eP,eN]at s1 s2;rw[Av,AQ hI];refine Ac ?_;rw[show AqZ (0+(a+i)*3+3) (Ah eP l).length=Δ by rw[AT Ax];simp;omega];refine Ac ?_;rw[Av,AQ hJ];refine Ac ?_;rw[s1,s2];rw[show AqZ (0+(b+i)*3+3) (Ah eP (l.set (a+i) l[(b+i)])).length=Δ by rw[AT Ax,Are];simp;omega];refine Ac ?_;refine Aa g ?_;rfl
theorem W3{a b n:Nat}{l:List Pt}(ha:a+n<=b)(hb:b+n<=l.length)(hl:l.length<=1000000000) :
  ∃ r:List Pt,D.ask (.fn 145) [.sl 0 0 l.length 3,iv (a:Int),iv (b:Int),iv (n:Int),Fv] [EB l]=Θ (.tup [],[.set (EB r)])
   ∧ r.length=l.length/\r.Perm l/\SwR l r a b n:=by
 obtain⟨r,g,h⟩:=Akj K a b n l _ 0 l rfl (by omega) ha hb hl rfl (AdV l a b);refine⟨r,?_,h⟩;refine AB K T5 (AoS ..) ?_;refine Aa g ?_;rfl
theorem Aka(m:Nat):∀(s i j:Nat) (l:List Pt),i+j=s->0<i->0<j->i<=m->m+j<=l.length->l.length<=1000000000->
  ∃(r:List Pt) (d:Nat),D.ask (.lp 142 0) [.sl 0 0 l.length 3,iv (m:Int),Fv,iv (i:Int),iv (j:Int)] [EB l]=Θ (.tup [iv 0,.sl 0 0 l.length 3,iv (m:Int),Fv,iv (d:Int)],[.set (EB r)])
   ∧ r.length=l.length/\r.Perm l/\d<=m/\m+d<=l.length/\∀ r2:List Pt,SwR r r2 (m-d) m d->Rot l r2 (m-i) m (m+j):=by
 intro s
 induction s using Asp with
 |_ s ih=>
  intro i j l hs hi hj him hl hn
  by_cases he:i=j
  .subst he
   refine⟨l,i,?_,rfl,List.Perm.refl _,him,hl,λr2 h=>Adx him h⟩;refine Au K Qx (VS ..) ?_;exact Bu rfl rfl
  by_cases hlt:j<i
  .obtain⟨r,g,hr,hp,hsw⟩:=W3 K (a:=m-i) (b:=m) (n:=j) (l:=l) (by omega) hl hn
   obtain⟨r2,d,g2,hr2,hp2,hd1,hd2,hd3⟩:=ih (i-j+j) (by omega) (i-j) j r rfl (by omega) hj (by omega) (by omega) (by omega);rw[hr]at g2 hr2 hd2;refine⟨r2,d,?_,hr2,hp2.trans hp,hd1,hd2,λr3 h=>Adv him hlt hsw (hd3 r3 h)⟩;refine Au K Qx (VS ..) ?_;refine AN ?_;refine Aj ?_;rw[CC him (by omega),CC (a:=i) (b:=j) (by omega) (by omega)];refine Aa g ?_;simp only[Fv,ND,DK,Ab];refine Aa g2 ?_;rfl
  .obtain⟨r,g,hr,hp,hsw⟩:=W3 K (a:=m-i) (b:=m+j-i) (n:=i) (l:=l) (by omega) (by omega) hn
   obtain⟨r2,d,g2,hr2,hp2,hd1,hd2,hd3⟩:=ih (i+(j-i)) (by omega) i (j-i) r rfl hi (by omega) him (by omega) (by omega);rw[hr]at g2 hr2 hd2;refine⟨r2,d,?_,hr2,hp2.trans hp,hd1,hd2,λr3 h=>ZP him (by omega) hsw (hd3 r3 h)⟩;refine Au K Qx (VS ..) ?_;refine AN ?_;refine Ag ?_;rw[CC him (by omega),JZ (a:=m) (b:=j) (by omega),CC (a:=m+j) (b:=i) (by omega) (by omega),CC (a:=j) (b:=i) (by omega) (by omega)];refine Aa g ?_;simp only[Fv,ND,DK,Ab];refine Aa g2 ?_;rfl
theorem Adw{a m b:Nat}{l:List Pt}(ha:a<m)(hm:m<b)(hb:b<=l.length)(hl:l.length<=1000000000) :
  ∃ r:List Pt,D.ask (.fn 142) [.sl 0 0 l.length 3,iv (a:Int),iv (m:Int),iv (b:Int),Fv] [EB l]=Θ (.tup [],[.set (EB r)])
   ∧ r.length=l.length/\r.Perm l/\Rot l r a m b:=by
 obtain⟨r,d,g,hr,hp,hd1,hd2,hd3⟩:=Aka K m _ (m-a) (b-m) l rfl (by omega) (by omega) (by omega) (by omega) hl;obtain⟨r2,g2,hr2,hp2,hsw⟩:=W3 K (a:=m-d) (b:=m) (n:=d) (l:=r) (by omega) (by omega) (by omega);have h:=hd3 r2 hsw;rw[show m-(m-a)=a by omega,show m+(b-m)=b by omega]at h;rw[hr]at g2;refine⟨r2,?_,by omega,hp2.trans hp,h⟩;refine AB K Qx (AoQ ..) ?_;rw[CC (a:=m) (b:=a) (by omega) (by omega),CC (a:=b) (b:=m) (by omega) (by omega)];refine Aa g ?_;simp only[Fv,ND,DK,Ab];rw[CC hd1 (by omega)];refine Aa g2 ?_;rfl
theorem AgJ(a m b:Nat)(l:List Pt)(hl:l.length<=1000000000)(ha:a<m)(hb:b<=l.length)(hs:Srt Pt.v l m b):∀(k i j:Nat),j-i=k->m<=i->i<=j->j<=b->(∀ p,m<=p->p<i->kf Pt.v l p<kf Pt.v l a)->(∀ p,j<=p->p<b->kf Pt.v l a<=kf Pt.v l p)->
  ∃ x:Nat,D.ask (.lp 129 0) [.sl 0 0 l.length 3,iv (a:Int),Fv,iv (i:Int),iv (j:Int)] [EB l]=Θ (.tup [iv 0,.sl 0 0 l.length 3,iv (a:Int),iv (x:Int)],[.set (EB l)])
   ∧ m<=x/\x<=b/\(∀ p,m<=p->p<x->kf Pt.v l p<kf Pt.v l a)/\(∀ p,x<=p->p<b->kf Pt.v l a<=kf Pt.v l p):=by
 intro k
 induction k using Asp with
 |_ k ih=>
  intro i j hk hmi hij hjb h1 h2
  by_cases he:i<j
  .have hH:(i+j) / 2<l.length:=by omega
   have hA:a<l.length:=by omega
   have kh:kf Pt.v l ((i+j) / 2)=l[(i+j) / 2].v:=EN Pt.v hH;have ka:kf Pt.v l a=l[a].v:=EN Pt.v hA
   by_cases hlt:l[(i+j) / 2].v<l[a].v
   .obtain⟨x,g,hx⟩:=ih (j-((i+j) / 2+1)) (by omega) ((i+j) / 2+1) j rfl (by omega) (by omega) hjb (λp p1 p2=>by
     by_cases hp:p=(i+j) / 2
     .rw[hp,kh,ka];exact hlt
     .have:=hs p ((i+j) / 2) p1 (by omega) (by omega)
      omega) h2
    refine⟨x,?_,hx⟩;refine Au K CM (VP ..) ?_;refine Aj ?_;refine Ag ?_ (by decide);rw[DJ (by omega),BA (by omega)];rw[Av,AQ hH];refine Ac ?_;refine(Bx Ax l ((i+j) / 2) hH _).trans ?_;simp only[eP,eN,ND,DK,Ab];rw[Av,AQ hA];refine Ac ?_;refine(Bx Ax l a hA _).trans ?_;simp only[eP,eN,ND,DK,Ab];refine Aa (HH K l[(i+j) / 2] l[a]) ?_;simp only[ND,DK,Ab];refine Aj ?_ (Fz.2 hlt);refine Aa g ?_;rfl
   .obtain⟨x,g,hx⟩:=ih ((i+j) / 2-i) (by omega) i ((i+j) / 2) rfl hmi (by omega) (by omega) h1 (λp p1 p2=>by
     by_cases hp:p=(i+j) / 2
     .rw[hp];omega
     .have:=hs ((i+j) / 2) p (by omega) (by omega) (by omega)
      omega)
    refine⟨x,?_,hx⟩;refine Au K CM (VP ..) ?_;refine Aj ?_;refine Ag ?_ (by decide);rw[DJ (by omega)];rw[Av,AQ hH];refine Ac ?_;refine(Bx Ax l ((i+j) / 2) hH _).trans ?_;simp only[eP,eN,ND,DK,Ab];rw[Av,AQ hA];refine Ac ?_;refine(Bx Ax l a hA _).trans ?_;simp only[eP,eN,ND,DK,Ab];refine Aa (HH K l[(i+j) / 2] l[a]) ?_;simp only[ND,DK,Ab];refine Ag ?_ (λh=>hlt (Fz.1 h));refine Aa g ?_;rfl
  .obtain rfl:i=j:=by omega
   refine⟨i,?_,hmi,hjb,h1,h2⟩;refine Au K CM (VP ..) ?_;exact Ag rfl
theorem AgK(a x:Nat)(l0:List Pt):∀(n k:Nat) (l:List Pt),x-1-k=n->a<=k->k<x->x<=l.length->l.length<=1000000000->l.length=l0.length->Rot l0 l a (a+1) (k+1)->
  ∃ r:List Pt,D.ask (.lp 129 1) [.sl 0 0 l.length 3,iv (x:Int),iv (k:Int)] [EB l]=Θ (.tup [iv 2,.sl 0 0 l.length 3],[.set (EB r)])
   ∧ r.length=l.length/\r.Perm l/\Rot l0 r a (a+1) x:=by
 intro n
 induction n with
 |zero=>
  intro k l hn ha hk hx hl h0 ht;obtain rfl:x=k+1:=by omega
  refine⟨l,?_,rfl,List.Perm.refl _,ht⟩;refine Au K CM (Abq ..) ?_;rw[Ir (by omega) (by omega)];exact Ag rfl
 |succ n ih=>
  intro k l hn ha hk hx hl h0 ht;have hI:k<l.length:=by omega
  have hJ:k+1<l.length:=by omega
  have hlen:=Gz l k (k+1);obtain⟨r,g,hr,hp,ho⟩:=ih (k+1) (C2 l k (k+1)) (by omega) (by omega) (by omega) (by omega) (by omega) (by omega) (Akb ha (by omega) h0 ht);rw[hlen]at g hr;refine⟨r,?_,hr,hp.trans (Ew _ _ _),ho⟩;refine Au K CM (Abq ..) ?_;rw[Ir (by omega) (by omega)];refine Aj ?_;rw[BA (by omega)];rw[Av,AQ hJ];refine Ac ?_;refine(Bx Ax l (k+1) hJ _).trans ?_;simp only[eP,eN,ND,DK,Ab];rw[Av,AQ hI];refine Ac ?_;refine(Bx Ax l k hI _).trans ?_;simp only[eP,eN,ND,DK,Ab];have s1:=CA Ax l k hI l[(k+1)];have s2:=CA Ax (l.set k l[(k+1)]) (k+1) (by rw[Are];exact hJ) l[k];rw[←DH hI hJ]at s2;simp only[eP,eN]at s1 s2;rw[Av,AQ hI];refine Ac ?_;rw[show AqZ (0+k*3+3) (Ah eP l).length=Δ by rw[AT Ax];simp;omega];refine Ac ?_;rw[Av,AQ hJ];refine Ac ?_;rw[s1,s2];rw[show AqZ (0+(k+1)*3+3) (Ah eP (l.set k l[(k+1)])).length=Δ by rw[AT Ax,Are];simp;omega];refine Ac ?_;refine Aa g ?_;rfl
theorem AgL(a m:Nat)(l:List Pt)(hl:l.length<=1000000000)(hb:m<l.length)(hs:Srt Pt.v l a m):∀(k i j:Nat),j-i=k->a<=i->i<=j->j<=m->(∀ p,a<=p->p<i->kf Pt.v l p<=kf Pt.v l m)->(∀ p,j<=p->p<m->kf Pt.v l m<kf Pt.v l p)->
  ∃ x:Nat,D.ask (.lp 129 2) [.sl 0 0 l.length 3,iv (m:Int),Fv,iv (i:Int),iv (j:Int)] [EB l]=Θ (.tup [iv 4,.sl 0 0 l.length 3,iv (m:Int),iv (x:Int)],[.set (EB l)])
   ∧ a<=x/\x<=m/\(∀ p,a<=p->p<x->kf Pt.v l p<=kf Pt.v l m)/\(∀ p,x<=p->p<m->kf Pt.v l m<kf Pt.v l p):=by
 intro k
 induction k using Asp with
 |_ k ih=>
  intro i j hk hmi hij hjb h1 h2
  by_cases he:i<j
  .have hH:(i+j) / 2<l.length:=by omega
   have kh:kf Pt.v l ((i+j) / 2)=l[(i+j) / 2].v:=EN Pt.v hH;have ka:kf Pt.v l m=l[m].v:=EN Pt.v hb
   by_cases hlt:l[m].v<l[(i+j) / 2].v
   .obtain⟨x,g,hx⟩:=ih ((i+j) / 2-i) (by omega) i ((i+j) / 2) rfl hmi (by omega) (by omega) h1 (λp p1 p2=>by
     by_cases hp:p=(i+j) / 2
     .rw[hp];omega
     .have:=hs ((i+j) / 2) p (by omega) (by omega) (by omega)
      omega)
    refine⟨x,?_,hx⟩;refine Au K CM (VQ ..) ?_;refine Aj ?_;refine Ag ?_ (by decide);rw[DJ (by omega)];rw[Av,AQ hb];refine Ac ?_;refine(Bx Ax l m hb _).trans ?_;simp only[eP,eN,ND,DK,Ab];rw[Av,AQ hH];refine Ac ?_;refine(Bx Ax l ((i+j) / 2) hH _).trans ?_;simp only[eP,eN,ND,DK,Ab];refine Aa (HH K l[m] l[(i+j) / 2]) ?_;simp only[ND,DK,Ab];refine Aj ?_ (Fz.2 hlt);refine Aa g ?_;rfl
   .obtain⟨x,g,hx⟩:=ih (j-((i+j) / 2+1)) (by omega) ((i+j) / 2+1) j rfl (by omega) (by omega) hjb (λp p1 p2=>by
     by_cases hp:p=(i+j) / 2
     .rw[hp];omega
     .have:=hs p ((i+j) / 2) p1 (by omega) (by omega)
      omega) h2
    refine⟨x,?_,hx⟩;refine Au K CM (VQ ..) ?_;refine Aj ?_;refine Ag ?_ (by decide);rw[DJ (by omega),BA (by omega)];rw[Av,AQ hb];refine Ac ?_;refine(Bx Ax l m hb _).trans ?_;simp only[eP,eN,ND,DK,Ab];rw[Av,AQ hH];refine Ac ?_;refine(Bx Ax l ((i+j) / 2) hH _).trans ?_;simp only[eP,eN,ND,DK,Ab];refine Aa (HH K l[m] l[(i+j) / 2]) ?_;simp only[ND,DK,Ab];refine Ag ?_ (λh=>hlt (Fz.1 h));refine Aa g ?_;rfl
  .obtain rfl:i=j:=by omega
   refine⟨i,?_,hmi,hjb,h1,h2⟩;refine Au K CM (VQ ..) ?_;exact Ag rfl
theorem AgM(m x:Nat)(l0:List Pt):∀(n k:Nat) (l:List Pt),k-x=n->x<=k->k<=m->m<l.length->l.length<=1000000000->l.length=l0.length->Rot l0 l k m (m+1)->
  ∃ r:List Pt,D.ask (.lp 129 3) [.sl 0 0 l.length 3,iv (x:Int),iv (k:Int)] [EB l]=Θ (.tup [iv 6,.sl 0 0 l.length 3],[.set (EB r)])
   ∧ r.length=l.length/\r.Perm l/\Rot l0 r x m (m+1):=by
 intro n
 induction n with
 |zero=>
  intro k l hn hx hk hm hl h0 ht;obtain rfl:x=k:=by omega
  refine⟨l,?_,rfl,List.Perm.refl _,ht⟩;refine Au K CM (Abr ..) ?_;exact Ag rfl
 |succ n ih=>
  intro k l hn hx hk hm hl h0 ht;obtain⟨j,rfl⟩:∃ j,k=j+1:=⟨k-1,by omega⟩;have hI:j+1<l.length:=by omega
  have hJ:j<l.length:=by omega
  have hlen:=Gz l (j+1) j;obtain⟨r,g,hr,hp,ho⟩:=ih j (C2 l (j+1) j) (by omega) (by omega) (by omega) (by omega) (by omega) (by omega) (Adu (by omega) (by omega) h0 ht);rw[hlen]at g hr;refine⟨r,?_,hr,hp.trans (Ew _ _ _),ho⟩;refine Au K CM (Abr ..) ?_;refine Aj ?_;rw[Lc (by omega)];rw[Av,AQ hJ];refine Ac ?_;refine(Bx Ax l j hJ _).trans ?_;simp only[eP,eN,ND,DK,Ab];rw[Av,AQ hI];refine Ac ?_;refine(Bx Ax l (j+1) hI _).trans ?_;simp only[eP,eN,ND,DK,Ab];have s1:=CA Ax l (j+1) hI l[j];have s2:=CA Ax (l.set (j+1) l[j]) j (by rw[Are];exact hJ) l[(j+1)];rw[←DH hI hJ]at s2;simp only[eP,eN]at s1 s2;rw[Av,AQ hI];refine Ac ?_;rw[show AqZ (0+(j+1)*3+3) (Ah eP l).length=Δ by rw[AT Ax];simp;omega];refine Ac ?_;rw[Av,AQ hJ];refine Ac ?_;rw[s1,s2];rw[show AqZ (0+j*3+3) (Ah eP (l.set (j+1) l[j])).length=Δ by rw[AT Ax,Are];simp;omega];refine Ac ?_;refine Aa g ?_;rfl
theorem Ys(a m b mid x y:Nat)(l:List Pt)(hl:l.length<=1000000000)(hb:b<=l.length)(hs1:Srt Pt.v l a m)(hs2:Srt Pt.v l m b)(hx:a<=x)(hy:y<=m)(hn:mid+m<=x+b)(hm:y<=mid)(hmid:mid<=b)(hmb:m<=b):∀(k s r:Nat),r-s=k->Bs Pt.v l (mid+m) x y s r->
  ∃ z:Nat,D.ask (.lp 129 4) [.sl 0 0 l.length 3,iv (a:Int),iv (m:Int),iv (b:Int),Fv,iv (mid:Int),iv ((mid+m:Nat):Int),iv (s:Int),iv (r:Int),iv ((mid+m-1:Nat):Int)] [EB l]=Θ (.tup [iv 8,.sl 0 0 l.length 3,iv (a:Int),iv (m:Int),iv (b:Int),Fv,iv (mid:Int),iv ((mid+m:Nat):Int),iv (z:Int)],[.set (EB l)])
   ∧ Bs Pt.v l (mid+m) x y z z:=by
 intro k
 induction k using Asp with
 |_ k ih=>
  intro s r hk B;have:=B.xs;have:=B.sr;have:=B.ry
  by_cases he:s<r
  .have hH:(s+r) / 2<l.length:=by omega
   have hP:mid+m-1-(s+r) / 2<l.length:=by omega
   have kh:kf Pt.v l ((s+r) / 2)=l[(s+r) / 2].v:=EN Pt.v hH;have kp:kf Pt.v l (mid+m-1-(s+r) / 2)=l[mid+m-1-(s+r) / 2].v:=EN Pt.v hP
   by_cases hlt:l[mid+m-1-(s+r) / 2].v<l[(s+r) / 2].v
   .obtain⟨z,g,hz⟩:=ih ((s+r) / 2-s) (by omega) s ((s+r) / 2) rfl (B.dn Pt.v hs1 hs2 hx hy (by omega) (by omega) (by omega) (by omega) (by omega))
    refine⟨z,?_,hz⟩;refine Au K CM (VR ..) ?_;refine Aj ?_;refine Ag ?_ (by decide);rw[DJ (by omega),CC (a:=mid+m-1) (b:=(s+r) / 2) (by omega) (by omega)];rw[Av,AQ hP];refine Ac ?_;refine(Bx Ax l (mid+m-1-(s+r) / 2) hP _).trans ?_;simp only[eP,eN,ND,DK,Ab];rw[Av,AQ hH];refine Ac ?_;refine(Bx Ax l ((s+r) / 2) hH _).trans ?_;simp only[eP,eN,ND,DK,Ab];refine Aa (HH K l[mid+m-1-(s+r) / 2] l[(s+r) / 2]) ?_;simp only[ND,DK,Ab];refine Aj ?_ (Fz.2 hlt);refine Aa g ?_;rfl
   .obtain⟨z,g,hz⟩:=ih (r-((s+r) / 2+1)) (by omega) ((s+r) / 2+1) r rfl (B.up Pt.v hs1 hs2 hx hy (by omega) (by omega) (by omega) (by omega) (by omega))
    refine⟨z,?_,hz⟩;refine Au K CM (VR ..) ?_;refine Aj ?_;refine Ag ?_ (by decide);rw[DJ (by omega),CC (a:=mid+m-1) (b:=(s+r) / 2) (by omega) (by omega),BA (by omega)];rw[Av,AQ hP];refine Ac ?_;refine(Bx Ax l (mid+m-1-(s+r) / 2) hP _).trans ?_;simp only[eP,eN,ND,DK,Ab];rw[Av,AQ hH];refine Ac ?_;refine(Bx Ax l ((s+r) / 2) hH _).trans ?_;simp only[eP,eN,ND,DK,Ab];refine Aa (HH K l[mid+m-1-(s+r) / 2] l[(s+r) / 2]) ?_;simp only[ND,DK,Ab];refine Ag ?_ (λh=>hlt (Fz.1 h));refine Aa g ?_;rfl
  .obtain rfl:s=r:=by omega
   refine⟨s,?_,B⟩;refine Au K CM (VR ..) ?_;exact Ag rfl
end
def tl2(D:Orc)(n:Nat)(mid e b:Int)(cs:List AV):KR:=
 br (Af.lt mid e)
  (br (Af.lt e b)
   (AA D (.fn 129) [.sl 0 0 n 3,iv mid,iv e,iv b,Fv] [θ cs Δ Δ] λr o=>
   Lm r λcs4=>
   Ft cs4<|
   EP o λc l=>
   GB Δ Δ c λcs5=>
   DI l<|
   Θ ((γ [],[AqV (θ cs5 Δ Δ)])))
   (Θ ((γ [],[AqV (θ cs Δ Δ)]))))
  (Θ ((γ [],[AqV (θ cs Δ Δ)])))
def tl1(D:Orc)(n:Nat)(a s mid e b:Int)(cs:List AV):KR:=
 br (Af.lt a s)
  (br (Af.lt s mid)
   (AA D (.fn 129) [.sl 0 0 n 3,iv a,iv s,iv mid,Fv] [θ cs Δ Δ] λr o=>
   Lm r λcs4=>
   Ft cs4<|
   EP o λc l=>
   GB Δ Δ c λcs5=>
   DI l<|
   tl2 D n mid e b cs5)
   (tl2 D n mid e b cs))
  (tl2 D n mid e b cs)
section
variable {D:Orc}
def Ni(D:Orc)(N:Nat):Prop:=∀(l:List Pt) (a m b:Nat),b-a<N->a<m->m<b->b<=l.length->l.length<=1000000000->Srt Pt.v l a m->Srt Pt.v l m b->
 ∃ r:List Pt,D.ask (.fn 129) [.sl 0 0 l.length 3,iv (a:Int),iv (m:Int),iv (b:Int),Fv] [EB l]=Θ (.tup [],[.set (EB r)])
  ∧ r.length=l.length/\r.Perm l/\Srt Pt.v r a b/\Same0 l r a b
theorem Akm{N:Nat}(ih:Ni D N){l:List Pt}{mid e b:Nat}(hN:b-mid<N)(h1:mid<=e)(h2:e<=b)(hb:b<=l.length)(hl:l.length<=1000000000)(s1:Srt Pt.v l mid e)(s2:Srt Pt.v l e b) :
  ∃ r:List Pt,tl2 D l.length (mid:Int) (e:Int) (b:Int) (Ah eP l)=Θ (.tup [],[.set (EB r)])/\r.length=l.length/\r.Perm l/\Srt Pt.v r mid b/\Same0 l r mid b:=by
 by_cases q1:mid<e
 .by_cases q2:e<b
  .obtain⟨r,g,hr,hp,ho,hs⟩:=ih l mid e b hN q1 q2 hb hl s1 s2
   refine⟨r,?_,hr,hp,ho,hs⟩;unfold tl2;refine Aj ?_;refine Aj ?_;refine Aa g ?_;rfl
  .refine⟨l,?_,rfl,List.Perm.refl _,K9 Pt.v (.inr (by omega)) s1 s2,Do _ _ _⟩
   unfold tl2;refine Aj ?_;exact Ag rfl
 .refine⟨l,?_,rfl,List.Perm.refl _,K9 Pt.v (.inl (by omega)) s1 s2,Do _ _ _⟩
  unfold tl2;exact Ag rfl
theorem Mn{N:Nat}(ih:Ni D N){l:List Pt}{a s mid e b:Nat}(hN:mid-a<N)(hN2:b-mid<N)(h1:a<=s)(h2:s<=mid)(h3:mid<=e)(h4:e<=b)(hb:b<=l.length)(hl:l.length<=1000000000)(s1:Srt Pt.v l a s)(s2:Srt Pt.v l s mid)(s3:Srt Pt.v l mid e)(s4:Srt Pt.v l e b)(lo:Low Pt.v l a mid b) :
  ∃ r:List Pt,tl1 D l.length (a:Int) (s:Int) (mid:Int) (e:Int) (b:Int) (Ah eP l)=Θ (.tup [],[.set (EB r)])/\r.length=l.length/\r.Perm l/\Srt Pt.v r a b/\Same0 l r a b:=by
 have fin:∀{l1:List Pt},l1.length=l.length->l1.Perm l->Srt Pt.v l1 a mid->Same0 l l1 a mid->∃ r:List Pt,tl2 D l.length (mid:Int) (e:Int) (b:Int) (Ah eP l1)=Θ (.tup [],[.set (EB r)])/\r.length=l.length/\r.Perm l/\Srt Pt.v r a b/\Same0 l r a b:=by
  intro l1 k1 k2 k3 k4;have lo1:=AcG Pt.v lo k2 k4 (by omega);obtain⟨r,g,hr,hp,ho,hs⟩:=Akm ih (l:=l1) (mid:=mid) (e:=e) (b:=b) hN2 h3 h4 (by omega) (by omega) (s3.same' Pt.v k4 (.inr (π _))) (s4.same' Pt.v k4 (.inr h3));rw[k1]at g hr;exact⟨r,g,hr,hp.trans k2,AgE Pt.v (k3.same' Pt.v hs (.inl (π _))) ho (Zq Pt.v lo1 hp hs (by omega)),(k4.wide (π _) (by omega)).trans (hs.wide (by omega) (π _))⟩
 by_cases q1:a<s
 .by_cases q2:s<mid
  .obtain⟨r,g,hr,hp,ho,hs⟩:=ih l a s mid hN q1 q2 (by omega) hl s1 s2
   obtain⟨r2,g2,h⟩:=fin hr hp ho hs;refine⟨r2,?_,h⟩;unfold tl1;refine Aj ?_;refine Aj ?_;refine Aa g ?_;exact g2
  .obtain⟨r2,g2,h⟩:=fin (l1:=l) rfl (List.Perm.refl _) (K9 Pt.v (.inr (by omega)) s1 s2) (Do _ _ _)
   refine⟨r2,?_,h⟩;unfold tl1;refine Aj ?_;exact(CK (by omega)).trans g2
 .obtain⟨r2,g2,h⟩:=fin (l1:=l) rfl (List.Perm.refl _) (K9 Pt.v (.inl (by omega)) s1 s2) (Do _ _ _)
  refine⟨r2,?_,h⟩;unfold tl1;exact(CK (by omega)).trans g2
variable (K:Knows Al Ed D)
include K
theorem AgI:∀ N,Ni D N:=by
 intro N
 induction N with
 |zero=>intro l a m b h;omega
 |succ N ih0=>
  intro l a m b hN ha hm hb hl hs1 hs2
  by_cases hA:m-a=1
  .obtain rfl:m=a+1:=by omega
   obtain⟨x,g1,x1,x2,x3,x4⟩:=AgJ K a (a+1) b l hl (by omega) hb hs2 _ (a+1) b rfl (π _) (by omega) (π _) (λp p1 p2=>by omega) (λp p1 p2=>by omega);obtain⟨r,g2,r1,r2,r3⟩:=AgK K a x l _ a l rfl (π _) (by omega) (by omega) hl rfl (Gv (.inr rfl) (by omega) (by omega));refine⟨r,?_,r1,r2,Us Pt.v x1 x2 hs2 x3 x4 r3,λp hp=>r3.out p (by omega)⟩;refine AB K CM (TB ..) ?_;rw[CC (a:=a+1) (b:=a) (by omega) (by omega)];refine Bu ?_;refine Aa g1 ?_;simp only[Fv,ND,DK,Ab];refine Aa g2 ?_;rfl
  by_cases hB:b-m=1
  .obtain rfl:b=m+1:=by omega
   obtain⟨x,g1,x1,x2,x3,x4⟩:=AgL K a m l hl (by omega) hs1 _ a m rfl (π _) (by omega) (π _) (λp p1 p2=>by omega) (λp p1 p2=>by omega);obtain⟨r,g2,r1,r2,r3⟩:=AgM K m x l _ m l rfl x2 (π _) (by omega) hl rfl (Gv (.inl rfl) (by omega) (by omega));refine⟨r,?_,r1,r2,Wt Pt.v x1 x2 hs1 x3 x4 r3,λp hp=>r3.out p (by omega)⟩;refine AB K CM (TB ..) ?_;rw[CC (a:=m) (b:=a) (by omega) (by omega)];refine AN ?_;rw[CC (a:=m+1) (b:=m) (by omega) (by omega)];refine Bu ?_;refine Aa g1 ?_;simp only[Fv,ND,DK,Ab];refine Ac ?_;refine Aa g2 ?_;rfl
  have ih:Ni D N:=ih0
  by_cases hC:(a+b) / 2<m
  .obtain⟨z,g4,B⟩:=Ys K a m b ((a+b) / 2) ((a+b) / 2+m-b) ((a+b) / 2) l hl hb hs1 hs2 (by omega) (by omega) (by omega) (by omega) (by omega) (by omega) _ ((a+b) / 2+m-b) ((a+b) / 2) rfl ⟨π _,by omega,π _,λc c1 c2=>by omega,λc c1 c2=>by omega⟩
   have C:=B.cut Pt.v hs1 hs2 (by omega) (by omega) (by omega) (by omega) (.inr (by omega)) (.inr rfl);have:=C.asl;have:=C.sm;have:=C.me;have:=C.eb;have:=C.mid;have:=B.ry;have:=B.xs;have e0:Af.sub .i64 (((a+b) / 2+m:Nat):Int) (z:Int)=(((a+b) / 2+m-z:Nat):Int):=CC (by omega) (by omega)
   by_cases w1:z<m
   .by_cases w2:m<(a+b) / 2+m-z
    .obtain⟨l1,g5,k1,k2,k3⟩:=Adw K w1 w2 (by omega) hl
     obtain⟨f1,f2,f3,f4,f5⟩:=E7 Pt.v C hs1 hs2 k3;obtain⟨r,g6,r1,r2,r3,r4⟩:=Mn ih (l:=l1) (a:=a) (s:=z) (mid:=(a+b) / 2) (e:=(a+b) / 2+m-z) (b:=b) (by omega) (by omega) (by omega) (by omega) (by omega) (by omega) (by omega) (by omega) f1 f2 f3 f4 f5;have sm:Same0 l l1 a b:=λp hp=>k3.out p (by omega)
     rw[k1]at g6 r1;refine⟨r,?_,r1,r2.trans k2,r3,sm.trans r4⟩;refine AB K CM (TB ..) ?_;rw[CC (a:=m) (b:=a) (by omega) (by omega)];refine AN ?_;rw[CC (a:=b) (b:=m) (by omega) (by omega)];refine AN ?_;refine Ag ?_ (by decide);rw[DJ (a:=a) (b:=b) (by omega)];rw[JZ (a:=(a+b) / 2) (b:=m) (by omega),Ir (a:=(a+b) / 2+m) (by omega) (by omega)];rw[CC (a:=(a+b) / 2+m) (b:=b) (by omega) (by omega)];refine Aj ?_;refine Aa g4 ?_;simp only[Fv,ND,DK,Ab];refine Ac ?_;rw[e0];refine Aj ?_;refine Aj ?_;refine Aa g5 ?_;exact g6
    .obtain⟨f1,f2,f3,f4,f5⟩:=E7 Pt.v C hs1 hs2 (Gv (l:=l) (.inr (by omega)) (by omega) (by omega))
     obtain⟨r,g6,r1,r2,r3,r4⟩:=Mn ih (l:=l) (a:=a) (s:=z) (mid:=(a+b) / 2) (e:=(a+b) / 2+m-z) (b:=b) (by omega) (by omega) (by omega) (by omega) (by omega) (by omega) (by omega) (by omega) f1 f2 f3 f4 f5;refine⟨r,?_,r1,r2,r3,r4⟩;refine AB K CM (TB ..) ?_;rw[CC (a:=m) (b:=a) (by omega) (by omega)];refine AN ?_;rw[CC (a:=b) (b:=m) (by omega) (by omega)];refine AN ?_;refine Ag ?_ (by decide);rw[DJ (a:=a) (b:=b) (by omega)];rw[JZ (a:=(a+b) / 2) (b:=m) (by omega),Ir (a:=(a+b) / 2+m) (by omega) (by omega)];rw[CC (a:=(a+b) / 2+m) (b:=b) (by omega) (by omega)];refine Aj ?_;refine Aa g4 ?_;simp only[Fv,ND,DK,Ab];refine Ac ?_;rw[e0];refine Aj ?_;refine Ag ?_;exact g6
   .obtain⟨f1,f2,f3,f4,f5⟩:=E7 Pt.v C hs1 hs2 (Gv (l:=l) (.inl (by omega)) (by omega) (by omega))
    obtain⟨r,g6,r1,r2,r3,r4⟩:=Mn ih (l:=l) (a:=a) (s:=z) (mid:=(a+b) / 2) (e:=(a+b) / 2+m-z) (b:=b) (by omega) (by omega) (by omega) (by omega) (by omega) (by omega) (by omega) (by omega) f1 f2 f3 f4 f5;refine⟨r,?_,r1,r2,r3,r4⟩;refine AB K CM (TB ..) ?_;rw[CC (a:=m) (b:=a) (by omega) (by omega)];refine AN ?_;rw[CC (a:=b) (b:=m) (by omega) (by omega)];refine AN ?_;refine Ag ?_ (by decide);rw[DJ (a:=a) (b:=b) (by omega)];rw[JZ (a:=(a+b) / 2) (b:=m) (by omega),Ir (a:=(a+b) / 2+m) (by omega) (by omega)];rw[CC (a:=(a+b) / 2+m) (b:=b) (by omega) (by omega)];refine Aj ?_;refine Aa g4 ?_;simp only[Fv,ND,DK,Ab];refine Ac ?_;rw[e0];refine Ag ?_;exact g6
  .obtain⟨z,g4,B⟩:=Ys K a m b ((a+b) / 2) a m l hl hb hs1 hs2 (by omega) (by omega) (by omega) (by omega) (by omega) (by omega) _ a m rfl ⟨π _,by omega,π _,λc c1 c2=>by omega,λc c1 c2=>by omega⟩
   have C:=B.cut Pt.v hs1 hs2 (by omega) (by omega) (by omega) (by omega) (.inl rfl) (.inl rfl);have:=C.asl;have:=C.sm;have:=C.me;have:=C.eb;have:=C.mid;have:=B.ry;have:=B.xs;have e0:Af.sub .i64 (((a+b) / 2+m:Nat):Int) (z:Int)=(((a+b) / 2+m-z:Nat):Int):=CC (by omega) (by omega)
   by_cases w1:z<m
   .by_cases w2:m<(a+b) / 2+m-z
    .obtain⟨l1,g5,k1,k2,k3⟩:=Adw K w1 w2 (by omega) hl
     obtain⟨f1,f2,f3,f4,f5⟩:=E7 Pt.v C hs1 hs2 k3;obtain⟨r,g6,r1,r2,r3,r4⟩:=Mn ih (l:=l1) (a:=a) (s:=z) (mid:=(a+b) / 2) (e:=(a+b) / 2+m-z) (b:=b) (by omega) (by omega) (by omega) (by omega) (by omega) (by omega) (by omega) (by omega) f1 f2 f3 f4 f5;have sm:Same0 l l1 a b:=λp hp=>k3.out p (by omega)
     rw[k1]at g6 r1;refine⟨r,?_,r1,r2.trans k2,r3,sm.trans r4⟩;refine AB K CM (TB ..) ?_;rw[CC (a:=m) (b:=a) (by omega) (by omega)];refine AN ?_;rw[CC (a:=b) (b:=m) (by omega) (by omega)];refine AN ?_;refine Ag ?_ (by decide);rw[DJ (a:=a) (b:=b) (by omega)];rw[JZ (a:=(a+b) / 2) (b:=m) (by omega),Ir (a:=(a+b) / 2+m) (by omega) (by omega)];refine Ag ?_;refine Aa g4 ?_;simp only[Fv,ND,DK,Ab];refine Ac ?_;rw[e0];refine Aj ?_;refine Aj ?_;refine Aa g5 ?_;exact g6
    .obtain⟨f1,f2,f3,f4,f5⟩:=E7 Pt.v C hs1 hs2 (Gv (l:=l) (.inr (by omega)) (by omega) (by omega))
     obtain⟨r,g6,r1,r2,r3,r4⟩:=Mn ih (l:=l) (a:=a) (s:=z) (mid:=(a+b) / 2) (e:=(a+b) / 2+m-z) (b:=b) (by omega) (by omega) (by omega) (by omega) (by omega) (by omega) (by omega) (by omega) f1 f2 f3 f4 f5;refine⟨r,?_,r1,r2,r3,r4⟩;refine AB K CM (TB ..) ?_;rw[CC (a:=m) (b:=a) (by omega) (by omega)];refine AN ?_;rw[CC (a:=b) (b:=m) (by omega) (by omega)];refine AN ?_;refine Ag ?_ (by decide);rw[DJ (a:=a) (b:=b) (by omega)];rw[JZ (a:=(a+b) / 2) (b:=m) (by omega),Ir (a:=(a+b) / 2+m) (by omega) (by omega)];refine Ag ?_;refine Aa g4 ?_;simp only[Fv,ND,DK,Ab];refine Ac ?_;rw[e0];refine Aj ?_;refine Ag ?_;exact g6
   .obtain⟨f1,f2,f3,f4,f5⟩:=E7 Pt.v C hs1 hs2 (Gv (l:=l) (.inl (by omega)) (by omega) (by omega))
    obtain⟨r,g6,r1,r2,r3,r4⟩:=Mn ih (l:=l) (a:=a) (s:=z) (mid:=(a+b) / 2) (e:=(a+b) / 2+m-z) (b:=b) (by omega) (by omega) (by omega) (by omega) (by omega) (by omega) (by omega) (by omega) f1 f2 f3 f4 f5;refine⟨r,?_,r1,r2,r3,r4⟩;refine AB K CM (TB ..) ?_;rw[CC (a:=m) (b:=a) (by omega) (by omega)];refine AN ?_;rw[CC (a:=b) (b:=m) (by omega) (by omega)];refine AN ?_;refine Ag ?_ (by decide);rw[DJ (a:=a) (b:=b) (by omega)];rw[JZ (a:=(a+b) / 2) (b:=m) (by omega),Ir (a:=(a+b) / 2+m) (by omega) (by omega)];refine Ag ?_;refine Aa g4 ?_;simp only[Fv,ND,DK,Ab];refine Ac ?_;rw[e0];refine Ag ?_;exact g6
theorem Zt:NF D:=λl a m b h1 h2 h3 h4 h5 h6=>AgI K (b-a+1) l a m b (by omega) h1 h2 h3 h4 h5 h6
theorem U4{l:List Pt}(hl:l.length<=1000000000) :
  ∃ r:List Pt,D.ask (.fn 60) [.sl 0 0 l.length 3,Fv] [EB l]=Θ (.tup [],[.set (EB r)])
   ∧ r.length=l.length/\r.Perm l/\Srt Pt.v r 0 r.length:=AgD K (Zt K) hl
end
def fnZ:AV:=.fn (.func 65) [] []
section
variable {D:Orc} (K:Knows Al Ed D)
include K
theorem Ajk(P:Pt->Bool)(l:List Pt)(hl:l.length<=1000000000)(hP:∀ p∈l,D.ask (.fn 65) [.agg (eP p)] []=Θ (bv (P p),[])):∀(m i:Nat),l.length-i=m->i<=l.length->
  D.ask (.lp 104 0) [.sl 0 0 l.length 3,fnZ,iv (l.length:Int),iv (i:Int)] [θ (Ah eP l) Δ Δ]
   = if i+(l.drop i).findIdx P<l.length then Θ (.tup [bv Δ,.sl 0 0 l.length 3,iv ((i+(l.drop i).findIdx P:Nat):Int)],[.set (θ (Ah eP l) Δ Δ)]) else Θ (.tup [iv 0,.sl 0 0 l.length 3],[.set (θ (Ah eP l) Δ Δ)]):=by
 intro m
 induction m with
 |zero=>
  intro i hm hi;rw[if_neg (by omega)];refine Au K Ot (RM ..) ?_;exact Ag rfl
 |succ m ih=>
  intro i hm hi;have h1:i<l.length:=by omega
  have g:=hP l[i] (Arc h1);have ih':=ih (i+1) (by omega) (by omega);rw[κ h1,AsP]
  cases hp:P l[i]with
  |true=>
   rw[hp]at g;rw[if_pos (by simpa using h1)];refine Au K Ot (RM ..) ?_;refine Aj ?_;rw[Av,AQ h1];refine Ac ?_;refine(Bx Ax l i h1 _).trans ?_;simp only[eP,eN,ND,DK,Ab];refine Aa g ?_;simp only[ND,DK,Ab];rfl
  |false=>
   rw[hp]at g;rw[show (bif Φ then 0 else(l.drop (i+1)).findIdx P+1)=(l.drop (i+1)).findIdx P+1 from rfl,show i+((l.drop (i+1)).findIdx P+1)=i+1+(l.drop (i+1)).findIdx P by omega]
   by_cases h:i+1+(l.drop (i+1)).findIdx P<l.length
   .rw[if_pos h]at ih' ⊢
    refine Au K Ot (RM ..) ?_;refine Aj ?_;rw[Av,AQ h1];refine Ac ?_;refine(Bx Ax l i h1 _).trans ?_;simp only[eP,eN,ND,DK,Ab];refine Aa g ?_;simp only[ND,DK,Ab];rw[BA (by omega)];refine Aa ih' ?_;rfl
   .rw[if_neg h]at ih' ⊢
    refine Au K Ot (RM ..) ?_;refine Aj ?_;rw[Av,AQ h1];refine Ac ?_;refine(Bx Ax l i h1 _).trans ?_;simp only[eP,eN,ND,DK,Ab];refine Aa g ?_;simp only[ND,DK,Ab];rw[BA (by omega)];refine Aa ih' ?_;rfl
theorem Ajl(P:Pt->Bool)(l:List Pt)(hl:l.length<=1000000000)(hP:∀ p∈l,D.ask (.fn 65) [.agg (eP p)] []=Θ (bv (P p),[])) :
  D.ask (.fn 104) [.sl 0 0 l.length 3,fnZ] [θ (Ah eP l) Δ Δ]
   = Θ (iv (if l.findIdx P<l.length then(l.findIdx P:Int) else -1),[.set (θ (Ah eP l) Δ Δ)]):=by
 have g:=Ajk K P l hl hP _ 0 rfl (by omega);rw[AqQ,Ara]at g;refine AB K Ot (Aox ..) ?_
 by_cases h:l.findIdx P<l.length
 .rw[if_pos h]at g ⊢
  refine Aa g ?_;rfl
 .rw[if_neg h]at g ⊢
  refine Aa g ?_;rfl
theorem AiZ(P:Pt->Bool)(Q:Pt->Prop)(hP:∀ p,Q p->D.ask (.fn 65) [.agg (eP p)] []=Θ (bv (P p),[])):∀(m j i:Nat) (l:List Pt),l.length-j=m->i<=j->j<=l.length->l.length<=1000000000->(∀ p∈l.drop j,Q p)->
  ∃(r:List Pt) (c:Nat),D.ask (.lp 64 0) [.sl 0 0 l.length 3,fnZ,iv (i:Int),iv (j:Int)] [θ (Ah eP l) Δ Δ]
   = Θ (.tup [iv 0,.sl 0 0 l.length 3,iv (c:Int)],[.set (θ (Ah eP r) Δ Δ)])
   ∧ r.length=l.length/\c<=l.length/\r.take c=l.take i++(l.drop j).filter (λp=>!P p):=by
 intro m
 induction m with
 |zero=>
  intro j i l hm hi hj hl hq;refine⟨l,i,?_,rfl,by omega,?_⟩
  .refine Au K Wh (Abz ..) ?_
   exact Ag rfl
  .rw[AqX (by omega),List.filter_nil,ArB]
 |succ m ih=>
  intro j i l hm hi hj hl hq;have h1:j<l.length:=by omega
  have h0:i<l.length:=by omega
  have ed:=κ h1;have g:=hP l[j] (hq _ (by rw[ed];exact AqS ..));rw[ed,AsZ]
  cases hp:P l[j]with
  |true=>
   rw[hp]at g;obtain⟨r,c,g2,hr,hc,he⟩:=ih (j+1) i l (by omega) (by omega) (by omega) hl (λp h=>hq p (by rw[ed];exact ο _ h));refine⟨r,c,?_,hr,hc,he⟩;refine Au K Wh (Abz ..) ?_;refine Aj ?_;rw[Av,AQ h1];refine Ac ?_;refine(Bx Ax l j h1 _).trans ?_;simp only[eP,eN,ND,DK,Ab];refine Aa g ?_;simp only[ND,DK,Ab];rw[BA (by omega)];refine Aa g2 ?_;rfl
  |false=>
   rw[hp]at g;have hd:(l.set i l[j]).drop (j+1)=l.drop (j+1):=List.drop_set_of_lt (by omega);obtain⟨r,c,g2,hr,hc,he⟩:=ih (j+1) (i+1) (l.set i l[j]) (by rw[Are];omega) (by omega) (by rw[Are];omega) (by rw[Are];exact hl) (λp h=>hq p (by rw[ed];rw[hd]at h;exact ο _ h));rw[Are]at g2 hr hc;have s1:=CA Ax l i h0 l[j];simp only[eP,eN]at s1;refine⟨r,c,?_,hr,hc,?_⟩
   .skip
    refine Au K Wh (Abz ..) ?_;refine Aj ?_;rw[Av,AQ h1];refine Ac ?_;refine(Bx Ax l j h1 _).trans ?_;simp only[eP,eN,ND,DK,Ab];refine Aa g ?_;simp only[ND,DK,Ab];rw[Av,AQ h0];refine Ac ?_;rw[show AqZ (0+i*3+3) (Ah eP l).length=Δ by rw[AT Ax];simp;omega];refine Ac ?_;rw[s1,BA (by omega),BA (by omega)];refine Aa g2 ?_;rfl
   .rw[he,hd,List.take_succ_eq_append_getElem (by rw[Are];exact h0),List.getElem_set_self,List.take_set_of_le (π _),AqY]
    rfl
omit K in
theorem Of(P:Pt->Bool):∀ l:List Pt,l.findIdx P<l.length->l.take (l.findIdx P)++(l.drop (l.findIdx P+1)).filter (λp=>!P p)=l.filter (λp=>!P p)
 |[],h=>by simp at h
 |x::r,h=>by
  rw[AsP]at h ⊢
  cases hp:P x with
  |true=>simp[hp]
  |false=>
   rw[hp]at h;have:=Of P r (by simpa using h);simp only[cond_false,List.take_succ_cons,List.drop_succ_cons,AsZ,hp,Bool.not_false,if_true,List.cons_append];rw[this]
omit K in
theorem TF(P:Pt->Bool)(l:List Pt)(h:¬ l.findIdx P<l.length):l.filter (λp=>!P p)=l:=by
 rw[List.filter_eq_self];intro p hp
 cases e:P p with
 |false=>rfl
 |true=>exact absurd (List.findIdx_lt_length_of_exists ⟨p,hp,e⟩) h
omit K in
theorem Pm:∀(l:List Pt) (i:Nat),i<=l.length->(Ah eP l).take (i*3)=Ah eP (l.take i)
 |[],i,_=>by simp[Ah]
 |y::r,0,_=>by simp[Ah]
 |y::r,i+1,h=>by
  rw[show (i+1)*3=3+i*3 by omega]
  show (eP y++Ah eP r).take (3+i*3)=eP y++Ah eP (r.take i)
  rw[AtW,ArS (by rw[Ax];omega),Ax,show 3+i*3-3=i*3 by omega,Pm r i (by simpa using h)]
theorem Abc(P:Pt->Bool)(l:List Pt)(hl:l.length<=1000000000)(hP:∀ p∈l,D.ask (.fn 65) [.agg (eP p)] []=Θ (bv (P p),[])) :
  ∃ cells:List AV,D.ask (.fn 64) [.sl 0 0 l.length 3,fnZ] [θ (Ah eP l) Δ Δ]
   = Θ (.sl 0 0 (l.filter λp=>!P p).length 3,[.set (θ cells Δ Δ)])
   ∧ cells.take ((l.filter λp=>!P p).length*3)=Ah eP (l.filter λp=>!P p)/\(l.filter λp=>!P p).length*3<=cells.length:=by
 have g:=Ajl K P l hl hP
 by_cases h:l.findIdx P<l.length
 .rw[if_pos h]at g
  obtain⟨r,c,g2,hr,hc,he⟩:=AiZ K P (λp=>p∈l) hP _ (l.findIdx P+1) (l.findIdx P) l rfl (by omega) (by omega) hl (λp hp=>List.mem_of_mem_drop hp);rw[Of P l h]at he;have hk:(l.filter λp=>!P p).length=c:=by
   rw[←he,Aq9];omega
  rw[hk,←he];refine⟨AI (Ah eP r) (0+c*3) (BW [iv 0,bv Φ,.v (.slice none 0 0)] ((l.length-c)*3)),?_,?_,?_⟩
  .refine AB K Wh (e64 ..) ?_
   refine Aa g ?_;simp only[ND,DK,Ab];refine AN ?_;rw[BA (by omega)];refine Aa g2 ?_;simp only[ND,DK,Ab];rw[Av,show KA c l.length l.length=Δ by unfold KA;rw[As8 hc,As8 (π _)]];refine Ac ?_;rw[show AqZ (0+c*3+(l.length-c)*3) (Ah eP r).length=Δ by rw[AT Ax];simp;omega];refine Ac ?_;rw[Av,show KA 0 c l.length=Δ by unfold KA;rw[As8 (ArC _),As8 hc]];rfl
  .unfold AI
   have hlen:((Ah eP r).take (0+c*3)).length=c*3:=by
    rw[Aq9,AT Ax];omega
   rw[AqY,AsE hlen,Ara,Pm r c (by omega)]
  .unfold AI
   rw[υ,υ,Aq9,AT Ax];omega
 .rw[if_neg h]at g
  rw[TF P l h];refine⟨Ah eP l,?_,Be Ax l rfl,by rw[AT Ax];exact π _⟩;refine AB K Wh (e64 ..) ?_;refine Aa g ?_;simp only[ND,DK,Ab];exact Bu rfl rfl
end
structure PartF (D:Orc):Prop where
 clone:∀ l:List Pt,l.length<=1000000000->D.ask (.fn 59) [.ls (l.map eP)] []=Θ (.sl 0 0 l.length 3,[.set (EB l)])
 grow:∀ n:Nat,n<=1000000000->D.ask (.fn 138) [.v (.slice none 0 0),iv (n:Int)] []=Θ (.sl 0 0 0 3,[.set (EB [])])
section
variable (o:List Pt) (x:Pt)
theorem Agd(k:List AV->KR):EX (Ah eP (o++[x])) (0+o.length*3+0) 1 k=k [iv x.v]:=by
 have hl:=AT Ax o;rw[←Bb];unfold EX;rw[show AqZ (0+o.length*3+0+1) (Ah eP o++eP x).length=Δ by rw[υ,hl,Ax];simp<;>omega]
 show k (((Ah eP o++eP x).drop (0+o.length*3+0)).take 1)=_
 rw[List.drop_left' (by omega)];rfl
theorem AnM(k:List AV->KR):EX (Ah eP (o++[x])) (0+o.length*3+1) 2 k=k [bv x.z.neg,eN x.z.abs]:=by
 have hl:=AT Ax o;rw[←Bb];unfold EX;rw[show AqZ (0+o.length*3+1+2) (Ah eP o++eP x).length=Δ by rw[υ,hl,Ax];simp]
 show k (((Ah eP o++eP x).drop (0+o.length*3+1)).take 2)=_
 rw[AtT,Atn (by omega),show 0+o.length*3+1-(Ah eP o).length=1 by omega];rfl
theorem AnV(z:Zi):AI (Ah eP (o++[x])) (0+o.length*3+1) [bv z.neg,eN z.abs]=Ah eP (o++[⟨x.v,z⟩]):=by
 have hl:=AT Ax o;rw[←Bb,←Bb];unfold AI;rw[AtW,ArS (by omega),show 0+o.length*3+1-(Ah eP o).length=1 by omega,Atn (by rw[υ,Ax,hl];simp),ArB,AqY];rfl
end
section
variable {D:Orc} (Kt:Knows Al FP D) (Ks:Knows Al Ed D) (Z:ZF D) (C:PartF D)
include Z
include Kt in
theorem Fh{z:Zi}(hz:Lz 1000000000 z):D.ask (.fn 62) [.agg (eZ z)] []=Θ (.agg (eZ (Aq (zv z))),[]):=by
 refine AB Kt AlX (e62 ..) ?_;refine Aa (Z.frm z hz) ?_;rfl
include Ks in
theorem QB{p:Pt}(hz:Lz 1000000000 p.z):D.ask (.fn 65) [.agg (eP p)] []=Θ (bv (decide (zv p.z=0)),[]):=by
 have g:=Z.sign p.z hz;refine AB Ks AlZ (e65 ..) ?_;refine Aa g ?_;simp only[ND,DK,Ab]
 by_cases h:zv p.z=0
 .rw[decide_eq_true h,h]
  exact GJ rfl
 .rw[decide_eq_false h]
  refine FU ?_;unfold BC;split
  .omega
  .split
   .omega
   .omega
include Kt in
theorem Ac4{k:Nat}(ps:List Pt)(hl:ps.length<=1000000)(hk:k+ps.length<=900000000)(hz:∀ p∈ps,Lz k p.z)(r0:List (List AV))(r1:Bool)(r2:List (List AV))(k1:Bool)(k2:List (List AV)):∀(m i:Nat) (s:List (Int × Int)),ps.length-i=m->i<=ps.length->s.length<=i->(∀ q∈s,InB (k+i) q.2)->
  D.ask (.lp 26 0) [.ptr 0 0,.ptr 1 0,.ls (ps.map eP),iv (ps.length:Int),iv (i:Int)] [⟨[.ls r0,bv r1,.ls r2],Δ,Φ⟩,⟨[.sl 2 0 (s.map AP).reverse.length 3,bv k1,.ls k2],Δ,Φ⟩,EB (s.map AP).reverse]
   = Θ (.tup [iv 0,.ptr 0 0,.ptr 1 0],[.set ⟨[.ls r0,bv r1,.ls r2],Δ,Φ⟩,.set ⟨[.sl 3 0 ((((ps.drop i).map pv).foldl C8 s).map AP).reverse.length 3,bv k1,.ls k2],Δ,Φ⟩,.del,.set (EB ((((ps.drop i).map pv).foldl C8 s).map AP).reverse)]):=by
 intro m
 induction m with
 |zero=>
  intro i s hm hi hs hb;rw[AqX (by omega),List.map_nil,List.foldl_nil];refine Au Kt AbY (Ahj ..) ?_;exact Ag rfl
 |succ m ih0=>
  intro i s hm hi hs hb;have h1:i<ps.length:=by omega
  have hzk:=hz ps[i] (Arc h1);have hzi:=hzk.mono (show k<=1000000000 by omega);rw[κ h1,Aq8,Asn];have ih:=ih0 (i+1) (C8 s (pv ps[i])) (by omega) (by omega) (by have:=HM s (pv ps[i]);omega) (HL hb (hzk.inb.mono (show k<=k+i by omega)));refine Au Kt AbY (Ahj ..) ?_;refine Aj ?_;rw[Av,At (ξ h1)];simp only[eP,eN,ND,DK,Ab];generalize hS:((ps.drop (i+1)).map pv).foldl C8 (C8 s (pv ps[i]))=S at ih ⊢
  by_cases hneg:ps[i].v<0
  .have e:C8 s (pv ps[i])=s:=by
    have hn:(pv ps[i]).1<0:=hneg
    cases s with
    |nil=>rw[EC,if_pos hn]
    |cons q r=>rw[DU,if_pos hn]
   rw[e]at ih;refine Aj ?_ hneg;rw[BA (by omega)];refine Aa ih ?_;rfl
  have hn:¬(pv ps[i]).1<0:=hneg;refine Ag ?_ hneg
  cases s with
  |nil=>
   rw[EC,if_neg hn]at ih;refine Cr ?_ (by decide);obtain⟨o,ho0⟩:∃ o:List Pt,o=[]:=⟨_,rfl⟩;have eo:(([pv ps[i]].map AP).reverse)=o++[AP (pv ps[i])]:=by rw[ho0];rfl
   rw[eo]at ih;have ho:o.length<=i:=by rw[ho0];exact ArC _
   rw[show ((([]:List (Int × Int)).map AP).reverse)=o from ho0.symm];have hf:AZ (o.length+1) 40=Δ:=AG (by omega) (by omega);have hb1:AqZ (0+o.length*3) (Ah eP o).length=Δ:=AF Ax o (by omega);have e3:AqT 0 (ε (0+o.length*3) (Ah eP o))++[iv ps[i].v,bv (Aq (zv ps[i].z)).neg,eN (Aq (zv ps[i].z)).abs]=Ah eP (o++[AP (pv ps[i])]):=by
    rw[AqQ,Be Ax o (by omega)];exact Bb eP o (AP (pv ps[i]))
   refine Aa (Fh Kt Z hzi) ?_;simp only[eZ,eN,ND,DK,Ab]at e3 ⊢;rw[hf];refine Ac ?_;rw[hb1];refine Ac ?_;rw[e3,BA (by omega)];rw[υ,Ari]at ih;refine Aa ih ?_;rfl
  |cons q r=>
   have eo:(((q::r).map AP).reverse)=(r.map AP).reverse++[AP q]:=by simp
   have hq:=hb q (AqS ..);rw[eo];rw[DU,if_neg hn]at ih;have hro:(r.map AP).reverse.length<=i:=by simp at hs ⊢;omega
   by_cases heq:q.1=(pv ps[i]).1
   .rw[if_pos heq,Aq8,Atk]at ih
    generalize (r.map AP).reverse=o at hro ih ⊢;have e1:Af.sub .i64 (((o++[AP q]).length:Nat):Int) 1=((o.length:Nat):Int):=by
     rw[υ,Ari];exact Lc (by omega)
    have hlt:o.length<(o++[AP q]).length:=by simp
    have ga:=Z.add (Aq q.2) ps[i].z (hq.lz.mono (by omega)) (hzk.mono (by omega));rw[AE]at ga;have sp:=AnV o (AP q) (Aq (q.2+zv ps[i].z));rw[e1];refine B6 ?_;rw[Av,AQ hlt];refine Ac ?_;refine(Agd o (AP q) _).trans ?_;simp only[ND,DK,Ab];refine Bu ?_ (show (AP q).v=ps[i].v from heq);rw[Av,AQ hlt];refine Ac ?_;refine(AnM o (AP q) _).trans ?_;simp only[eN,ND,DK,Ab];refine Aa ga ?_;simp only[eZ,eN,ND,DK,Ab]at sp ⊢;rw[Av,AQ hlt];refine Ac ?_;rw[show AqZ (0+o.length*3+1+2) (Ah eP (o++[AP q])).length=Δ by rw[AT Ax];simp;omega];refine Ac ?_;rw[sp,BA (by omega)];have el:(o++[AP q]).length=(o++[AP (q.1,q.2+(pv ps[i]).2)]).length:=by simp
    rw[el];refine Aa ih ?_;rfl
   .rw[if_neg heq,Aq8,Atk,eo]at ih
    have hlen:((r.map AP).reverse++[AP q]).length<=i:=by simp at hs ⊢;omega
    have e1:Af.sub .i64 ((((r.map AP).reverse++[AP q]).length:Nat):Int) 1=(((r.map AP).reverse.length:Nat):Int):=by
     rw[υ,Ari];exact Lc (by omega)
    have hlt:(r.map AP).reverse.length<((r.map AP).reverse++[AP q]).length:=by simp
    rw[e1];refine B6 ?_;rw[Av,AQ hlt];refine Ac ?_;refine(Agd _ (AP q) _).trans ?_;simp only[ND,DK,Ab];refine AN ?_ (show ¬(AP q).v=ps[i].v from heq);generalize (r.map AP).reverse++[AP q]=o at hlen ih ⊢;have ho:=hlen;have hf:AZ (o.length+1) 40=Δ:=AG (by omega) (by omega);have hb1:AqZ (0+o.length*3) (Ah eP o).length=Δ:=AF Ax o (by omega);have e3:AqT 0 (ε (0+o.length*3) (Ah eP o))++[iv ps[i].v,bv (Aq (zv ps[i].z)).neg,eN (Aq (zv ps[i].z)).abs]=Ah eP (o++[AP (pv ps[i])]):=by
     rw[AqQ,Be Ax o (by omega)];exact Bb eP o (AP (pv ps[i]))
    refine Aa (Fh Kt Z hzi) ?_;simp only[eZ,eN,ND,DK,Ab]at e3 ⊢;rw[hf];refine Ac ?_;rw[hb1];refine Ac ?_;rw[e3,BA (by omega)];rw[υ,Ari]at ih;refine Aa ih ?_;rfl
include Kt Ks C in
theorem EI{n k:Nat}{t:Tm}(h:TmB n k t)(hn:n<=1000000)(hk:k+n<=900000000):D.ask (.fn 26) [.agg (eT t)] []=Θ (.agg (eT t.lf.pln.tm),[]):=by
 obtain⟨ps,kz⟩:=t;have hlen:ps.length<=n:=h.len;obtain⟨r,gs,gr,gp,go⟩:=U4 Ks (l:=ps) (by omega);have gc:=C.clone ps (by omega);have gk:=Fh Kt Z (h.k.mono (show k<=1000000000 by omega));have hzr:∀ p∈r,Lz k p.z:=λp hp=>h.ps p (gp.mem_iff.1 hp)
 have gl:=Ac4 Kt Z r (k:=k) (by omega) (by omega) hzr [] Φ [] (Aq (zv kz)).neg ((Aq (zv kz)).abs.map eL) _ 0 [] rfl (by omega) (by simp) (by simp);rw[AqQ]at gl;have hsrt:(r.map pv).Pairwise λa b=>a.1<=b.1:=by
  rw[AsR];exact E0 Pt.v go
 have hpl:=RW hsrt (gp.map pv);generalize hS:(r.map pv).foldl C8 []=S at gl hpl;have hsb:∀ p∈((S.map AP).reverse),Lz 1000000000 p.z:=by
  have key:∀(t s:List (Int × Int)) (j:Nat),(∀ q∈s,InB (k+j) q.2)->(∀ q∈t,InB k q.2)->∀ q∈t.foldl C8 s,InB (k+j+t.length) q.2:=by
   intro t
   induction t with
   |nil=>intro s j hs _ q hq;exact hs q hq
   |cons p t ih=>
    intro s j hs ht q hq;have:=ih (C8 s p) (j+1) (HL hs ((ht p (AqS ..)).mono (show k<=k+j by omega))) (λq hq=>ht q (ο _ hq)) q hq;rw[AqR];exact this.mono (by omega)
  intro p hp;rw[Att,Arj]at hp;obtain⟨q,hq,rfl⟩:=hp;have:=key (r.map pv) [] 0 (by simp) (λq hq=>by
   rw[Arj]at hq;obtain⟨p,hp,rfl⟩:=hq;exact(hzr p hp).inb) q (by rw[hS];exact hq)
  rw[Aq7]at this;exact(this.lz).mono (by omega)
 have hSl:S.length<=1000000:=by
  have key:∀(t s:List (Int × Int)),(t.foldl C8 s).length<=s.length+t.length:=by
   intro t
   induction t with
   |nil=>intro s;simp
   |cons p t ih=>
    intro s;have:=ih (C8 s p);have h2:=HM s p;rw[Asn,AqR];omega
  have:=key (r.map pv) [];rw[hS,Aq7]at this;simp at this;omega
 obtain⟨cells,gd,gt,gle⟩:=Abc Ks (λp=>decide (zv p.z=0)) (S.map AP).reverse (by simp;omega) λp hp=>QB Ks Z (hsb p hp)
 have hfin:((S.map AP).reverse).filter (λp=>!decide (zv p.z=0))=(AO (ps.map pv)).map AP:=by
  rw[←hpl,←List.map_reverse,List.filter_map]
  congr 1
  refine List.filter_congr λq _=>?_
  show (!decide (zv (Aq q.2)=0))=_
  rw[AE]
 rw[hfin]at gd gt gle;refine AB Kt AbY (e26 ..) ?_;refine Aa gc ?_;simp only[ND,DK,Ab];refine Aa gs ?_;simp only[ND,DK,Ab];refine Aa gk ?_;simp only[eZ,eN,ND,DK,Ab];rw[show AqZ (0+ps.length*3) (Ah eP r).length=Δ from AF Ax r (by omega)];refine Ac ?_;rw[Bp Ax r (by omega),←gr];refine Aa gl ?_;simp only[ND,DK,Ab];refine Aa gd ?_;simp only[ND,DK,Ab];rw[show AqZ (0+((AO (ps.map pv)).map AP).length*3) cells.length=Δ by simp;simp at gle;omega];refine Ac ?_;rw[gt,CL Ax];rfl
