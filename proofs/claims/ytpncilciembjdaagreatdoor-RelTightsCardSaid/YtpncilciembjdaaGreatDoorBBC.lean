/- Sums of variables, each -/
import Derived.Test.YtpncilciembjdaaGreatDoorBBB
set_option linter.all false
open Bool renaming false_or->Ary
open Int renaming le_refl->ArJ,lt_trichotomy->Aro,natAbs_natCast->Ari
open List renaming append_assoc->Ao9,append_nil->ApQ,drop->ι,drop_append->ArV,drop_eq_getElem_cons->ω,drop_eq_nil_of_le->υ,drop_of_length_le->Arv,drop_zero->χ,ext_getElem?->Asq,filter_cons->Asy,findIdx_cons->Ass,foldl_cons->AqQ,getElem?_drop->Ap3,getElem?_eq_getElem->Ψ,getElem?_eq_none->Ap9,getElem?_set_ne->Aqe,getElem?_set_self->Aqs,getElem?_take->ApN,getElem_mem->ApP,length_append->η,length_cons->π,length_map->Api,length_set->Apl,length_singleton->Apm,length_take->Apg,map_cons->Aps,mem_cons->Aph,mem_cons_of_mem->ApB,mem_cons_self->Apn,mem_filter->Arg,mem_iff_getElem?->Ar9,mem_map->ApY,mem_reverse->ArC,mem_singleton->Aqb,pairwise_cons->ApO,pairwise_map->Arr,pairwise_singleton->Arn,reverse_cons->Ars,take->κ,take_append->ArX,take_append_drop->Ap5,take_left'->AqR,take_of_length_le->ApZ
open Nat renaming add_mul->ApA,add_sub_cancel->AqO,add_zero->ApJ,ble->Apa,ble_eq_true_of_le->Arc,dvd_mul_left->ArY,dvd_refl->AsY,dvd_sub->Asx,dvd_trans->AsS,dvd_zero->AsZ,gcd->AqJ,le_of_dvd->Asg,le_refl->φ,min_eq_left->ApL,min_eq_right->Ar2,one_mul->Aqi,strongRecOn->Aqv,zero_add->Apy,zero_le->ApM,zero_mul->Aqu
namespace Go.Proofs.YtpncilciembjdaaGreatDoor
open ABlk renaming mk->Ξ
open AV renaming agg->Ω,ls->Δ,ptr->ε,tup->ν
open BO renaming set->ο
open Go.RowKit
def A6(v:Int):List (Int × Int)->Int
 |[]=>0
 |p::r=>(if p.1=v then p.2 else 0)+A6 v r
theorem EB{v:Int}:∀{l:List (Int × Int)},(∀ p∈l,p.1≠v)->A6 v l=0
 |[],_=>rfl
 |p::r,h=>by
  rw[A6,if_neg (h p (Apn ..)),EB λq hq=>h q (ApB _ hq)];rfl
theorem LX{v:Int}{a b:List (Int × Int)}(h:a.Perm b):A6 v a=A6 v b:=by
 induction h with
 |nil=>rfl
 |cons x _ ih=>rw[A6,A6,ih]
 |swap x y l=>rw[A6,A6,A6,A6];omega
 |trans _ _ ih1 ih2=>rw[ih1,ih2]
structure Pln (l:List (Int × Int)):Prop where
 asc:l.Pairwise λa b=>a.1<b.1
 pos:∀ p∈l,0<=p.1
 nz:∀ p∈l,p.2≠0
theorem Uu:Pln []:=⟨.nil,by simp,by simp⟩
theorem Pln.tail{p:Int × Int}{r:List (Int × Int)}(h:Pln (p::r)):Pln r:=⟨(ApO.1 h.asc).2,λq hq=>h.pos q (ApB _ hq),λq hq=>h.nz q (ApB _ hq)⟩
theorem Pln.head{p:Int × Int}{r:List (Int × Int)}(h:Pln (p::r)):A6 p.1 (p::r)=p.2:=by
 rw[A6,if_pos rfl,EB λq hq=>by have:=(ApO.1 h.asc).1 q hq;omega];omega
theorem Pln.below{p:Int × Int}{r:List (Int × Int)}(h:Pln (p::r)){v:Int}(hv:v<p.1):A6 v (p::r)=0:=by
 refine EB λq hq=>?_
 rcases Aph.1 hq with rfl|hq
 .omega
 .have:=(ApO.1 h.asc).1 q hq
  omega
theorem Pln.ext:∀{a b:List (Int × Int)},Pln a->Pln b->(∀ v,A6 v a=A6 v b)->a=b
 |[],[],_,_,_=>rfl
 |[],q::s,_,hb,h=>by
  have h1:=hb.head;rw[←h q.1]at h1;exact absurd h1.symm (hb.nz q (Apn ..))
 |p::r,[],ha,_,h=>by
  have h1:=ha.head;rw[h p.1]at h1;exact absurd h1.symm (ha.nz p (Apn ..))
 |p::r,q::s,ha,hb,h=>by
  have h1:=ha.head;have h2:=hb.head;have n1:=ha.nz p (Apn ..);have n2:=hb.nz q (Apn ..);have e:p.1=q.1:=by
   rcases Aro p.1 q.1 with h3|h3|h3
   .rw[h p.1,hb.below h3]at h1
    exact absurd h1.symm n1
   .exact h3
   .rw[←h q.1,ha.below h3]at h2
    exact absurd h2.symm n2
  have e2:p.2=q.2:=by rw[←h1,←h2,h p.1,e]
  have ep:p=q:=Prod.ext e e2;rw[ep,Pln.ext ha.tail hb.tail λv=>by
   have:=h v;rw[A6,A6,ep]at this;omega]
def IL(v c:Int):List (Int × Int)->List (Int × Int)
 |[]=>if c=0 then [] else [(v,c)]
 |p::r=>if v<p.1 then(if c=0 then p::r else(v,c)::p::r) else if p.1<v then p::IL v c r else if p.2+c=0 then r else(v,p.2+c)::r
theorem JA(v c u:Int):∀ l:List (Int × Int),A6 u (IL v c l)=(if v=u then c else 0)+A6 u l
 |[]=>by
  unfold IL;split
  .rename_i h;simp[A6,h]
  .simp[A6]
 |p::r=>by
  have ih:=JA v c u r;unfold IL;split
  .split
   .rename_i h;rw[h];simp
   .rfl
  .split
   .rw[A6,ih,A6];omega
   .have e:p.1=v:=by omega
    split
    .rename_i h
     rw[A6,e];split<;>omega
    .rw[A6,A6,e]
     split<;>omega
theorem QT{v c:Int}:∀{l:List (Int × Int)} {q:Int × Int},q∈IL v c l->q.1=v\/q∈l
 |[],q,h=>by
  unfold IL at h;split at h
  .exact .inr h
  .rw[Aqb.1 h];exact .inl rfl
 |p::r,q,h=>by
  unfold IL at h;split at h
  .split at h
   .exact .inr h
   .rcases Aph.1 h with h|h
    .rw[h];exact .inl rfl
    .exact .inr h
  .split at h
   .rcases Aph.1 h with h|h
    .rw[h];exact .inr (Apn ..)
    .rcases QT h with h|h
     .exact .inl h
     .exact .inr (ApB _ h)
   .split at h
    .exact .inr (ApB _ h)
    .rcases Aph.1 h with h|h
     .rw[h];exact .inl rfl
     .exact .inr (ApB _ h)
theorem QU{v c:Int}(hv:0<=v):∀{l:List (Int × Int)},Pln l->Pln (IL v c l)
 |[],_=>by
  unfold IL;split
  .exact Uu
  .rename_i h
   exact⟨Arn _ _,by simpa using hv,by simpa using h⟩
 |p::r,h=>by
  have ih:=QU (c:=c) hv h.tail;have hp:=ApO.1 h.asc;unfold IL;split
  .rename_i h1
   split
   .exact h
   .rename_i h2
    refine⟨ApO.2 ⟨λq hq=>?_,h.asc⟩,λq hq=>?_,λq hq=>?_⟩
    .rcases Aph.1 hq with rfl|hq
     .exact h1
     .have:=hp.1 q hq;simp only;omega
    .rcases Aph.1 hq with rfl|hq
     .exact hv
     .exact h.pos q hq
    .rcases Aph.1 hq with rfl|hq
     .exact h2
     .exact h.nz q hq
  .split
   .rename_i h1 h2
    refine⟨ApO.2 ⟨λq hq=>?_,ih.asc⟩,λq hq=>?_,λq hq=>?_⟩
    .rcases QT hq with e|hq
     .rw[e];exact h2
     .exact hp.1 q hq
    .rcases Aph.1 hq with rfl|hq
     .exact h.pos _ (Apn ..)
     .exact ih.pos q hq
    .rcases Aph.1 hq with rfl|hq
     .exact h.nz _ (Apn ..)
     .exact ih.nz q hq
   .rename_i h1 h2
    split
    .exact h.tail
    .rename_i h3
     refine⟨ApO.2 ⟨λq hq=>?_,hp.2⟩,λq hq=>?_,λq hq=>?_⟩
     .have:=hp.1 q hq;simp only;omega
     .rcases Aph.1 hq with rfl|hq
      .exact hv
      .exact h.tail.pos q hq
     .rcases Aph.1 hq with rfl|hq
      .exact h3
      .exact h.tail.nz q hq
def A8:List (Int × Int)->List (Int × Int)
 |[]=>[]
 |p::r=>if 0<=p.1 then IL p.1 p.2 (A8 r) else A8 r
theorem CZ:∀ l:List (Int × Int),Pln (A8 l)
 |[]=>Uu
 |p::r=>by
  unfold A8;split
  .rename_i h;exact QU h (CZ r)
  .exact CZ r
theorem EG(v:Int):∀ l:List (Int × Int),A6 v (A8 l)=if 0<=v then A6 v l else 0
 |[]=>by simp[A8,A6]
 |p::r=>by
  have ih:=EG v r;unfold A8
  by_cases h:0<=p.1
  .by_cases hv:0<=v
   .rw[if_pos h,JA,ih,A6,if_pos hv,if_pos hv]
   .rw[if_pos h,JA,ih,if_neg hv,if_neg hv,if_neg (by omega)]
    rfl
  .by_cases hv:0<=v
   .rw[if_neg h,ih,A6,if_pos hv,if_pos hv,if_neg (show ¬ p.1=v by omega)]
    omega
   .rw[if_neg h,ih,if_neg hv,if_neg hv]
theorem IW{l r:List (Int × Int)}(h:Pln r)(hc:∀ v,0<=v->A6 v r=A6 v l):r=A8 l:=by
 refine Pln.ext h (CZ l) λv=>?_
 rw[EG]
 by_cases hv:0<=v
 .rw[if_pos hv,hc v hv]
 .rw[if_neg hv]
  refine EB λp hp e=>?_
  have:=h.pos p hp;omega
theorem Ij{l:List (Int × Int)}(h:Pln l):A8 l=l:=(IW h λ_ _=>rfl).symm
theorem Fu:∀ l:List (Int × Int),(A8 l).length<=l.length
 |[]=>φ _
 |p::r=>by
  have ih:=Fu r;have ins:∀ l:List (Int × Int),(IL p.1 p.2 l).length<=l.length+1:=λl=>by
   induction l with
   |nil=>unfold IL;split<;>simp
   |cons q s ih=>
    unfold IL;split
    .split<;>simp
    .split
     .simpa using ih
     .split
      .simp;omega
      .simp
  unfold A8;split
  .have:=ins (A8 r)
   rw[π];omega
  .rw[π]
   omega
section
variable {α:Type} (key:α->Int)
def kf(l:List α)(p:Nat):Int:=match l[p]? with
 |some x=>key x
 |none=>0
theorem Fe{l:List α}{p:Nat}(h:p<l.length):kf key l p=key l[p]:=by
 unfold kf;rw[Ψ h]
def CU(l:List α)(i j:Nat):List α:=match l[i]?,l[j]? with
 |some x,some y=>(l.set i y).set j x
 |_,_=>l
theorem DO{l:List α}{i j:Nat}(hi:i<l.length)(hj:j<l.length):CU l i j=(l.set i l[j]).set j l[i]:=by
 unfold CU;rw[Ψ hi,Ψ hj]
theorem Hi(l:List α)(i j:Nat):(CU l i j).length=l.length:=by
 unfold CU;split<;>simp
theorem TT{l:List α}{i j:Nat}(hi:i<l.length)(hj:j<l.length)(p:Nat):kf key (CU l i j) p=if p=j then kf key l i else if p=i then kf key l j else kf key l p:=by
 rw[DO hi hj];unfold kf
 by_cases h1:p=j
 .subst h1
  rw[if_pos rfl,Aqs (by simpa using hj),Ψ hi]
 .rw[if_neg h1,Aqe (λe=>h1 e.symm)]
  by_cases h2:p=i
  .subst h2
   rw[if_pos rfl,Aqs hi,Ψ hj]
  .rw[if_neg h2,Aqe (λe=>h2 e.symm)]
theorem FY(l:List α)(i j:Nat):(CU l i j).Perm l:=by
 by_cases hi:i<l.length
 .by_cases hj:j<l.length
  .rw[DO hi hj]
   have:=Array.swap_perm (xs:=l.toArray) (i:=i) (j:=j) (by simpa using hi) (by simpa using hj);have h2:=this.toList;simpa[Array.swap]using h2
  .unfold CU
   rw[Ap9 (show l.length<=j by omega)];split
   .rename_i h;cases h
   .exact List.Perm.refl _
 .unfold CU
  rw[Ap9 (show l.length<=i by omega)]
theorem Wd{l:List α}{i j p:Nat}(h1:p≠i)(h2:p≠j):(CU l i j)[p]? = l[p]?:=by
 unfold CU;split
 .rw[Aqe (λe=>h2 e.symm),Aqe (λe=>h1 e.symm)]
 .rfl
def Srt(l:List α)(a b:Nat):Prop:=∀ p q,a<=p->p<q->q<b->kf key l p<=kf key l q
def UP(l:List α)(a i j:Nat):Prop:=∀ p q,a<=p->p<q->q<=i->q≠j->kf key l p<=kf key l q
def Same0(l r:List α)(a b:Nat):Prop:=∀ p,(p<a\/b<=p)->r[p]? = l[p]?
theorem CT(l:List α)(a b:Nat):Same0 l l a b:=λ_ _=>rfl
theorem Same0.trans{l r s:List α}{a b:Nat}(h1:Same0 l r a b)(h2:Same0 r s a b):Same0 l s a b:=λp hp=>(h2 p hp).trans (h1 p hp)
theorem Same0.wide{l r:List α}{a b c d:Nat}(h1:Same0 l r a b)(hc:c<=a)(hd:b<=d):Same0 l r c d:=λp hp=>h1 p (by omega)
theorem Same0.kf{l r:List α}{a b p:Nat}(h:Same0 l r a b)(hp:p<a\/b<=p):kf key r p=kf key l p:=by
 unfold Go.Proofs.YtpncilciembjdaaGreatDoor.kf;rw[h p hp]
theorem We{l:List α}{i j a b:Nat}(h1:a<=i)(h2:i<b)(h3:a<=j)(h4:j<b):Same0 l (CU l i j) a b:=λp hp=>Wd (by omega) (by omega)
theorem Wb{l:List α}{a i j:Nat}(hi:i<l.length)(ha:a<j)(hj:j<=i)(h:UP key l a i j)(hlt:kf key l j<kf key l (j-1)):UP key (CU l j (j-1)) a i (j-1):=by
 intro p q h1 h2 h3 h4;rw[TT key (by omega) (by omega),TT key (by omega) (by omega)]
 by_cases q1:q=j
 .subst q1
  rw[if_neg (show ¬ q=q-1 by omega),if_pos rfl]
  by_cases p1:p=q-1
  .rw[if_pos p1];omega
  .rw[if_neg p1,if_neg (by omega)]
   exact h p (q-1) h1 (by omega) (by omega) (by omega)
 .rw[if_neg h4,if_neg q1]
  by_cases p1:p=j-1
  .rw[if_pos p1]
   exact h j q (by omega) (by omega) h3 q1
  .rw[if_neg p1]
   by_cases p2:p=j
   .rw[if_pos p2]
    exact h (j-1) q (by omega) (by omega) h3 q1
   .rw[if_neg p2]
    exact h p q h1 h2 h3 q1
theorem Rz{l:List α}{a i j:Nat}(hj:j<=i)(h:UP key l a i j)(he:j=a\/kf key l (j-1)<=kf key l j):Srt key l a (i+1):=by
 intro p q h1 h2 h3
 by_cases hq:q=j
 .subst hq
  rcases he with he|he
  .omega
  .by_cases hp:p=q-1
   .rw[hp];exact he
   .have:=h p (q-1) h1 (by omega) (by omega) (by omega)
    omega
 .exact h p q h1 h2 (by omega) hq
theorem Tp{l:List α}{a i:Nat}(h:Srt key l a i):UP key l a i i:=λp q h1 h2 h3 h4=>h p q h1 h2 (by omega)
theorem FU{l:List α}(h:Srt key l 0 l.length):l.Pairwise λx y=>key x<=key y:=by
 rw[List.pairwise_iff_getElem];intro i j hi hj hij;have:=h i j (by omega) hij hj
 rwa [Fe key hi,Fe key hj]at this
theorem AeL(l:List α)(a:Nat):Srt key l a (a+1):=λp q h1 h2 h3=>by omega
theorem AeK(l:List α)(a:Nat):Srt key l a a:=λp q h1 h2 h3=>by omega
end
structure Pt where
 v:Int
 z:Zi
def eP(p:Pt):List AV:=[iv p.v,bv p.z.neg,eN p.z.abs]
theorem Au(p:Pt):(eP p).length=3:=rfl
section
variable {α:Type} {e:α->List AV} {w:Nat} (he:∀ x,(e x).length=w)
include he
theorem UD(l:List α):∀(i:Nat) (h:i<l.length),(Ai e l).drop (i*w)=e l[i]++(Ai e l).drop (i*w+w):=by
 induction l with
 |nil=>intro i h;cases h
 |cons x r ih=>
  intro i h;have hx:=he x
  cases i with
  |zero=>
   rw[Aqu,χ,Apy]
   show e x++Ai e r=e x++(e x++Ai e r).drop w
   rw[←hx,List.drop_left]
  |succ i=>
   have:=ih i (by simpa using h);have e1:∀ n,(Ai e (x::r)).drop (w+n)=(Ai e r).drop n:=λn=>by
    show (e x++Ai e r).drop (w+n)=_
    rw[←hx,ArV];simp
   rw[show (i+1)*w=w+i*w by rw[ApA];omega,e1,this,show w+i*w+w=w+(i*w+w) by omega,e1];rfl
theorem Bx(l:List α)(i:Nat)(h:i<l.length)(k:List AV->KR):EQ (Ai e l) (0+i*w) w k=k (e l[i]):=by
 have hw:i*w+w<=l.length*w:=by
  rw[←Nat.succ_mul];exact Nat.mul_le_mul_right w h
 unfold EQ;have:Apa (0+i*w+w) (Ai e l).length=true:=by rw[AT he];simp;omega
 rw[this]
 show k (((Ai e l).drop (0+i*w)).take w)=_
 rw[Apy,UD he l i h,AqR (he _)]
theorem CC(l:List α)(i:Nat)(h:i<l.length)(x:α):AG (Ai e l) (0+i*w) (e x)=Ai e (l.set i x):=by
 unfold AG;rw[he x,Apy];have e1:=UD he l i h;have e2:∀(l:List α) (i:Nat),i<=l.length->(Ai e l).take (i*w)=Ai e (l.take i):=λl=>by
  induction l with
  |nil=>intro i _;simp[Ai]
  |cons y r ih=>
   intro i hi
   cases i with
   |zero=>simp[Ai]
   |succ i=>
    rw[show (i+1)*w=w+i*w by rw[ApA];omega]
    show (e y++Ai e r).take (w+i*w)=e y++Ai e (r.take i)
    rw[←he y,ArX,ApZ (by omega),show (e y).length+i*(e y).length-(e y).length=i*(e y).length by omega,he y,ih i (by simpa using hi)]
 have e3:∀(l:List α) (i:Nat),i<=l.length->(Ai e l).drop (i*w)=Ai e (l.drop i):=λl=>by
  induction l with
  |nil=>intro i _;simp[Ai]
  |cons y r ih=>
   intro i hi
   cases i with
   |zero=>simp[Ai]
   |succ i=>
    rw[show (i+1)*w=w+i*w by rw[ApA];omega]
    show (e y++Ai e r).drop (w+i*w)=Ai e (r.drop i)
    rw[←he y,ArV,Arv (by omega),show (e y).length+i*(e y).length-(e y).length=i*(e y).length by omega,he y,ih i (by simpa using hi),List.nil_append]
 rw[e2 l i (by omega),show i*w+w=(i+1)*w by rw[ApA];omega,e3 l (i+1) (by omega),List.set_eq_take_append_cons_drop,if_pos h];simp[Ai]
end
theorem ET{a b:Int}:DR a b<0 ↔ a<b:=by
 unfold DR;split
 .omega
 .split<;>omega
theorem Na{j:Nat}(h:j<4611686018427387904):Ag.sub .i64 ((j+1:Nat):Int) 1=(j:Int):=by
 rw[C4 (by omega) (by omega)];omega
theorem A0{a b:Nat}(h:a<b):Nat.blt a b=true:=by simpa using h
section
variable {D:Orc} (K:Knows As Eh D)
include K
theorem QW(x:Int):D.ask (.fn 157) [iv x] []=some (bv false,[]):=by
 refine K.fn' Af1 _ rfl ((AmP ..).trans ?_);exact Bi rfl rfl
theorem O0(x y:Int):D.ask (.fn 84) [iv x,iv y] []=some (iv (DR x y),[]):=by
 refine K.fn' Akh _ rfl ((e84 ..).trans ?_);refine Aa (QW K x) ?_;simp only[ND,DK,Ab];refine Aa (QW K y) ?_;simp only[ND,DK,Ab];unfold DR
 by_cases h:x<y
 .rw[if_pos h]
  exact Aq h rfl
 .rw[if_neg h]
  refine Ak h ?_
  by_cases h2:y<x
  .rw[if_pos h2]
   exact Aq h2 rfl
  .rw[if_neg h2]
   exact Ak h2 rfl
theorem Gq(p q:Pt):D.ask (.fn 137) [.agg (eP p),.agg (eP q)] []=some (iv (DR p.v q.v),[]):=by
 refine K.fn' AfN _ rfl ((Amx ..).trans ?_);refine Aa (O0 K p.v q.v) ?_;rfl
def EO:AV:=.fn (.func 137) [] []
theorem Ah8(a i:Nat)(b:Int):∀(m j:Nat) (l:List Pt),j-a=m->a<=j->j<=i->i<l.length->l.length<=1000000000->UP Pt.v l a i j->
  ∃ r:List Pt,D.ask (.lp 234 1) [.sl 0 0 l.length 3,iv (a:Int),iv b,EO,iv (i:Int),iv (j:Int)] [Ξ (Ai eP l) true true]
   = some (.tup [iv 2,.sl 0 0 l.length 3,iv (a:Int),iv b,EO,iv (i:Int)],[.set (Ξ (Ai eP r) true true)])
   ∧ r.length=l.length/\r.Perm l/\Srt Pt.v r a (i+1)/\Same0 l r a (i+1):=by
 intro m
 induction m with
 |zero=>
  intro j l hm ha hj hi hl hs;obtain rfl:j=a:=by omega
  refine⟨l,?_,rfl,List.Perm.refl _,Rz Pt.v hj hs (.inl rfl),CT _ _ _⟩;refine K.lp' Gw _ rfl (by kernel_rfl) ((St ..).trans ?_);exact Ak (by omega) rfl
 |succ m ih=>
  intro j l hm ha hj hi hl hs;obtain⟨k,rfl⟩:∃ k,j=k+1:=⟨j-1,by omega⟩;have h1:k+1<l.length:=by omega
  have h0:k<l.length:=by omega
  have kf1:kf Pt.v l (k+1)=l[k+1].v:=Fe Pt.v h1;have kf0:kf Pt.v l k=l[k].v:=Fe Pt.v h0
  by_cases hlt:l[k+1].v<l[k].v
  .have hs2:UP Pt.v (CU l (k+1) k) a i k:=Wb (j:=k+1) Pt.v hi (by omega) hj hs (by rw[AqO,kf1,kf0];exact hlt)
   have hlen:=Hi l (k+1) k;obtain⟨r,g,hr,hp,ho,hsm⟩:=ih k (CU l (k+1) k) (by omega) (by omega) (by omega) (by omega) (by omega) hs2;rw[hlen]at g hr;refine⟨r,?_,hr,hp.trans (FY _ _ _),ho,(We (by omega) (by omega) (by omega) (by omega)).trans hsm⟩;refine K.lp' Gw _ rfl (by kernel_rfl) ((St ..).trans ?_);refine Aq (by omega) ?_;rw[Na (by omega),Av,A0 h1];refine Ae ?_;refine(Bx Au l (k+1) h1 _).trans ?_;simp only[eP,eN,ND,DK,Ab];rw[Av,A0 h0];refine Ae ?_;refine(Bx Au l k h0 _).trans ?_;simp only[eP,eN,ND,DK,Ab];refine Aa (Gq K l[k+1] l[k]) ?_;simp only[ND,DK,Ab];refine Aq (ET.2 hlt) ?_;rw[Av,A0 h0];refine Ae ?_;refine(Bx Au l k h0 _).trans ?_;simp only[eP,eN,ND,DK,Ab];rw[Av,A0 h1];refine Ae ?_;refine(Bx Au l (k+1) h1 _).trans ?_;simp only[eP,eN,ND,DK,Ab];rw[Av,A0 h1];refine Ae ?_;have s1:=CC Au l (k+1) h1 l[k];have s2:=CC Au (l.set (k+1) l[k]) k (by rw[Apl];exact h0) l[k+1];rw[←DO h1 h0]at s2;simp only[eP,eN]at s1 s2;rw[show Apa (0+(k+1)*3+3) (Ai eP l).length=true by rw[AT Au];simp;omega];refine Ae ?_;rw[Av,A0 h0];refine Ae ?_;rw[s1,s2];rw[show Apa (0+k*3+3) (Ai eP (l.set (k+1) l[k])).length=true by rw[AT Au,Apl];simp;omega];refine Ae ?_;refine Aa g ?_;rfl
  .refine⟨l,?_,rfl,List.Perm.refl _,Rz Pt.v hj hs (.inr ?_),CT _ _ _⟩
   .skip
    refine K.lp' Gw _ rfl (by kernel_rfl) ((St ..).trans ?_);refine Aq (by omega) ?_;rw[Na (by omega),Av,A0 h1];refine Ae ?_;refine(Bx Au l (k+1) h1 _).trans ?_;simp only[eP,eN,ND,DK,Ab];rw[Av,A0 h0];refine Ae ?_;refine(Bx Au l k h0 _).trans ?_;simp only[eP,eN,ND,DK,Ab];refine Aa (Gq K l[k+1] l[k]) ?_;simp only[ND,DK,Ab];exact Ak (λh=>hlt (ET.1 h)) rfl
   .rw[AqO,kf1,kf0]
    omega
theorem AbZ(a b:Nat):∀(m i:Nat) (l:List Pt),b-i=m->a<i->i<=b->b<=l.length->l.length<=1000000000->Srt Pt.v l a i->
  ∃ r:List Pt,D.ask (.lp 234 0) [.sl 0 0 l.length 3,iv (a:Int),iv (b:Int),EO,iv (i:Int)] [Ξ (Ai eP l) true true]
   = some (.tup [iv 0,.sl 0 0 l.length 3],[.set (Ξ (Ai eP r) true true)])
   ∧ r.length=l.length/\r.Perm l/\Srt Pt.v r a b/\Same0 l r a b:=by
 intro m
 induction m with
 |zero=>
  intro i l hm ha hi hb hl hs;obtain rfl:i=b:=by omega
  refine⟨l,?_,rfl,List.Perm.refl _,hs,CT _ _ _⟩;refine K.lp' Gw _ rfl (by kernel_rfl) ((Ss ..).trans ?_);exact Ak (by omega) rfl
 |succ m ih=>
  intro i l hm ha hi hb hl hs;obtain⟨r,g,hr,hp,ho,hsm⟩:=Ah8 K a i (b:Int) _ i l rfl (by omega) (φ _) (by omega) hl (Tp Pt.v hs);obtain⟨r2,g2,hr2,hp2,ho2,hsm2⟩:=ih (i+1) r (by omega) (by omega) (by omega) (by omega) (by omega) ho;rw[hr]at g2;refine⟨r2,?_,by omega,hp2.trans hp,ho2,(hsm.wide (φ _) (by omega)).trans hsm2⟩;refine K.lp' Gw _ rfl (by kernel_rfl) ((Ss ..).trans ?_);refine Aq (by omega) ?_;refine Aa g ?_;simp only[EO,ND,DK,Ab];refine Ae ?_;rw[BC (by omega)];refine Aa g2 ?_;rfl
theorem Yg{a b:Nat}{l:List Pt}(hab:a<=b)(hb:b<=l.length)(hl:l.length<=1000000000) :
  ∃ r:List Pt,D.ask (.fn 234) [.sl 0 0 l.length 3,iv (a:Int),iv (b:Int),EO] [Ξ (Ai eP l) true true]=some (.tup [],[.set (Ξ (Ai eP r) true true)])
   ∧ r.length=l.length/\r.Perm l/\Srt Pt.v r a b/\Same0 l r a b:=by
 by_cases h:a<b
 .obtain⟨r,g,hr⟩:=AbZ K a b _ (a+1) l rfl (by omega) (by omega) hb hl (AeL Pt.v l a)
  refine⟨r,?_,hr⟩;refine K.fn' Gw _ rfl ((AjG ..).trans ?_);rw[BC (by omega)];refine Aa g ?_;rfl
 .obtain rfl:a=b:=by omega
  have g:D.ask (.lp 234 0) [.sl 0 0 l.length 3,iv (a:Int),iv (a:Int),EO,iv ((a+1:Nat):Int)] [Ξ (Ai eP l) true true]=some (.tup [iv 0,.sl 0 0 l.length 3],[.set (Ξ (Ai eP l) true true)]):=by
   refine K.lp' Gw _ rfl (by kernel_rfl) ((Ss ..).trans ?_);exact Ak (by omega) rfl
  refine⟨l,?_,rfl,List.Perm.refl _,AeK Pt.v l a,CT _ _ _⟩;refine K.fn' Gw _ rfl ((AjG ..).trans ?_);rw[BC (by omega)];refine Aa g ?_;rfl
end
structure Tm where
 ps:List Pt
 k:Zi
def eT(t:Tm):List AV:=[.ls (t.ps.map eP),bv t.k.neg,eN t.k.abs]
structure Lf where
 ps:List (Int × Int)
 k:Int
def pv(p:Pt):Int × Int:=(p.v,zv p.z)
def AO(p:Int × Int):Pt:=⟨p.1,Az p.2⟩
def Tm.lf(t:Tm):Lf:=⟨t.ps.map pv,zv t.k⟩
def Lf.tm(l:Lf):Tm:=⟨l.ps.map AO,Az l.k⟩
def Lf.pln(l:Lf):Lf:=⟨A8 l.ps,l.k⟩
theorem Aek(p:Int × Int):pv (AO p)=p:=by
 unfold pv AO;rw[AU]
theorem Dc(l:Lf):l.tm.lf=l:=by
 obtain⟨ps,k⟩:=l;unfold Lf.tm Tm.lf;simp only[List.map_map,AU];rw[show (pv ∘ AO)=id from funext Aek,List.map_id]
theorem Aei(l:Lf):l.pln.pln=l.pln:=by
 unfold Lf.pln;rw[Ij (CZ _)]
structure TmB (n k:Nat) (t:Tm):Prop where
 len:t.ps.length<=n
 ps:∀ p∈t.ps,Lz k p.z
 k:Lz k t.k
structure LB (n k:Nat) (l:Lf):Prop where
 len:l.ps.length<=n
 ps:∀ p∈l.ps,InB k p.2
 k:InB k l.k
theorem TmB.lb{n k:Nat}{t:Tm}(h:TmB n k t):LB n k t.lf:=by
 refine⟨by simpa[Tm.lf]using h.len,λp hp=>?_,h.k.inb⟩;simp only[Tm.lf,ApY]at hp;obtain⟨q,hq,rfl⟩:=hp;exact(h.ps q hq).inb
theorem LB.tb{n k:Nat}{l:Lf}(h:LB n k l):TmB n k l.tm:=by
 refine⟨by simpa[Lf.tm]using h.len,λp hp=>?_,h.k.lz⟩;simp only[Lf.tm,ApY]at hp;obtain⟨q,hq,rfl⟩:=hp;exact(h.ps q hq).lz
theorem LB.mono{n k m j:Nat}{l:Lf}(h:LB n k l)(hn:n<=m)(hk:k<=j):LB m j l:=⟨by have:=h.len;omega,λp hp=>(h.ps p hp).mono hk,h.k.mono hk⟩
theorem TmB.mono{n k m j:Nat}{t:Tm}(h:TmB n k t)(hn:n<=m)(hk:k<=j):TmB m j t:=⟨by have:=h.len;omega,λp hp=>(h.ps p hp).mono hk,h.k.mono hk⟩
theorem G6{k:Nat}(v:Int):∀ l:List (Int × Int),(∀ p∈l,InB k p.2)->InB (k+l.length) (A6 v l)
 |[],_=>InB.zero _
 |p::r,h=>by
  have h1:=G6 v r λq hq=>h q (ApB _ hq)
  have h2:=h p (Apn ..);rw[A6,π,←Nat.add_assoc];refine InB.add ?_ h1;split
  .exact h2.mono (by omega)
  .exact InB.zero _
theorem Pln.mem:∀{l:List (Int × Int)},Pln l->∀ p∈l,A6 p.1 l=p.2
 |q::r,h,p,hp=>by
  rcases Aph.1 hp with rfl|hp
  .exact h.head
  .rw[A6,if_neg (by have:=(ApO.1 h.asc).1 p hp;omega),h.tail.mem p hp]
   omega
theorem LB.pln{n k:Nat}{l:Lf}(h:LB n k l):LB n (k+n) l.pln:=by
 have hl:=Fu l.ps;refine⟨by have:=h.len;simp only[Lf.pln];omega,λp hp=>?_,h.k.mono (by omega)⟩;have h1:=(CZ l.ps).mem p hp;rw[EG,if_pos ((CZ l.ps).pos p hp)]at h1;rw[←h1];exact(G6 p.1 l.ps h.ps).mono (by have:=h.len;omega)
def Lf.add(a b:Lf):Lf:=Lf.pln ⟨a.ps++b.ps,a.k+b.k⟩
def Lf.scale(a:Lf)(n:Int):Lf:=Lf.pln ⟨a.ps.map λp=>(p.1,p.2*n),a.k*n⟩
def Lf.sub(a b:Lf):Lf:=a.add (b.scale (-1))
def Lf.num(k:Int):Lf:=⟨[],k⟩
theorem LB.app{n k m j:Nat}{a b:Lf}(ha:LB n k a)(hb:LB m j b):LB (n+m) (k+j+1) ⟨a.ps++b.ps,a.k+b.k⟩:=by
 refine⟨by have:=ha.len;have:=hb.len;simp only[η];omega,λp hp=>?_,InB.add (ha.k.mono (by omega)) (hb.k.mono (by omega))⟩;rcases List.mem_append.1 hp with h|h
 .exact(ha.ps p h).mono (by omega)
 .exact(hb.ps p h).mono (by omega)
theorem LB.mul{n k j:Nat}{a:Lf}{x:Int}(ha:LB n k a)(hx:InB j x):LB n (k+j) ⟨a.ps.map λp=>(p.1,p.2*x),a.k*x⟩:=by
 refine⟨by simpa using ha.len,λp hp=>?_,InB.mul ha.k hx⟩;simp only[ApY]at hp;obtain⟨q,hq,rfl⟩:=hp;exact InB.mul (ha.ps q hq) hx
theorem LB.add{n k m j:Nat}{a b:Lf}(ha:LB n k a)(hb:LB m j b):LB (n+m) (k+j+1+(n+m)) (a.add b):=(ha.app hb).pln
theorem LB.scale{n k j:Nat}{a:Lf}{x:Int}(ha:LB n k a)(hx:InB j x):LB n (k+j+n) (a.scale x):=(ha.mul hx).pln
def Al0(f:Int->Int):List (Int × Int)->Int
 |[]=>0
 |p::r=>p.2*f p.1+Al0 f r
def Lf.val(f:Int->Int)(l:Lf):Int:=Al0 f l.ps+l.k
section
open Go.RowKit
def Anx:AB:=[⟨21,[false,false,true,true,false,false,false,false,false,true,true,true],[],[2,3],[(1,([false,false,true,true],([],[])))]⟩]
noncomputable def Acf:MFn:=AS Anx 67
def X8:Hnt:=⟨[(62,(.agg [.ls,.bool,.ls],[])),(147,(.agg [.bool,.ls],[]))],[(0,[(1,([.ptr 0 0,.ptr 1 0],[.box [.bool,.ls],.box [.bool,.ls]]))])],[(7,[.ls,.bool,.ls]),(13,[.int .i64,.bool,.ls]),(14,[.int .i64,.bool,.ls]),(15,[.bool,.ls]),(17,[.bool,.ls]),(20,[.bool,.ls])]⟩
noncomputable def RI:List (Nat × MFn):=[(67,Acf)]
variable (A:Ar) (D:Orc)
theorem e67(x0_0:Rw)(x0_1:Bool)(x0_2:Rw):BP A D As X8 .n 67 Acf [Ω [Δ x0_0,bv x0_1,Δ x0_2]] [] =
 Af D (Key.fn 62) [Ω [Δ x0_0,bv x0_1,Δ x0_2]] [] [.a,.L,.B,.L,.N,.E] λxs _ _=>
 Af D (Key.lp 67 0) [ε 0 0,ε 1 0,Δ xs,iv ↑(AF xs),iv 0] [bk [bv false,Δ []],bk [bv false,Δ []]] [.t,.C,.x,.X,.Y] λc l3 o1=>
 br (Bo 1 c)
 (dk [.P 0 0,.P 1 0,.N,.T,.B,.L,.N,.T,.B,.L,.N,.E] [.l l3,.o o1] λ_ _ b2 xs3=>
 some ((Ω [bv b2,Δ xs3],[])))
 (none):=by kernel_rfl
theorem Afv(b2_0:Bool)(b2_1:Rw)(b3_0:Bool)(b3_1 t9:Rw)(t10 t11:Int):CO A D As X8 .n 67 0 (AN Acf 0).fst (AN Acf 0).snd [ε 0 0,ε 1 0,Δ t9,iv t10,iv t11] [bk [bv b2_0,Δ b2_1],bk [bv b3_0,Δ b3_1]] =
 br (A.lt t11 t10)
 (unI t11 λi=>
 Bl t9 i λcs=>
 dk [.I,.B,.L,.N] [.l cs] λn b xs=>
 Af D (Key.fn 147) [Ω [bv b3_0,Δ b3_1],Ω [bv b,Δ xs]] [] [.a,.B,.L,.N,.E] λb1 xs1=>
 AI D (Key.lp 67 0) [ε 0 0,ε 1 0,Δ t9,iv t10,iv (A.add IntKind.i64 t11 1)] [bk [bv b2_0,Δ b2_1],bk [bv b1,Δ xs1]] λr1 o1=>
 AE 2 [0,1] (AH.mk [(1,bk [bv b1,Δ xs1]),(0,bk [bv b2_0,Δ b2_1]),(2,bk [iv n,bv b,Δ xs])] 3 none) [0,1] r1 o1)
 (some ((ν [iv 0,ε 0 0,ε 1 0],[ο (bk [bv b2_0,Δ b2_1]),ο (bk [bv b3_0,Δ b3_1])]))):=by kernel_rfl
end
structure ZdF (D:Orc):Prop where
 div:∀ a b:Zi,Lz 800000000 a->Lz 800000000 b->D.ask (.fn 66) [.agg (eZ a),.agg (eZ b)] []
  = some (if zv b=0 then .tup [.agg [bv false,.ls []],.agg [bv false,.ls []],iv 10] else .tup [.agg (eZ (Az (qZ (zv a) (zv b)))),.agg (eZ (Az (rZ (zv a) (zv b)))),iv 0],[])
 exact:∀ a b:Zi,Lz 800000000 a->Lz 800000000 b->D.ask (.fn 143) [.agg (eZ a),.agg (eZ b)] []
  = some (if zv b=0 then .tup [.agg [bv false,.ls []],iv 10] else if rZ (zv a) (zv b)=0 then .tup [.agg (eZ (Az (qZ (zv a) (zv b)))),iv 0] else .tup [.agg [bv false,.ls []],iv 1],[])
 gcd:∀ a b:Zi,Lz 900000000 a->Lz 900000000 b->D.ask (.fn 147) [.agg (eZ a),.agg (eZ b)] []=some (.agg (eZ (Az (AqJ (zv a).natAbs (zv b).natAbs:Nat))),[])
theorem Ag5{D:Orc}(K:Knows As Gb D)(Z:Knows As Hx D)(C:CloneF D)(G:Knows As KK D)(V:DivF D):ZdF D:=⟨λ_ _ ha hb=>UM K Z C G V ha hb,λ_ _ ha hb=>Wx K Z C G V ha hb,λ_ _ ha hb=>Afk K Z C G V ha hb⟩
def Nz(g:Nat)(l:List (Int × Int)):Nat:=l.foldl (λg p=>AqJ g p.2.natAbs) g
theorem Ll{k g:Nat}{x:Int}(hg:InB k (g:Int))(hx:InB k x):InB k ((AqJ g x.natAbs:Nat):Int):=by
 unfold InB at *;rw[Ari]at *;rcases Nat.eq_zero_or_pos g with h|h
 .rw[h,Nat.gcd_zero_left]
  exact hx
 .have:=Nat.gcd_le_left x.natAbs h
  omega
theorem Mf{k:Nat}:∀(l:List (Int × Int)) (g:Nat),InB k (g:Int)->(∀ p∈l,InB k p.2)->InB k (Nz g l:Int)
 |[],_,h,_=>h
 |p::r,g,h,hl=>Mf r _ (Ll h (hl p (Apn ..))) λq hq=>hl q (ApB _ hq)
theorem Me:∀(l:List (Int × Int)) (g:Nat),Nz g l ∣ g/\∀ p∈l,Nz g l ∣ p.2.natAbs
 |[],g=>⟨AsY _,λ_ h=>by cases h⟩
 |p::r,g=>by
  obtain⟨h1,h2⟩:=Me r (AqJ g p.2.natAbs);refine⟨AsS h1 (Nat.gcd_dvd_left ..),λq hq=>?_⟩;rcases Aph.1 hq with rfl|h
  .exact AsS h1 (Nat.gcd_dvd_right ..)
  .exact h2 q h
section
variable {D:Orc} (T:Knows As RI D) (W:ZdF D)
include T W
theorem Ahw(l:List (Int × Int))(hlen:l.length<=4000000)(hl:∀ p∈l,InB 800000000 p.2):∀(m i g:Nat),l.length-i=m->i<=l.length->InB 800000000 (g:Int)->
  D.ask (.lp 67 0) [.ptr 0 0,.ptr 1 0,.ls (l.map λp=>eP (AO p)),iv (l.length:Int),iv (i:Int)] [bk [bv false,.ls []],bk (eZ (Az (g:Int)))]
   = some (.tup [iv 0,.ptr 0 0,.ptr 1 0],[.set (bk [bv false,.ls []]),.set (bk (eZ (Az (Nz g (l.drop i):Int))))]):=by
 intro m
 induction m with
 |zero=>
  intro i g hm hi hg;rw[υ (by omega)];refine T.lp' X8 _ rfl (by kernel_rfl) ((Afv ..).trans ?_);exact Ak (by omega) rfl
 |succ m ih=>
  intro i g hm hi hg;have h1:i<l.length:=by omega
  have hx:=hl _ (ApP h1);rw[ω h1];have ga:=W.gcd (Az (g:Int)) (Az l[i].2) (hg.lz.mono (by omega)) (hx.lz.mono (by omega));rw[AU,AU,Ari]at ga;have ih1:=ih (i+1) (AqJ g l[i].2.natAbs) (by omega) (by omega) (Ll hg hx);refine T.lp' X8 _ rfl (by kernel_rfl) ((Afv ..).trans ?_);refine Aq (by omega) ?_;rw[Av,Aw (f:=λp=>eP (AO p)) (Ψ h1)];simp only[eP,AO,eN,ND,DK,Ab];refine Aa ga ?_;simp only[eZ,eN,ND,DK,Ab];rw[BC (by omega)];refine Aa ih1 ?_;rfl
theorem Sk{t:Tm}{l:List (Int × Int)}{k:Zi}(hp:D.ask (.fn 62) [.agg (eT t)] []=some (.agg [.ls (l.map λp=>eP (AO p)),bv k.neg,eN k.abs],[]))(hlen:l.length<=4000000)(hl:∀ p∈l,InB 800000000 p.2) :
  D.ask (.fn 67) [.agg (eT t)] []=some (.agg (eZ (Az (Nz 0 l:Int))),[]):=by
 have g:=Ahw T W l hlen hl _ 0 0 rfl (by omega) (InB.zero _);rw[χ,show Az ((0:Nat):Int)=⟨false,[]⟩ from No,show eZ ⟨false,[]⟩=[bv false,.ls []] from rfl]at g;refine T.fn' X8 _ rfl ((e67 ..).trans ?_);refine Aa hp ?_;simp only[eZ,eN,Aj,ND,DK,Ab];refine Aa g ?_;rfl
end
def Gy(v:Int):Bool->List Int->List Int × Bool
 |d,[]=>([],d)
 |d,x::r=>((if !d&&decide (v<=x) then [v] else [])++((if x=v then [] else [x])++(Gy v (d||decide (v<=x)) r).1),(Gy v (d||decide (v<=x)) r).2)
def If(v:Int)(l:List Int):List Int:=(Gy v false l).1++(if(Gy v false l).2 then [] else [v])
theorem Jz(v:Int):∀ l:List Int,(∀ x∈l,v<x)->Gy v true l=(l,true)
 |[],_=>rfl
 |x::r,h=>by
  have h1:=h x Apn;rw[Gy,Bool.true_or,Jz v r λy hy=>h y (ApB _ hy),if_neg (show ¬ x=v by omega)];rfl
theorem QV(v:Int):If v []=[v]:=rfl
theorem Ph{v x:Int}{r:List Int}(h:v<x)(hr:∀ y∈r,x<y):If v (x::r)=v::x::r:=by
 unfold If;rw[Gy,decide_eq_true (by omega:v<=x),Ary,Jz v r λy hy=>by have:=hr y hy;omega,if_neg (show ¬ x=v by omega)];simp
theorem Pf{v:Int}{r:List Int}(hr:∀ y∈r,v<y):If v (v::r)=v::r:=by
 unfold If;rw[Gy,decide_eq_true (ArJ v),Ary,Jz v r hr,if_pos rfl];simp
theorem Pg{v x:Int}{r:List Int}(h:x<v):If v (x::r)=x::If v r:=by
 unfold If;rw[Gy,decide_eq_false (by omega:¬ v<=x),Ary,if_neg (show ¬ x=v by omega)];simp
def WA(l:List Int):Prop:=l.Pairwise (· < ·)
theorem MG(v:Int):∀{l:List Int},WA l->∀ y,y∈If v l ↔ y=v\/y∈l
 |[],_,y=>by rw[QV];simp
 |x::r,h,y=>by
  have h1:=ApO.1 h;have ih:=MG v h1.2 y;rcases Aro v x with hv|hv|hv
  .rw[Ph hv h1.1];simp
  .subst hv
   rw[Pf h1.1];simp
  .rw[Pg hv,Aph,ih,Aph]
   exact or_left_comm
theorem Gz(v:Int):∀{l:List Int},WA l->WA (If v l)
 |[],_=>by rw[QV];exact Arn _ _
 |x::r,h=>by
  have h1:=ApO.1 h;rcases Aro v x with hv|hv|hv
  .rw[Ph hv h1.1]
   refine ApO.2 ⟨λy hy=>?_,h⟩;rcases Aph.1 hy with rfl|hy
   .exact hv
   .have:=h1.1 y hy;omega
  .subst hv
   rw[Pf h1.1];exact h
  .rw[Pg hv]
   refine ApO.2 ⟨λy hy=>?_,Gz v h1.2⟩;rcases (MG v h1.2 y).1 hy with rfl|hy
   .exact hv
   .exact h1.1 y hy
theorem QS(v:Int):∀(d:Bool) (l:List Int),(Gy v d l).1.length<=2*l.length
 |_,[]=>φ _
 |d,x::r=>by
  have:=QS v (d||decide (v<=x)) r;rw[Gy,η,η,π];have h1:(if(!d&&decide (v<=x))=true then [v] else []).length<=1:=by split<;>simp
  have h2:(if x=v then [] else [x]).length<=1:=by split<;>simp
  omega
theorem MF(v:Int):∀{l:List Int},WA l->(If v l).length<=l.length+1
 |[],_=>φ _
 |x::r,h=>by
  have h1:=ApO.1 h;have ih:=MF v h1.2;rcases Aro v x with hv|hv|hv
  .rw[Ph hv h1.1];simp
  .subst hv
   rw[Pf h1.1];simp
  .rw[Pg hv,π,π];omega
def FE(f:Int->Int):List Int->List Int->List Int
 |out,[]=>out
 |out,v::r=>FE f (if f v=0 then out else If v out) r
theorem OI(f:Int->Int):∀(l:List Int) {out:List Int},WA out->WA (FE f out l)
 |[],_,h=>h
 |v::r,out,h=>by
  rw[FE];refine OI f r ?_;split
  .exact h
  .exact Gz v h
theorem JU(f:Int->Int)(y:Int):∀(l:List Int) {out:List Int},WA out->(y∈FE f out l ↔ y∈out\/(y∈l/\f y≠0))
 |[],out,_=>by rw[FE];simp
 |v::r,out,h=>by
  rw[FE]
  by_cases hv:f v=0
  .rw[if_pos hv,JU f y r h,Aph]
   constructor
   .rintro (h1|⟨h1,h2⟩)
    .exact .inl h1
    .exact .inr ⟨.inr h1,h2⟩
   .rintro (h1|⟨rfl|h1,h2⟩)
    .exact .inl h1
    .exact absurd hv h2
    .exact .inr ⟨h1,h2⟩
  .rw[if_neg hv,JU f y r (Gz v h),MG v h,Aph]
   constructor
   .rintro ((rfl|h1) | ⟨h1,h2⟩)
    .exact .inr ⟨.inl rfl,hv⟩
    .exact .inl h1
    .exact .inr ⟨.inr h1,h2⟩
   .rintro (h1|⟨rfl|h1,h2⟩)
    .exact .inl (.inr h1)
    .exact .inl (.inl rfl)
    .exact .inr ⟨h1,h2⟩
theorem JT(f:Int->Int):∀(l:List Int) {out:List Int},WA out->(FE f out l).length<=out.length+l.length
 |[],out,_=>by rw[FE];simp
 |v::r,out,h=>by
  rw[FE,π]
  by_cases hv:f v=0
  .rw[if_pos hv]
   have:=JT f r h;omega
  .rw[if_neg hv]
   have:=JT f r (Gz v h);have:=MF v h;omega
def Cz(ps:List (Int × Int))(v:Int):Int:=if 0<=v then A6 v ps else 0
def E8(ps:List (Int × Int)):List Int:=FE (Cz ps) [] (ps.map (·.1))
theorem Lb:WA []:=List.Pairwise.nil
theorem NT(c:Int->Int)(v:Int):∀{l:List Int},WA l->A6 v (l.map λu=>(u,c u))=if v∈l then c v else 0
 |[],_=>by simp[A6]
 |x::r,h=>by
  have h1:=ApO.1 h;rw[Aps,A6,NT c v h1.2]
  by_cases hx:x=v
  .subst hx
   rw[if_pos rfl,if_pos Apn,if_neg (λhm=>by have:=h1.1 _ hm;omega)];exact Int.add_zero _
  .rw[if_neg hx,Int.zero_add]
   have e:(v∈x::r) ↔ v∈r:=by
    rw[Aph];exact⟨λh=>h.resolve_left λe=>hx e.symm,.inr⟩
   by_cases hm:v∈r
   .rw[if_pos hm,if_pos (e.2 hm)]
   .rw[if_neg hm,if_neg λh=>hm (e.1 h)]
theorem Di(ps:List (Int × Int)):(E8 ps).map (λv=>(v,Cz ps v))=A8 ps:=by
 have ha:WA (E8 ps):=OI _ _ Lb;have hm:∀ y,y∈E8 ps ↔ y∈ps.map (·.1)/\Cz ps y≠0:=λy=>by
  have:=JU (Cz ps) y (ps.map (·.1)) Lb;unfold E8;simpa using this
 refine IW ⟨?_,?_,?_⟩ λv hv=>?_
 .rw[Arr]
  exact ha
 .intro p hp
  rw[ApY]at hp;obtain⟨v,hv,rfl⟩:=hp;have:=((hm v).1 hv).2;unfold Cz at this
  by_cases h0:0<=v
  .exact h0
  .rw[if_neg h0]at this
   exact absurd rfl this
 .intro p hp
  rw[ApY]at hp;obtain⟨v,hv,rfl⟩:=hp;exact((hm v).1 hv).2
 .rw[NT _ _ ha]
  have hc:Cz ps v=A6 v ps:=if_pos hv
  by_cases hv2:v∈E8 ps
  .rw[if_pos hv2,hc]
  .rw[if_neg hv2]
   by_cases hz:A6 v ps=0
   .exact hz.symm
   .refine absurd ((hm v).2 ⟨?_,by rw[hc];exact hz⟩) hv2
    by_cases hmm:v∈ps.map (·.1)
    .exact hmm
    .refine absurd (EB λp hp e=>hmm ?_) hz
     rw[←e];exact List.mem_map_of_mem hp
inductive Fm where
 |mk (kind:Int) (t:Tm) (eq:Bool) (kids:List Fm)
def Fm.kind:Fm->Int
 |.mk k _ _ _=>k
def Fm.tm:Fm->Tm
 |.mk _ t _ _=>t
def Fm.eq:Fm->Bool
 |.mk _ _ e _=>e
def Fm.kids:Fm->List Fm
 |.mk _ _ _ ks=>ks
def Tm0:Tm:=⟨[],⟨false,[]⟩⟩
def kF(k:Int)(ks:List Fm):Fm:=.mk k Tm0 false ks
def Aje(b:Bool):Fm:=kF (if b then 0 else 1) []
def WN(l:Lf)(e:Bool):Fm:=.mk 2 l.tm e []
mutual
def HQ:Fm->Fm
 |.mk k t e ks=>if k=0 then Aje true else if k=2 then WN t.lf.pln e else if k=3 then kF 3 (TC ks) else if k=4\/k=5 then kF k (Lh ks) else Aje false
def TC:List Fm->List Fm
 |[]=>[]
 |x::_=>[HQ x]
def Lh:List Fm->List Fm
 |[]=>[]
 |x::r=>HQ x::Lh r
end
mutual
inductive CanF:Fm->Prop
 |tru (b:Bool):CanF (Aje b)
 |atom (l:Lf) (e:Bool) (h:l.pln=l):CanF (WN l e)
 |no (x:Fm) (h:CanF x):CanF (kF 3 [x])
 |and (l:List Fm) (h:CanFs l):CanF (kF 4 l)
 |or (l:List Fm) (h:CanFs l):CanF (kF 5 l)
 |no0:CanF (kF 3 [])
inductive CanFs:List Fm->Prop
 |nil:CanFs []
 |cons {x:Fm} {r:List Fm} (h:CanF x) (hr:CanFs r):CanFs (x::r)
end
mutual
theorem CanF.clone:∀{x:Fm},CanF x->HQ x=x
 |_,.tru b=>by cases b<;>rfl
 |_,.atom l e h=>by
  unfold WN;rw[HQ,if_neg (by decide),if_pos rfl,Dc,h];rfl
 |_,.no x h=>by
  unfold kF;rw[HQ,if_neg (by decide),if_neg (by decide),if_pos rfl,TC,h.clone];rfl
 |_,.and l h=>by
  unfold kF;rw[HQ,if_neg (by decide),if_neg (by decide),if_neg (by decide),if_pos (.inl rfl),h.clone];rfl
 |_,.or l h=>by
  unfold kF;rw[HQ,if_neg (by decide),if_neg (by decide),if_neg (by decide),if_pos (.inr rfl),h.clone];rfl
 |_,.no0=>rfl
theorem CanFs.clone:∀{l:List Fm},CanFs l->Lh l=l
 |_,.nil=>rfl
 |_,.cons h hr=>by rw[Lh,h.clone,hr.clone]
end
theorem AeP(l r:Lf):(l.sub r).pln=l.sub r:=Aei _

def CK:List (Int × Int)->Int × Int->List (Int × Int)
 |[],p=>if p.1<0 then [] else [p]
 |q::r,p=>if p.1<0 then q::r else if q.1=p.1 then(q.1,q.2+p.2)::r else p::q::r
theorem D9(p:Int × Int):CK [] p=if p.1<0 then [] else [p]:=rfl
theorem Dp(q:Int × Int)(r:List (Int × Int))(p:Int × Int):CK (q::r) p=if p.1<0 then q::r else if q.1=p.1 then(q.1,q.2+p.2)::r else p::q::r:=rfl
structure GrpI (s t:List (Int × Int)):Prop where
 desc:s.Pairwise λa b=>b.1<a.1
 pos:∀ q∈s,0<=q.1
 up:∀ q∈s,∀ p∈t,0<=p.1->q.1<=p.1
theorem Vk(v:Int)(hv:0<=v):∀(s:List (Int × Int)) (p:Int × Int),A6 v (CK s p)=A6 v s+(if p.1=v then p.2 else 0)
 |[],p=>by
  rw[D9];split
  .rw[if_neg (by omega)];simp[A6]
  .simp[A6]
 |q::r,p=>by
  rw[Dp];split
  .rw[if_neg (by omega)];omega
  .split
   .rename_i h
    rw[A6,A6];simp only[h];split<;>omega
   .rw[A6]
    omega
theorem XU{s t:List (Int × Int)}{p:Int × Int}(h:GrpI s (p::t))(ht:∀ x∈t,p.1<=x.1):GrpI (CK s p) t:=by
 have ut:∀ q∈s,∀ x∈t,0<=x.1->q.1<=x.1:=λq hq x hx=>h.up q hq x (ApB _ hx)
 cases s with
 |nil=>
  rw[D9];split
  .exact⟨.nil,by simp,by simp⟩
  .exact⟨Arn _ _,by simp;omega,λq hq x hx _=>by rw[Aqb.1 hq];exact ht x hx⟩
 |cons q r=>
  have hd:=ApO.1 h.desc;rw[Dp];split
  .exact⟨h.desc,h.pos,ut⟩
  .rename_i hp
   split
   .refine⟨ApO.2 ⟨λx hx=>hd.1 x hx,hd.2⟩,λx hx=>?_,λx hx y hy hy0=>?_⟩
    .rcases Aph.1 hx with rfl|hx
     .exact h.pos q (Apn ..)
     .exact h.pos x (ApB _ hx)
    .rcases Aph.1 hx with rfl|hx
     .exact ut q (Apn ..) y hy hy0
     .exact ut x (ApB _ hx) y hy hy0
   .rename_i hne
    have hq:=h.up q (Apn ..) p (Apn ..) (by omega);refine⟨ApO.2 ⟨λx hx=>?_,h.desc⟩,λx hx=>?_,λx hx y hy hy0=>?_⟩
    .rcases Aph.1 hx with rfl|hx
     .omega
     .have:=hd.1 x hx;omega
    .rcases Aph.1 hx with rfl|hx
     .omega
     .exact h.pos x hx
    .rcases Aph.1 hx with rfl|hx
     .exact ht y hy
     .exact ut x hx y hy hy0
theorem TR:∀(t s:List (Int × Int)),t.Pairwise (λa b=>a.1<=b.1)->GrpI s t->GrpI (t.foldl CK s) []/\∀ v,0<=v->A6 v (t.foldl CK s)=A6 v s+A6 v t
 |[],s,_,h=>⟨h,λv _=>by simp[A6]⟩
 |p::t,s,ht,h=>by
  have hp:=ApO.1 ht;obtain⟨g1,g2⟩:=TR t (CK s p) hp.2 (XU h hp.1);refine⟨g1,λv hv=>?_⟩;rw[AqQ,g2 v hv,Vk v hv,A6];omega
theorem Ql(v:Int):∀ l:List (Int × Int),A6 v (l.filter λp=>!decide (p.2=0))=A6 v l
 |[]=>rfl
 |p::r=>by
  have ih:=Ql v r
  by_cases h:p.2=0
  .rw[List.filter_cons_of_neg (by simp[h]),ih,A6,h]
   simp
  .rw[List.filter_cons_of_pos (by simp[h]),A6,A6,ih]
theorem O9{t l:List (Int × Int)}(ht:t.Pairwise λa b=>a.1<=b.1)(hp:t.Perm l):((t.foldl CK []).reverse).filter (λp=>!decide (p.2=0))=A8 l:=by
 obtain⟨g1,g2⟩:=TR t [] ht ⟨.nil,by simp,by simp⟩;refine IW ⟨?_,λp h=>?_,λp h=>?_⟩ λv hv=>?_
 .refine List.Pairwise.filter _ ?_
  rw[List.pairwise_reverse];exact g1.desc
 .have:=(Arg.1 h).1
  exact g1.pos p (ArC.1 this)
 .simpa using (Arg.1 h).2
 .rw[Ql,LX (List.reverse_perm _),g2 v hv,LX hp]
  simp[A6]
theorem Gt{k:Nat}{s:List (Int × Int)}{p:Int × Int}(hs:∀ q∈s,InB k q.2)(hp:InB k p.2):∀ q∈CK s p,InB (k+1) q.2:=by
 cases s with
 |nil=>
  rw[D9];split
  .simp
  .intro q hq
   rw[Aqb.1 hq];exact hp.mono (by omega)
 |cons q r=>
  rw[Dp];have hq:=hs q (Apn ..);have hr:∀ x∈r,InB (k+1) x.2:=λx hx=>(hs x (ApB _ hx)).mono (by omega)
  split
  .intro x hx
   rcases Aph.1 hx with rfl|hx
   .exact hq.mono (by omega)
   .exact hr x hx
  .split
   .intro x hx
    rcases Aph.1 hx with rfl|hx
    .exact InB.add hq hp
    .exact hr x hx
   .intro x hx
    rcases Aph.1 hx with rfl|hx
    .exact hp.mono (by omega)
    .rcases Aph.1 hx with rfl|hx
     .exact hq.mono (by omega)
     .exact hr x hx
theorem Gu(s:List (Int × Int))(p:Int × Int):(CK s p).length<=s.length+1:=by
 cases s with
 |nil=>rw[D9];split<;>simp
 |cons q r=>
  rw[Dp];split
  .simp
  .split<;>simp
theorem Srt.same{l r:List Pt}{a b p q:Nat}(h:Srt Pt.v l p q)(hs:Same0 l r a b)(hd:q<=a\/b<=p):Srt Pt.v r p q:=by
 intro x y h1 h2 h3;rw[hs.kf Pt.v (by omega),hs.kf Pt.v (by omega)];exact h x y h1 h2 h3
def R1(q t:Nat)(l:List Pt):Prop:=∀ p,q ∣ p->p+q<=t->Srt Pt.v l p (p+q)
theorem Ajq{a:Nat}(h:a<4611686018427387000):Ag.add .i64 (a:Int) 20=((a+20:Nat):Int):=by
 rw[Ef (by omega) (by omega)];rfl
section
variable {D:Orc} (K:Knows As Eh D)
include K
theorem Ai7:∀(m a:Nat) (l:List Pt),l.length-a=m->a<=l.length->l.length<=1000000000->20 ∣ a->R1 20 a l->
  ∃(r:List Pt) (c:Nat),D.ask (.lp 196 0) [.sl 0 0 l.length 3,iv (l.length:Int),EO,iv 20,iv (a:Int),iv ((a+20:Nat):Int)] [Ξ (Ai eP l) true true]
   = some (.tup [iv 0,.sl 0 0 l.length 3,iv (l.length:Int),EO,iv 20,iv (c:Int)],[.set (Ξ (Ai eP r) true true)])
   ∧ r.length=l.length/\r.Perm l/\c<=l.length/\l.length<c+20/\20 ∣ c/\R1 20 c r:=by
 intro m
 induction m using Aqv with
 |_ m ih=>
  intro a l hm ha hl hd hb
  by_cases h:a+20<=l.length
  .obtain⟨r,g,hr,hp,ho,hsm⟩:=Yg K (a:=a) (b:=a+20) (l:=l) (by omega) h hl
   have hb2:R1 20 (a+20) r:=λp h1 h2=>by
    by_cases hpa:p=a
    .subst hpa
     exact ho
    .exact(hb p h1 (by omega)).same hsm (.inl (by omega))
   obtain⟨r2,c,g2,hr2,hp2,h3,h4,h5,h6⟩:=ih (r.length-(a+20)) (by omega) (a+20) r rfl (by omega) (by omega) (by omega) hb2;rw[hr]at g2 h3 h4;refine⟨r2,c,?_,by omega,hp2.trans hp,h3,h4,h5,h6⟩;refine K.lp' F8 _ rfl (by kernel_rfl) ((Xi ..).trans ?_);refine BW (by omega) ?_;refine Aa g ?_;simp only[EO,ND,DK,Ab];rw[Ajq (by omega)];refine Aa g2 ?_;rfl
  .refine⟨l,a,?_,rfl,List.Perm.refl _,ha,by omega,hd,hb⟩
   refine K.lp' F8 _ rfl (by kernel_rfl) ((Xi ..).trans ?_);exact Ca (by omega) rfl
omit K in
def Lx(D:Orc):Prop:=∀(l:List Pt) (a m b:Nat),a<m->m<b->b<=l.length->l.length<=1000000000->Srt Pt.v l a m->Srt Pt.v l m b->
 ∃ r:List Pt,D.ask (.fn 235) [.sl 0 0 l.length 3,iv (a:Int),iv (m:Int),iv (b:Int),EO] [Ξ (Ai eP l) true true]=some (.tup [],[.set (Ξ (Ai eP r) true true)])
  ∧ r.length=l.length/\r.Perm l/\Srt Pt.v r a b/\Same0 l r a b
def TlS(q a:Nat)(l:List Pt):Prop:=∀ j,Srt Pt.v l (a+j*q) (min (a+(j+1)*q) l.length)
theorem Ai9(M:Lx D)(q:Nat)(hq:0<q)(hq2:q<=1000000000):∀(m a:Nat) (l:List Pt),l.length-a=m->a<=l.length->l.length<=1000000000->2*q ∣ a->R1 (2*q) a l->TlS q a l->
  ∃(r:List Pt) (c:Nat),D.ask (.lp 196 2) [.sl 0 0 l.length 3,iv (l.length:Int),EO,iv (q:Int),iv (a:Int),iv ((a+2*q:Nat):Int)] [Ξ (Ai eP l) true true]
   = some (.tup [iv 4,.sl 0 0 l.length 3,iv (l.length:Int),EO,iv (q:Int),iv (c:Int)],[.set (Ξ (Ai eP r) true true)])
   ∧ r.length=l.length/\r.Perm l/\c<=l.length/\l.length<c+2*q/\2*q ∣ c/\R1 (2*q) c r/\TlS q c r:=by
 intro m
 induction m using Aqv with
 |_ m ih=>
  intro a l hm ha hl hd hb ht
  by_cases h:a+2*q<=l.length
  .have t0:=ht 0
   have t1:=ht 1;rw[Aqu,ApJ,Apy,Aqi,ApL (by omega)]at t0;rw[Aqi,show (1+1)*q=2*q from rfl,ApL h]at t1;obtain⟨r,g,hr,hp,ho,hsm⟩:=M l a (a+q) (a+2*q) (by omega) (by omega) h hl t0 t1;have hb2:R1 (2*q) (a+2*q) r:=λp h1 h2=>by
    by_cases hpa:p=a
    .subst hpa
     exact ho
    .have:=Asg (by omega) (Asx hd h1)
     exact(hb p h1 (by omega)).same hsm (.inl (by omega))
   have ht2:TlS q (a+2*q) r:=λj=>by
    have:=ht (j+2);rw[show a+(j+2)*q=a+2*q+j*q by rw[ApA];omega,show a+(j+2+1)*q=a+2*q+(j+1)*q by rw[ApA,ApA,ApA];omega]at this;rw[hr];exact this.same hsm (.inr (by omega))
   obtain⟨r2,c,g2,hr2,hp2,h3,h4,h5,h6,h7⟩:=ih (r.length-(a+2*q)) (by omega) (a+2*q) r rfl (by omega) (by omega) (Nat.dvd_add hd (AsY _)) hb2 ht2;rw[hr]at g2 h3 h4;refine⟨r2,c,?_,by omega,hp2.trans hp,h3,h4,h5,h6,h7⟩;refine K.lp' F8 _ rfl (by kernel_rfl) ((Xj ..).trans ?_);refine BW (by omega) ?_;rw[show Ag.add .i64 (a:Int) (q:Int)=((a+q:Nat):Int) by rw[Ef (by omega) (by omega)];omega,
    show Ag.mul .i64 2 (q:Int)=((2*q:Nat):Int) by
     show IntKind.i64.wrap (2*(q:Int))=_
     rw[IntKind.wrap_i64];omega,
    show Ag.add .i64 ((a+2*q:Nat):Int) ((2*q:Nat):Int)=((a+2*q+2*q:Nat):Int) by rw[Ef (by omega) (by omega)];omega]
   refine Aa g ?_;simp only[EO,ND,DK,Ab];refine Aa g2 ?_;rfl
  .refine⟨l,a,?_,rfl,List.Perm.refl _,ha,by omega,hd,hb,ht⟩
   refine K.lp' F8 _ rfl (by kernel_rfl) ((Xj ..).trans ?_);exact Ca (by omega) rfl
omit K in
theorem Ts{q c:Nat}{r:List Pt}(hq:0<q)(hd:q ∣ c)(hn:r.length<c+q)(hb:R1 q c r)(hs:Srt Pt.v r c r.length):TlS q 0 r:=λj=>by
 rw[Apy,Apy];have e:(j+1)*q=j*q+q:=by rw[ApA];omega
 by_cases h1:j*q+q<=c
 .have:=hb (j*q) (ArY q j) h1
  intro x y hx hxy hy;exact this x y hx hxy (by omega)
 .by_cases h2:j*q=c
  .intro x y hx hxy hy
   exact hs x y (by omega) hxy (by omega)
  .intro x y hx hxy hy
   exfalso
   by_cases h3:j*q<c
   .have:=Asg (by omega) (Asx hd (ArY q j))
    omega
   .have:=Asg (by omega) (Asx (ArY q j) hd)
    omega
theorem Ai8(M:Lx D):∀(m q:Nat) (l:List Pt),l.length-q=m->0<q->q<=2000000000->l.length<=1000000000->TlS q 0 l->
  ∃ r:List Pt,D.ask (.lp 196 1) [.sl 0 0 l.length 3,iv (l.length:Int),EO,iv (q:Int)] [Ξ (Ai eP l) true true]
   = some (.tup [iv 2,.sl 0 0 l.length 3],[.set (Ξ (Ai eP r) true true)])
   ∧ r.length=l.length/\r.Perm l/\Srt Pt.v r 0 r.length:=by
 intro m
 induction m using Aqv with
 |_ m ih=>
  intro q l hm hq hq2 hl ht
  by_cases h:q<l.length
  .obtain⟨r,c,g,hr,hp,hc,hn,hd,hb,ht2⟩:=Ai9 K M q hq (by omega) _ 0 l rfl (by omega) hl (AsZ _) (λp _ h2=>by omega) ht
   have t0:=ht2 0;have t1:=ht2 1;rw[Aqu,ApJ,Apy,Aqi]at t0;rw[Aqi,show (1+1)*q=2*q from rfl,Ar2 (by omega)]at t1;rw[Apy]at g;have emul:Ag.mul .i64 2 (q:Int)=((2*q:Nat):Int):=by
    show IntKind.i64.wrap (2*(q:Int))=_
    rw[IntKind.wrap_i64];omega
   have emul2:Ag.mul .i64 (q:Int) 2=((2*q:Nat):Int):=by
    show IntKind.i64.wrap ((q:Int)*2)=_
    rw[IntKind.wrap_i64];omega
   have eadd:Ag.add .i64 (c:Int) (q:Int)=((c+q:Nat):Int):=by rw[Ef (by omega) (by omega)];omega
   by_cases h2:c+q<l.length
   .rw[ApL (by omega)]at t0
    obtain⟨r3,g3,hr3,hp3,ho3,hsm⟩:=M r c (c+q) r.length (by omega) (by omega) (φ _) (by omega) t0 t1;have ht3:TlS (2*q) 0 r3:=Ts (by omega) hd (by omega) (λp h1 h2=>(hb p h1 h2).same hsm (.inl (by omega))) (by rw[hr3];exact ho3);obtain⟨r4,g4,hr4,hp4,ho4⟩:=ih (r3.length-2*q) (by omega) (2*q) r3 rfl (by omega) (by omega) (by omega) ht3;rw[hr]at g3 hr3;rw[hr3]at g4 hr4;refine⟨r4,?_,hr4,hp4.trans (hp3.trans hp),ho4⟩;refine K.lp' F8 _ rfl (by kernel_rfl) ((So ..).trans ?_);refine Aq (by omega) ?_;rw[emul];refine Aa g ?_;simp only[EO,ND,DK,Ab];refine Ae ?_;rw[eadd,emul2];refine Aq (by omega) ?_;refine Aa g3 ?_;simp only[EO,ND,DK,Ab];refine Aa g4 ?_;rfl
   .rw[Ar2 (by omega)]at t0
    have ht3:TlS (2*q) 0 r:=Ts (by omega) hd (by omega) hb t0;obtain⟨r4,g4,hr4,hp4,ho4⟩:=ih (r.length-2*q) (by omega) (2*q) r rfl (by omega) (by omega) (by omega) ht3;rw[hr]at g4 hr4;refine⟨r4,?_,hr4,hp4.trans hp,ho4⟩;refine K.lp' F8 _ rfl (by kernel_rfl) ((So ..).trans ?_);refine Aq (by omega) ?_;rw[emul];refine Aa g ?_;simp only[EO,ND,DK,Ab];refine Ae ?_;rw[eadd,emul2];refine Ak (by omega) ?_;refine Aa g4 ?_;rfl
  .refine⟨l,?_,rfl,List.Perm.refl _,?_⟩
   .refine K.lp' F8 _ rfl (by kernel_rfl) ((So ..).trans ?_)
    exact Ak (by omega) rfl
   .have t0:=ht 0
    rw[Aqu,Apy,Apy,Aqi,Ar2 (by omega)]at t0;exact t0
theorem Wc(M:Lx D){l:List Pt}(hl:l.length<=1000000000) :
  ∃ r:List Pt,D.ask (.fn 196) [.sl 0 0 l.length 3,iv (l.length:Int),EO] [Ξ (Ai eP l) true true]=some (.tup [],[.set (Ξ (Ai eP r) true true)])
   ∧ r.length=l.length/\r.Perm l/\Srt Pt.v r 0 r.length:=by
 obtain⟨r,c,g,hr,hp,hc,hn,hd,hb⟩:=Ai7 K _ 0 l rfl (by omega) hl (AsZ _) (λp _ h2=>by omega);obtain⟨r2,g2,hr2,hp2,ho2,hsm⟩:=Yg K (a:=c) (b:=r.length) (l:=r) (by omega) (φ _) (by omega);have ht:TlS 20 0 r2:=Ts (by omega) hd (by omega) (λp h1 h2=>(hb p h1 h2).same hsm (.inl (by omega))) (by rw[hr2];exact ho2);obtain⟨r3,g3,hr3,hp3,ho3⟩:=Ai8 K M _ 20 r2 rfl (by omega) (by omega) (by omega) ht;rw[hr]at g2 hr2;rw[hr2]at g3 hr3;refine⟨r3,?_,hr3,hp3.trans (hp2.trans hp),ho3⟩;refine K.fn' F8 _ rfl ((AmZ ..).trans ?_);refine Aa g ?_;simp only[EO,ND,DK,Ab];refine Aa g2 ?_;simp only[EO,ND,DK,Ab];refine Aa g3 ?_;rfl
theorem AeI(M:Lx D){l:List Pt}(hl:l.length<=1000000000) :
  ∃ r:List Pt,D.ask (.fn 136) [.sl 0 0 l.length 3,EO] [Ξ (Ai eP l) true true]=some (.tup [],[.set (Ξ (Ai eP r) true true)])
   ∧ r.length=l.length/\r.Perm l/\Srt Pt.v r 0 r.length:=by
 obtain⟨r,g,h⟩:=Wc K M hl;refine⟨r,?_,h⟩;refine K.fn' AfM _ rfl ((Amw ..).trans ?_);refine Aa g ?_;rfl
end
section
variable {α:Type} (key:α->Int)
structure Rot (l r:List α) (a m b:Nat):Prop where
 out:∀ p,p<a\/b<=p->r[p]? = l[p]?
 low:∀ p,a<=p->p<a+(b-m)->r[p]? = l[p+(m-a)]?
 high:∀ p,a+(b-m)<=p->p<b->r[p]? = l[p-(b-m)]?
structure SwR (l r:List α) (a b n:Nat):Prop where
 out:∀ p,p<a\/(a+n<=p/\p<b)\/b+n<=p->r[p]? = l[p]?
 low:∀ p,a<=p->p<a+n->r[p]? = l[p+(b-a)]?
 high:∀ p,b<=p->p<b+n->r[p]? = l[p-(b-a)]?
theorem Ci{l:List α}{i j:Nat}(h:i=j):l[i]? = l[j]?:=by rw[h]
theorem Ze{c d r:List α}{i j m:Nat}(h0:i<=m)(h:j<i)(s:SwR c d (m-i) m j)(t:Rot d r (m-(i-j)) m (m+j)):Rot c r (m-i) m (m+j):=by
 refine⟨λp hp=>?_,λp h1 h2=>?_,λp h1 h2=>?_⟩
 .rw[t.out p (by omega),s.out p (by omega)]
 .rw[t.out p (by omega),s.low p (by omega) (by omega)]
 .by_cases h3:p<m-(i-j)+j
  .rw[t.low p (by omega) (by omega),s.high _ (by omega) (by omega)]
   exact Ci (by omega)
  .rw[t.high p (by omega) (by omega),s.out _ (by omega)]
theorem VQ{c d r:List α}{i j m:Nat}(h0:i<=m)(h:i<j)(s:SwR c d (m-i) (m+j-i) i)(t:Rot d r (m-i) m (m+(j-i))):Rot c r (m-i) m (m+j):=by
 refine⟨λp hp=>?_,λp h1 h2=>?_,λp h1 h2=>?_⟩
 .rw[t.out p (by omega),s.out p (by omega)]
 .by_cases h3:p<m-i+(j-i)
  .rw[t.low p (by omega) (by omega),s.out _ (by omega)]
  .rw[t.high p (by omega) (by omega),s.low _ (by omega) (by omega)]
   exact Ci (by omega)
 .rw[t.out p (by omega),s.high p (by omega) (by omega)]
  exact Ci (by omega)
theorem Zg{c r:List α}{i m:Nat}(h0:i<=m)(s:SwR c r (m-i) m i):Rot c r (m-i) m (m+i):=by
 refine⟨λp hp=>?_,λp h1 h2=>?_,λp h1 h2=>?_⟩
 .rw[s.out p (by omega)]
 .rw[s.low p (by omega) (by omega)]
 .rw[s.high p (by omega) (by omega)]
  exact Ci (by omega)
theorem Fw{l:List α}{a m b:Nat}(h:a=m\/m=b)(ha:a<=m)(hb:m<=b):Rot l l a m b:=by
 refine⟨λp hp=>rfl,λp h1 h2=>Ci (by omega),λp h1 h2=>Ci (by omega)⟩
theorem ZA{l r:List α}{a b n:Nat}(hab:a+n<b)(hb:b+n<l.length)(s:SwR l r a b n)(hr:r.length=l.length):SwR l (CU r (a+n) (b+n)) a b (n+1):=by
 have ha:a+n<r.length:=by omega
 have hb2:b+n<r.length:=by omega
 have e1:∀ p,(CU r (a+n) (b+n))[p]? = if p=a+n then r[b+n]? else if p=b+n then r[a+n]? else r[p]?:=λp=>by
  rw[DO ha hb2]
  by_cases h1:p=b+n
  .subst h1
   rw[if_neg (by omega),if_pos rfl,Aqs (by simpa using hb2),Ψ ha]
  .rw[Aqe (λe=>h1 e.symm)]
   by_cases h2:p=a+n
   .subst h2
    rw[if_pos rfl,Aqs ha,Ψ hb2]
   .rw[if_neg h2,if_neg h1,Aqe (λe=>h2 e.symm)]
 refine⟨λp hp=>?_,λp h1 h2=>?_,λp h1 h2=>?_⟩
 .rw[e1,if_neg (by omega),if_neg (by omega),s.out p (by omega)]
 .rw[e1]
  by_cases h:p=a+n
  .rw[if_pos h,s.out _ (by omega)]
   exact Ci (by omega)
  .rw[if_neg h,if_neg (by omega),s.low p h1 (by omega)]
 .rw[e1]
  by_cases h:p=b+n
  .rw[if_neg (by omega),if_pos h,s.out _ (by omega)]
   exact Ci (by omega)
  .rw[if_neg (by omega),if_neg h,s.high p h1 (by omega)]
theorem ZB(l:List α)(a b:Nat):SwR l l a b 0:=⟨λ_ _=>rfl,λ_ h1 h2=>by omega,λ_ h1 h2=>by omega⟩
theorem GB{l r:List α}{p q:Nat}(h:r[p]? = l[q]?):kf key r p=kf key l q:=by
 unfold kf;rw[h]
theorem Rot.kout{l r:List α}{a m b p:Nat}(h:Rot l r a m b)(hp:p<a\/b<=p):kf key r p=kf key l p:=GB key (h.out p hp)
theorem Rot.klow{l r:List α}{a m b p:Nat}(h:Rot l r a m b)(h1:a<=p)(h2:p<a+(b-m)):kf key r p=kf key l (p+(m-a)):=GB key (h.low p h1 h2)
theorem Rot.khigh{l r:List α}{a m b p:Nat}(h:Rot l r a m b)(h1:a+(b-m)<=p)(h2:p<b):kf key r p=kf key l (p-(b-m)):=GB key (h.high p h1 h2)
theorem Q6{l r:List α}{a b i:Nat}(hi:a+1<=i)(hib:i<=b)(hs:Srt key l (a+1) b)(h1:∀ p,a+1<=p->p<i->kf key l p<kf key l a)(h2:∀ p,i<=p->p<b->kf key l a<=kf key l p)(t:Rot l r a (a+1) i):Srt key r a b:=by
 intro p q hp hpq hq
 by_cases q1:q<i-1
 .rw[t.klow key (by omega) (by omega),t.klow key (by omega) (by omega)]
  exact hs _ _ (by omega) (by omega) (by omega)
 .by_cases q2:q=i-1
  .rw[t.klow key (by omega) (by omega),t.khigh key (by omega) (by omega),show q-(i-(a+1))=a by omega]
   have:=h1 (p+(a+1-a)) (by omega) (by omega);omega
  .rw[t.kout key (p:=q) (by omega)]
   by_cases p1:p<i-1
   .rw[t.klow key (by omega) (by omega)]
    exact hs _ _ (by omega) (by omega) (by omega)
   .by_cases p2:p=i-1
    .rw[t.khigh key (by omega) (by omega),show p-(i-(a+1))=a by omega]
     exact h2 q (by omega) hq
    .rw[t.kout key (by omega)]
     exact hs _ _ (by omega) (by omega) (by omega)
theorem SZ{l r:List α}{a m i:Nat}(hi:a<=i)(him:i<=m)(hs:Srt key l a m)(h1:∀ p,a<=p->p<i->kf key l p<=kf key l m)(h2:∀ p,i<=p->p<m->kf key l m<kf key l p)(t:Rot l r i m (m+1)):Srt key r a (m+1):=by
 intro p q hp hpq hq
 by_cases p1:p<i
 .rw[t.kout key (p:=p) (by omega)]
  by_cases q1:q<i
  .rw[t.kout key (by omega)]
   exact hs _ _ (by omega) (by omega) (by omega)
  .by_cases q2:q=i
   .rw[t.klow key (by omega) (by omega),show q+(m-i)=m by omega]
    exact h1 p hp p1
   .rw[t.khigh key (by omega) (by omega)]
    exact hs _ _ (by omega) (by omega) (by omega)
 .rw[t.khigh key (p:=q) (by omega) (by omega)]
  by_cases p2:p=i
  .rw[t.klow key (by omega) (by omega),show p+(m-i)=m by omega]
   have:=h2 (q-(m+1-m)) (by omega) (by omega);omega
  .rw[t.khigh key (by omega) (by omega)]
   exact hs _ _ (by omega) (by omega) (by omega)
def Low(l:List α)(a m b:Nat):Prop:=∀ p q,a<=p->p<m->m<=q->q<b->kf key l p<=kf key l q
theorem AeJ{l:List α}{a m b:Nat}(h1:Srt key l a m)(h2:Srt key l m b)(h3:Low key l a m b):Srt key l a b:=by
 intro p q hp hpq hq
 by_cases c:q<m
 .exact h1 p q hp hpq c
 .by_cases d:p<m
  .exact h3 p q hp d (by omega) hq
  .exact h2 p q (by omega) hpq hq
structure CutAt (l:List α) (a m b mid s e:Nat):Prop where
 asl:a<=s
 sm:s<=m
 me:m<=e
 eb:e<=b
 mid:s+(e-m)=mid
 up:∀ p q,a<=p->p<s->e<=q->q<b->kf key l p<=kf key l q
 dn:∀ p q,m<=p->p<e->s<=q->q<m->kf key l p<=kf key l q
theorem Et{l r:List α}{a m b mid s e:Nat}(c:CutAt key l a m b mid s e)(h1:Srt key l a m)(h2:Srt key l m b)(t:Rot l r s m e) :
  Srt key r a s/\Srt key r s mid/\Srt key r mid e/\Srt key r e b/\Low key r a mid b:=by
 have:=c.asl;have:=c.sm;have:=c.me;have:=c.eb;have:=c.mid;refine⟨λp q x y z=>?_,λp q x y z=>?_,λp q x y z=>?_,λp q x y z=>?_,λp q x y z w=>?_⟩
 .rw[t.kout key (by omega),t.kout key (by omega)]
  exact h1 _ _ (by omega) (by omega) (by omega)
 .rw[t.klow key (by omega) (by omega),t.klow key (by omega) (by omega)]
  exact h2 _ _ (by omega) (by omega) (by omega)
 .rw[t.khigh key (by omega) (by omega),t.khigh key (by omega) (by omega)]
  exact h1 _ _ (by omega) (by omega) (by omega)
 .rw[t.kout key (by omega),t.kout key (by omega)]
  exact h2 _ _ (by omega) (by omega) (by omega)
 .by_cases p1:p<s
  .rw[t.kout key (p:=p) (by omega)]
   by_cases q1:q<e
   .rw[t.khigh key (by omega) (by omega)]
    exact h1 _ _ (by omega) (by omega) (by omega)
   .rw[t.kout key (by omega)]
    exact c.up _ _ (by omega) (by omega) (by omega) (by omega)
  .rw[t.klow key (p:=p) (by omega) (by omega)]
   by_cases q1:q<e
   .rw[t.khigh key (by omega) (by omega)]
    exact c.dn _ _ (by omega) (by omega) (by omega) (by omega)
   .rw[t.kout key (by omega)]
    exact h2 _ _ (by omega) (by omega) (by omega)
theorem Up{l r:List α}{a b:Nat}(hp:r.Perm l)(hs:Same0 l r a b){p:Nat}(h1:a<=p)(h2:p<b)(hb:b<=l.length):∃ q,a<=q/\q<b/\r[p]? = l[q]?:=by
 have hlen:=hp.length_eq;have ht:r.take a=l.take a:=by
  apply Asq;intro i;rw[ApN,ApN];split
  .exact hs i (by omega)
  .rfl
 have hd:r.drop b=l.drop b:=by
  apply Asq;intro i;rw[Ap3,Ap3];exact hs _ (by omega)
 have er:∀ x:List α,b<=x.length->x=x.take a++((x.drop a).take (b-a)++x.drop b):=λx hx=>by
  have e1:=(Ap5 a x).symm;have e2:=(Ap5 (b-a) (x.drop a)).symm;rw[List.drop_drop,show a+(b-a)=b by omega]at e2;rw[←e2];exact e1
 have hp2:(r.take a++((r.drop a).take (b-a)++r.drop b)).Perm (l.take a++((l.drop a).take (b-a)++l.drop b)):=by
  rw[←er r (by omega),←er l hb];exact hp
 rw[ht,hd]at hp2;have hp3:=(List.perm_append_right_iff _).1 ((List.perm_append_left_iff _).1 hp2);have hpr:p<r.length:=by omega
 have hm:r[p]∈(r.drop a).take (b-a):=by
  rw[Ar9];refine⟨p-a,?_⟩;rw[ApN,if_pos (by omega),Ap3,show a+(p-a)=p by omega,Ψ hpr]
 have hm2:=hp3.mem_iff.1 hm;rw[Ar9]at hm2;obtain⟨i,hi⟩:=hm2;rw[ApN]at hi;split at hi
 .rename_i hib
  rw[Ap3]at hi;exact⟨a+i,by omega,by omega,by rw[hi,Ψ hpr]⟩
 .cases hi
theorem Yx{l r:List α}{a m b:Nat}(h:Low key l a m b)(hp:r.Perm l)(hs:Same0 l r a m)(hb:m<=l.length):Low key r a m b:=by
 intro p q x y z w;obtain⟨p2,h1,h2,h3⟩:=Up hp hs x y hb;rw[GB key h3,hs.kf key (by omega)];exact h p2 q h1 h2 z w
theorem Vx{l r:List α}{a m b:Nat}(h:Low key l a m b)(hp:r.Perm l)(hs:Same0 l r m b)(hb:b<=l.length):Low key r a m b:=by
 intro p q x y z w;obtain⟨q2,h1,h2,h3⟩:=Up hp hs z w hb;rw[GB key h3,hs.kf key (by omega)];exact h p q2 x y h1 h2
theorem Srt.same'{l r:List α}{a b p q:Nat}(h:Srt key l p q)(hs:Same0 l r a b)(hd:q<=a\/b<=p):Srt key r p q:=by
 intro x y h1 h2 h3;rw[hs.kf key (by omega),hs.kf key (by omega)];exact h x y h1 h2 h3
theorem I8{l:List α}{a s m:Nat}(h:s=a\/s=m)(h1:Srt key l a s)(h2:Srt key l s m):Srt key l a m:=by
 rcases h with rfl|rfl
 .exact h2
 .exact h1
structure Bs (l:List α) (n x y s r:Nat):Prop where
 xs:x<=s
 sr:s<=r
 ry:r<=y
 lo:∀ c,x<=c->c<s->kf key l c<=kf key l (n-1-c)
 hi:∀ c,r<=c->c<y->kf key l (n-1-c)<kf key l c
section
variable {l:List α} {n x y s r a m b:Nat}
theorem Bs.up(B:Bs key l n x y s r)(h1:Srt key l a m)(h2:Srt key l m b)(hx:a<=x)(hy:y<=m)(hn:n<=x+b)(hm:m+y<=n){c:Nat}(hc:s<=c)(hr:c<r)(h:kf key l c<=kf key l (n-1-c)):Bs key l n x y (c+1) r:=by
 have:=B.xs;have:=B.sr;have:=B.ry;refine⟨by omega,by omega,B.ry,λd hd1 hd2=>?_,B.hi⟩
 by_cases hdc:d=c
 .rw[hdc];exact h
 .have e1:=h1 d c (by omega) (by omega) (by omega)
  have e2:=h2 (n-1-c) (n-1-d) (by omega) (by omega) (by omega);omega
theorem Bs.dn(B:Bs key l n x y s r)(h1:Srt key l a m)(h2:Srt key l m b)(hx:a<=x)(hy:y<=m)(hn:n<=x+b)(hm:m+y<=n){c:Nat}(hc:s<=c)(hr:c<r)(h:kf key l (n-1-c)<kf key l c):Bs key l n x y s c:=by
 have:=B.xs;have:=B.sr;have:=B.ry;refine⟨B.xs,hc,by omega,B.lo,λd hd1 hd2=>?_⟩
 by_cases hdc:d=c
 .rw[hdc];exact h
 .have e1:=h1 c d (by omega) (by omega) (by omega)
  have e2:=h2 (n-1-d) (n-1-c) (by omega) (by omega) (by omega);omega
theorem Bs.cut{mid:Nat}(B:Bs key l (mid+m) x y s s)(h1:Srt key l a m)(h2:Srt key l m b)(hx:a<=x)(hy:y<=m)(hn:mid+m<=x+b)(hm:y<=mid)(cx:x=a\/mid+m=x+b)(cy:y=m\/y=mid):CutAt key l a m b mid s (mid+m-s):=by
 have:=B.xs;have:=B.ry;refine⟨by omega,by omega,by omega,by omega,by omega,λp q c1 c2 c3 c4=>?_,λp q c1 c2 c3 c4=>?_⟩
 .have hs:x<s:=by omega
  have e:=B.lo (s-1) (by omega) (by omega);rw[show mid+m-1-(s-1)=mid+m-s by omega]at e;have e1:kf key l p<=kf key l (s-1):=by
   by_cases h:p=s-1
   .rw[h];exact ArJ _
   .exact h1 _ _ (by omega) (by omega) (by omega)
  have e2:kf key l (mid+m-s)<=kf key l q:=by
   by_cases h:q=mid+m-s
   .rw[h];exact ArJ _
   .exact h2 _ _ (by omega) (by omega) (by omega)
  omega
 .have hs:s<y:=by omega
  have e:=B.hi s (by omega) (by omega);have e1:kf key l p<=kf key l (mid+m-1-s):=by
   by_cases h:p=mid+m-1-s
   .rw[h];exact ArJ _
   .exact h2 _ _ (by omega) (by omega) (by omega)
  have e2:kf key l s<=kf key l q:=by
   by_cases h:q=s
   .rw[h];exact ArJ _
   .exact h1 _ _ (by omega) (by omega) (by omega)
  omega
end
theorem Ai1{l r:List α}{a k:Nat}(h:a<=k)(hk:k+1<l.length)(hr:r.length=l.length)(t:Rot l r a (a+1) (k+1)):Rot l (CU r k (k+1)) a (a+1) (k+2):=by
 have e1:∀ p,(CU r k (k+1))[p]? = if p=k then r[k+1]? else if p=k+1 then r[k]? else r[p]?:=λp=>by
  rw[DO (by omega) (by omega)]
  by_cases h1:p=k+1
  .subst h1
   rw[if_neg (by omega),if_pos rfl,Aqs (by rw[Apl];omega),Ψ (by omega)]
  .rw[Aqe (λe=>h1 e.symm)]
   by_cases h2:p=k
   .subst h2
    rw[if_pos rfl,Aqs (by omega),Ψ (by omega)]
   .rw[if_neg h2,if_neg h1,Aqe (λe=>h2 e.symm)]
 refine⟨λp hp=>?_,λp h1 h2=>?_,λp h1 h2=>?_⟩
 .rw[e1,if_neg (by omega),if_neg (by omega),t.out p (by omega)]
 .rw[e1]
  by_cases h:p=k
  .rw[if_pos h,t.out _ (by omega)]
   exact Ci (by omega)
  .rw[if_neg h,if_neg (by omega),t.low p h1 (by omega)]
 .rw[e1,if_neg (by omega),if_pos (by omega),t.high k (by omega) (by omega)]
  exact Ci (by omega)
theorem Zd{l r:List α}{m k:Nat}(h:k<m)(hk:m<l.length)(hr:r.length=l.length)(t:Rot l r (k+1) m (m+1)):Rot l (CU r (k+1) k) k m (m+1):=by
 have e1:∀ p,(CU r (k+1) k)[p]? = if p=k then r[k+1]? else if p=k+1 then r[k]? else r[p]?:=λp=>by
  rw[DO (by omega) (by omega)]
  by_cases h1:p=k
  .subst h1
   rw[if_pos rfl,Aqs (by rw[Apl];omega),Ψ (by omega)]
  .rw[if_neg h1,Aqe (λe=>h1 e.symm)]
   by_cases h2:p=k+1
   .subst h2
    rw[if_pos rfl,Aqs (by omega),Ψ (by omega)]
   .rw[if_neg h2,Aqe (λe=>h2 e.symm)]
 refine⟨λp hp=>?_,λp h1 h2=>?_,λp h1 h2=>?_⟩
 .rw[e1,if_neg (by omega),if_neg (by omega),t.out p (by omega)]
 .rw[e1,if_pos (by omega),t.low (k+1) (by omega) (by omega)]
  exact Ci (by omega)
 .rw[e1,if_neg (by omega)]
  by_cases h:p=k+1
  .rw[if_pos h,t.out _ (by omega)]
   exact Ci (by omega)
  .rw[if_neg h,t.high p (by omega) (by omega)]
end
theorem De{a b:Nat}(h:a+b<4611686018427387904):Ag.conv .i64 (Ag.shr .u64 (Ag.conv .u64 (Ag.add .i64 (a:Int) (b:Int))) 1)=(((a+b) / 2:Nat):Int):=by
 rw[Ef (by omega) (by omega),show (a:Int)+(b:Int)=((a+b:Nat):Int) by omega,Bj (by omega)];have:Ag.shr .u64 ((a+b:Nat):Int) 1=(((a+b) / 2:Nat):Int):=by
  show Int.fdiv ((a+b:Nat):Int) (2 ^ 1)=_
  have:(2 ^ 1:Int)=((2:Nat):Int):=by decide
  rw[this,Int.fdiv_eq_ediv_of_nonneg _ (by omega)];rfl
 rw[this]
 show IntKind.i64.wrap (((a+b) / 2:Nat):Int)=_
 rw[IntKind.wrap_i64];omega
theorem Ix{a b:Nat}(h:a+b<4611686018427387904):Ag.add .i64 (a:Int) (b:Int)=((a+b:Nat):Int):=by
 rw[Ef (by omega) (by omega)];omega
theorem Cf{a b:Nat}(hb:b<=a)(h:a<4611686018427387904):Ag.sub .i64 (a:Int) (b:Int)=((a-b:Nat):Int):=by
 rw[C4 (by omega) (by omega)];omega
theorem GR{a:Nat}(hb:1<=a)(h:a<4611686018427387904):Ag.sub .i64 (a:Int) 1=((a-1:Nat):Int):=by
 rw[C4 (by omega) (by omega)];omega
abbrev D8(l:List Pt):ABlk:=Ξ (Ai eP l) true true
section
variable {D:Orc} (K:Knows As Eh D)
include K
theorem Ajb(a b n:Nat)(l0:List Pt):∀(m i:Nat) (l:List Pt),n-i=m->i<=n->a+n<=b->b+n<=l.length->l.length<=1000000000->l.length=l0.length->SwR l0 l a b i->
  ∃ r:List Pt,D.ask (.lp 275 0) [.sl 0 0 l.length 3,iv (a:Int),iv (b:Int),iv (n:Int),iv (i:Int)] [D8 l]=some (.tup [iv 0,.sl 0 0 l.length 3],[.set (D8 r)])
   ∧ r.length=l.length/\r.Perm l/\SwR l0 r a b n:=by
 intro m
 induction m with
 |zero=>
  intro i l hm hi ha hb hl h0 hs;obtain rfl:i=n:=by omega
  refine⟨l,?_,rfl,List.Perm.refl _,hs⟩;refine K.lp' QP _ rfl (by kernel_rfl) ((Xz ..).trans ?_);exact Ak (by omega) rfl
 |succ m ih=>
  intro i l hm hi ha hb hl h0 hs;have hI:a+i<l.length:=by omega
  have hJ:b+i<l.length:=by omega
  have hlen:=Hi l (a+i) (b+i);obtain⟨r,g,hr,hp,ho⟩:=ih (i+1) (CU l (a+i) (b+i)) (by omega) (by omega) ha (by omega) (by omega) (by omega) (ZA (by omega) (by omega) hs h0);rw[hlen]at g hr;refine⟨r,?_,hr,hp.trans (FY _ _ _),ho⟩;refine K.lp' QP _ rfl (by kernel_rfl) ((Xz ..).trans ?_);refine Aq (by omega) ?_;rw[Ix (a:=b) (b:=i) (by omega),Ix (a:=a) (b:=i) (by omega),BC (by omega)];rw[Av,A0 hJ];refine Ae ?_;refine(Bx Au l (b+i) hJ _).trans ?_;simp only[eP,eN,ND,DK,Ab];rw[Av,A0 hI];refine Ae ?_;refine(Bx Au l (a+i) hI _).trans ?_;simp only[eP,eN,ND,DK,Ab];have s1:=CC Au l (a+i) hI l[(b+i)];have s2:=CC Au (l.set (a+i) l[(b+i)]) (b+i) (by rw[Apl];exact hJ) l[(a+i)];rw[←DO hI hJ]at s2;simp only[eP,eN]at s1 s2;rw[Av,A0 hI];refine Ae ?_;rw[show Apa (0+(a+i)*3+3) (Ai eP l).length=true by rw[AT Au];simp;omega];refine Ae ?_;rw[Av,A0 hJ];refine Ae ?_;rw[s1,s2];rw[show Apa (0+(b+i)*3+3) (Ai eP (l.set (a+i) l[(b+i)])).length=true by rw[AT Au,Apl];simp;omega];refine Ae ?_;refine Aa g ?_;rfl
theorem Tr{a b n:Nat}{l:List Pt}(ha:a+n<=b)(hb:b+n<=l.length)(hl:l.length<=1000000000) :
  ∃ r:List Pt,D.ask (.fn 275) [.sl 0 0 l.length 3,iv (a:Int),iv (b:Int),iv (n:Int),EO] [D8 l]=some (.tup [],[.set (D8 r)])
   ∧ r.length=l.length/\r.Perm l/\SwR l r a b n:=by
 obtain⟨r,g,h⟩:=Ajb K a b n l _ 0 l rfl (by omega) ha hb hl rfl (ZB l a b);refine⟨r,?_,h⟩;refine K.fn' QP _ rfl ((Anj ..).trans ?_);refine Aa g ?_;rfl
theorem Ai0(m:Nat):∀(s i j:Nat) (l:List Pt),i+j=s->0<i->0<j->i<=m->m+j<=l.length->l.length<=1000000000->
  ∃(r:List Pt) (d:Nat),D.ask (.lp 265 0) [.sl 0 0 l.length 3,iv (m:Int),EO,iv (i:Int),iv (j:Int)] [D8 l]=some (.tup [iv 0,.sl 0 0 l.length 3,iv (m:Int),EO,iv (d:Int)],[.set (D8 r)])
   ∧ r.length=l.length/\r.Perm l/\d<=m/\m+d<=l.length/\∀ r2:List Pt,SwR r r2 (m-d) m d->Rot l r2 (m-i) m (m+j):=by
 intro s
 induction s using Aqv with
 |_ s ih=>
  intro i j l hs hi hj him hl hn
  by_cases he:i=j
  .subst he
   refine⟨l,i,?_,rfl,List.Perm.refl _,him,hl,λr2 h=>Zg him h⟩;refine K.lp' N2 _ rfl (by kernel_rfl) ((Sx ..).trans ?_);exact Bi rfl rfl
  by_cases hlt:j<i
  .obtain⟨r,g,hr,hp,hsw⟩:=Tr K (a:=m-i) (b:=m) (n:=j) (l:=l) (by omega) hl hn
   obtain⟨r2,d,g2,hr2,hp2,hd1,hd2,hd3⟩:=ih (i-j+j) (by omega) (i-j) j r rfl (by omega) hj (by omega) (by omega) (by omega);rw[hr]at g2 hr2 hd2;refine⟨r2,d,?_,hr2,hp2.trans hp,hd1,hd2,λr3 h=>Ze him hlt hsw (hd3 r3 h)⟩;refine K.lp' N2 _ rfl (by kernel_rfl) ((Sx ..).trans ?_);refine AK (by omega) ?_;refine Aq (by omega) ?_;rw[Cf him (by omega),Cf (a:=i) (b:=j) (by omega) (by omega)];refine Aa g ?_;simp only[EO,ND,DK,Ab];refine Aa g2 ?_;rfl
  .obtain⟨r,g,hr,hp,hsw⟩:=Tr K (a:=m-i) (b:=m+j-i) (n:=i) (l:=l) (by omega) (by omega) hn
   obtain⟨r2,d,g2,hr2,hp2,hd1,hd2,hd3⟩:=ih (i+(j-i)) (by omega) i (j-i) r rfl hi (by omega) him (by omega) (by omega);rw[hr]at g2 hr2 hd2;refine⟨r2,d,?_,hr2,hp2.trans hp,hd1,hd2,λr3 h=>VQ him (by omega) hsw (hd3 r3 h)⟩;refine K.lp' N2 _ rfl (by kernel_rfl) ((Sx ..).trans ?_);refine AK (by omega) ?_;refine Ak (by omega) ?_;rw[Cf him (by omega),Ix (a:=m) (b:=j) (by omega),Cf (a:=m+j) (b:=i) (by omega) (by omega),Cf (a:=j) (b:=i) (by omega) (by omega)];refine Aa g ?_;simp only[EO,ND,DK,Ab];refine Aa g2 ?_;rfl
theorem Zf{a m b:Nat}{l:List Pt}(ha:a<m)(hm:m<b)(hb:b<=l.length)(hl:l.length<=1000000000) :
  ∃ r:List Pt,D.ask (.fn 265) [.sl 0 0 l.length 3,iv (a:Int),iv (m:Int),iv (b:Int),EO] [D8 l]=some (.tup [],[.set (D8 r)])
   ∧ r.length=l.length/\r.Perm l/\Rot l r a m b:=by
 obtain⟨r,d,g,hr,hp,hd1,hd2,hd3⟩:=Ai0 K m _ (m-a) (b-m) l rfl (by omega) (by omega) (by omega) (by omega) hl;obtain⟨r2,g2,hr2,hp2,hsw⟩:=Tr K (a:=m-d) (b:=m) (n:=d) (l:=r) (by omega) (by omega) (by omega);have h:=hd3 r2 hsw;rw[show m-(m-a)=a by omega,show m+(b-m)=b by omega]at h;rw[hr]at g2;refine⟨r2,?_,by omega,hp2.trans hp,h⟩;refine K.fn' N2 _ rfl ((Ani ..).trans ?_);rw[Cf (a:=m) (b:=a) (by omega) (by omega),Cf (a:=b) (b:=m) (by omega) (by omega)];refine Aa g ?_;simp only[EO,ND,DK,Ab];rw[Cf hd1 (by omega)];refine Aa g2 ?_;rfl
theorem AeR(a m b:Nat)(l:List Pt)(hl:l.length<=1000000000)(ha:a<m)(hb:b<=l.length)(hs:Srt Pt.v l m b):∀(k i j:Nat),j-i=k->m<=i->i<=j->j<=b->(∀ p,m<=p->p<i->kf Pt.v l p<kf Pt.v l a)->(∀ p,j<=p->p<b->kf Pt.v l a<=kf Pt.v l p)->
  ∃ x:Nat,D.ask (.lp 235 0) [.sl 0 0 l.length 3,iv (a:Int),EO,iv (i:Int),iv (j:Int)] [D8 l]=some (.tup [iv 0,.sl 0 0 l.length 3,iv (a:Int),iv (x:Int)],[.set (D8 l)])
   ∧ m<=x/\x<=b/\(∀ p,m<=p->p<x->kf Pt.v l p<kf Pt.v l a)/\(∀ p,x<=p->p<b->kf Pt.v l a<=kf Pt.v l p):=by
 intro k
 induction k using Aqv with
 |_ k ih=>
  intro i j hk hmi hij hjb h1 h2
  by_cases he:i<j
  .have hH:(i+j) / 2<l.length:=by omega
   have hA:a<l.length:=by omega
   have kh:kf Pt.v l ((i+j) / 2)=l[(i+j) / 2].v:=Fe Pt.v hH;have ka:kf Pt.v l a=l[a].v:=Fe Pt.v hA
   by_cases hlt:l[(i+j) / 2].v<l[a].v
   .obtain⟨x,g,hx⟩:=ih (j-((i+j) / 2+1)) (by omega) ((i+j) / 2+1) j rfl (by omega) (by omega) hjb (λp p1 p2=>by
     by_cases hp:p=(i+j) / 2
     .rw[hp,kh,ka];exact hlt
     .have:=hs p ((i+j) / 2) p1 (by omega) (by omega)
      omega) h2
    refine⟨x,?_,hx⟩;refine K.lp' Cq _ rfl (by kernel_rfl) ((Su ..).trans ?_);refine Aq (by omega) ?_;refine Ak (by decide) ?_;rw[De (by omega),BC (by omega)];rw[Av,A0 hH];refine Ae ?_;refine(Bx Au l ((i+j) / 2) hH _).trans ?_;simp only[eP,eN,ND,DK,Ab];rw[Av,A0 hA];refine Ae ?_;refine(Bx Au l a hA _).trans ?_;simp only[eP,eN,ND,DK,Ab];refine Aa (Gq K l[(i+j) / 2] l[a]) ?_;simp only[ND,DK,Ab];refine Aq (ET.2 hlt) ?_;refine Aa g ?_;rfl
   .obtain⟨x,g,hx⟩:=ih ((i+j) / 2-i) (by omega) i ((i+j) / 2) rfl hmi (by omega) (by omega) h1 (λp p1 p2=>by
     by_cases hp:p=(i+j) / 2
     .rw[hp];omega
     .have:=hs ((i+j) / 2) p (by omega) (by omega) (by omega)
      omega)
    refine⟨x,?_,hx⟩;refine K.lp' Cq _ rfl (by kernel_rfl) ((Su ..).trans ?_);refine Aq (by omega) ?_;refine Ak (by decide) ?_;rw[De (by omega)];rw[Av,A0 hH];refine Ae ?_;refine(Bx Au l ((i+j) / 2) hH _).trans ?_;simp only[eP,eN,ND,DK,Ab];rw[Av,A0 hA];refine Ae ?_;refine(Bx Au l a hA _).trans ?_;simp only[eP,eN,ND,DK,Ab];refine Aa (Gq K l[(i+j) / 2] l[a]) ?_;simp only[ND,DK,Ab];refine Ak (λh=>hlt (ET.1 h)) ?_;refine Aa g ?_;rfl
  .obtain rfl:i=j:=by omega
   refine⟨i,?_,hmi,hjb,h1,h2⟩;refine K.lp' Cq _ rfl (by kernel_rfl) ((Su ..).trans ?_);exact Ak (by omega) rfl
theorem AeS(a x:Nat)(l0:List Pt):∀(n k:Nat) (l:List Pt),x-1-k=n->a<=k->k<x->x<=l.length->l.length<=1000000000->l.length=l0.length->Rot l0 l a (a+1) (k+1)->
  ∃ r:List Pt,D.ask (.lp 235 1) [.sl 0 0 l.length 3,iv (x:Int),iv (k:Int)] [D8 l]=some (.tup [iv 2,.sl 0 0 l.length 3],[.set (D8 r)])
   ∧ r.length=l.length/\r.Perm l/\Rot l0 r a (a+1) x:=by
 intro n
 induction n with
 |zero=>
  intro k l hn ha hk hx hl h0 ht;obtain rfl:x=k+1:=by omega
  refine⟨l,?_,rfl,List.Perm.refl _,ht⟩;refine K.lp' Cq _ rfl (by kernel_rfl) ((Xv ..).trans ?_);rw[GR (by omega) (by omega)];exact Ak (by omega) rfl
 |succ n ih=>
  intro k l hn ha hk hx hl h0 ht;have hI:k<l.length:=by omega
  have hJ:k+1<l.length:=by omega
  have hlen:=Hi l k (k+1);obtain⟨r,g,hr,hp,ho⟩:=ih (k+1) (CU l k (k+1)) (by omega) (by omega) (by omega) (by omega) (by omega) (by omega) (Ai1 ha (by omega) h0 ht);rw[hlen]at g hr;refine⟨r,?_,hr,hp.trans (FY _ _ _),ho⟩;refine K.lp' Cq _ rfl (by kernel_rfl) ((Xv ..).trans ?_);rw[GR (by omega) (by omega)];refine Aq (by omega) ?_;rw[BC (by omega)];rw[Av,A0 hJ];refine Ae ?_;refine(Bx Au l (k+1) hJ _).trans ?_;simp only[eP,eN,ND,DK,Ab];rw[Av,A0 hI];refine Ae ?_;refine(Bx Au l k hI _).trans ?_;simp only[eP,eN,ND,DK,Ab];have s1:=CC Au l k hI l[(k+1)];have s2:=CC Au (l.set k l[(k+1)]) (k+1) (by rw[Apl];exact hJ) l[k];rw[←DO hI hJ]at s2;simp only[eP,eN]at s1 s2;rw[Av,A0 hI];refine Ae ?_;rw[show Apa (0+k*3+3) (Ai eP l).length=true by rw[AT Au];simp;omega];refine Ae ?_;rw[Av,A0 hJ];refine Ae ?_;rw[s1,s2];rw[show Apa (0+(k+1)*3+3) (Ai eP (l.set k l[(k+1)])).length=true by rw[AT Au,Apl];simp;omega];refine Ae ?_;refine Aa g ?_;rfl
theorem AeT(a m:Nat)(l:List Pt)(hl:l.length<=1000000000)(hb:m<l.length)(hs:Srt Pt.v l a m):∀(k i j:Nat),j-i=k->a<=i->i<=j->j<=m->(∀ p,a<=p->p<i->kf Pt.v l p<=kf Pt.v l m)->(∀ p,j<=p->p<m->kf Pt.v l m<kf Pt.v l p)->
  ∃ x:Nat,D.ask (.lp 235 2) [.sl 0 0 l.length 3,iv (m:Int),EO,iv (i:Int),iv (j:Int)] [D8 l]=some (.tup [iv 4,.sl 0 0 l.length 3,iv (m:Int),iv (x:Int)],[.set (D8 l)])
   ∧ a<=x/\x<=m/\(∀ p,a<=p->p<x->kf Pt.v l p<=kf Pt.v l m)/\(∀ p,x<=p->p<m->kf Pt.v l m<kf Pt.v l p):=by
 intro k
 induction k using Aqv with
 |_ k ih=>
  intro i j hk hmi hij hjb h1 h2
  by_cases he:i<j
  .have hH:(i+j) / 2<l.length:=by omega
   have kh:kf Pt.v l ((i+j) / 2)=l[(i+j) / 2].v:=Fe Pt.v hH;have ka:kf Pt.v l m=l[m].v:=Fe Pt.v hb
   by_cases hlt:l[m].v<l[(i+j) / 2].v
   .obtain⟨x,g,hx⟩:=ih ((i+j) / 2-i) (by omega) i ((i+j) / 2) rfl hmi (by omega) (by omega) h1 (λp p1 p2=>by
     by_cases hp:p=(i+j) / 2
     .rw[hp];omega
     .have:=hs ((i+j) / 2) p (by omega) (by omega) (by omega)
      omega)
    refine⟨x,?_,hx⟩;refine K.lp' Cq _ rfl (by kernel_rfl) ((Sv ..).trans ?_);refine Aq (by omega) ?_;refine Ak (by decide) ?_;rw[De (by omega)];rw[Av,A0 hb];refine Ae ?_;refine(Bx Au l m hb _).trans ?_;simp only[eP,eN,ND,DK,Ab];rw[Av,A0 hH];refine Ae ?_;refine(Bx Au l ((i+j) / 2) hH _).trans ?_;simp only[eP,eN,ND,DK,Ab];refine Aa (Gq K l[m] l[(i+j) / 2]) ?_;simp only[ND,DK,Ab];refine Aq (ET.2 hlt) ?_;refine Aa g ?_;rfl
   .obtain⟨x,g,hx⟩:=ih (j-((i+j) / 2+1)) (by omega) ((i+j) / 2+1) j rfl (by omega) (by omega) hjb (λp p1 p2=>by
     by_cases hp:p=(i+j) / 2
     .rw[hp];omega
     .have:=hs p ((i+j) / 2) p1 (by omega) (by omega)
      omega) h2
    refine⟨x,?_,hx⟩;refine K.lp' Cq _ rfl (by kernel_rfl) ((Sv ..).trans ?_);refine Aq (by omega) ?_;refine Ak (by decide) ?_;rw[De (by omega),BC (by omega)];rw[Av,A0 hb];refine Ae ?_;refine(Bx Au l m hb _).trans ?_;simp only[eP,eN,ND,DK,Ab];rw[Av,A0 hH];refine Ae ?_;refine(Bx Au l ((i+j) / 2) hH _).trans ?_;simp only[eP,eN,ND,DK,Ab];refine Aa (Gq K l[m] l[(i+j) / 2]) ?_;simp only[ND,DK,Ab];refine Ak (λh=>hlt (ET.1 h)) ?_;refine Aa g ?_;rfl
  .obtain rfl:i=j:=by omega
   refine⟨i,?_,hmi,hjb,h1,h2⟩;refine K.lp' Cq _ rfl (by kernel_rfl) ((Sv ..).trans ?_);exact Ak (by omega) rfl
theorem AeU(m x:Nat)(l0:List Pt):∀(n k:Nat) (l:List Pt),k-x=n->x<=k->k<=m->m<l.length->l.length<=1000000000->l.length=l0.length->Rot l0 l k m (m+1)->
  ∃ r:List Pt,D.ask (.lp 235 3) [.sl 0 0 l.length 3,iv (x:Int),iv (k:Int)] [D8 l]=some (.tup [iv 6,.sl 0 0 l.length 3],[.set (D8 r)])
   ∧ r.length=l.length/\r.Perm l/\Rot l0 r x m (m+1):=by
 intro n
 induction n with
 |zero=>
  intro k l hn hx hk hm hl h0 ht;obtain rfl:x=k:=by omega
  refine⟨l,?_,rfl,List.Perm.refl _,ht⟩;refine K.lp' Cq _ rfl (by kernel_rfl) ((Xw ..).trans ?_);exact Ak (by omega) rfl
 |succ n ih=>
  intro k l hn hx hk hm hl h0 ht;obtain⟨j,rfl⟩:∃ j,k=j+1:=⟨k-1,by omega⟩;have hI:j+1<l.length:=by omega
  have hJ:j<l.length:=by omega
  have hlen:=Hi l (j+1) j;obtain⟨r,g,hr,hp,ho⟩:=ih j (CU l (j+1) j) (by omega) (by omega) (by omega) (by omega) (by omega) (by omega) (Zd (by omega) (by omega) h0 ht);rw[hlen]at g hr;refine⟨r,?_,hr,hp.trans (FY _ _ _),ho⟩;refine K.lp' Cq _ rfl (by kernel_rfl) ((Xw ..).trans ?_);refine Aq (by omega) ?_;rw[Na (by omega)];rw[Av,A0 hJ];refine Ae ?_;refine(Bx Au l j hJ _).trans ?_;simp only[eP,eN,ND,DK,Ab];rw[Av,A0 hI];refine Ae ?_;refine(Bx Au l (j+1) hI _).trans ?_;simp only[eP,eN,ND,DK,Ab];have s1:=CC Au l (j+1) hI l[j];have s2:=CC Au (l.set (j+1) l[j]) j (by rw[Apl];exact hJ) l[(j+1)];rw[←DO hI hJ]at s2;simp only[eP,eN]at s1 s2;rw[Av,A0 hI];refine Ae ?_;rw[show Apa (0+(j+1)*3+3) (Ai eP l).length=true by rw[AT Au];simp;omega];refine Ae ?_;rw[Av,A0 hJ];refine Ae ?_;rw[s1,s2];rw[show Apa (0+j*3+3) (Ai eP (l.set (j+1) l[j])).length=true by rw[AT Au,Apl];simp;omega];refine Ae ?_;refine Aa g ?_;rfl
theorem UJ(a m b mid x y:Nat)(l:List Pt)(hl:l.length<=1000000000)(hb:b<=l.length)(hs1:Srt Pt.v l a m)(hs2:Srt Pt.v l m b)(hx:a<=x)(hy:y<=m)(hn:mid+m<=x+b)(hm:y<=mid)(hmid:mid<=b)(hmb:m<=b):∀(k s r:Nat),r-s=k->Bs Pt.v l (mid+m) x y s r->
  ∃ z:Nat,D.ask (.lp 235 4) [.sl 0 0 l.length 3,iv (a:Int),iv (m:Int),iv (b:Int),EO,iv (mid:Int),iv ((mid+m:Nat):Int),iv (s:Int),iv (r:Int),iv ((mid+m-1:Nat):Int)] [D8 l]=some (.tup [iv 8,.sl 0 0 l.length 3,iv (a:Int),iv (m:Int),iv (b:Int),EO,iv (mid:Int),iv ((mid+m:Nat):Int),iv (z:Int)],[.set (D8 l)])
   ∧ Bs Pt.v l (mid+m) x y z z:=by
 intro k
 induction k using Aqv with
 |_ k ih=>
  intro s r hk B;have:=B.xs;have:=B.sr;have:=B.ry
  by_cases he:s<r
  .have hH:(s+r) / 2<l.length:=by omega
   have hP:mid+m-1-(s+r) / 2<l.length:=by omega
   have kh:kf Pt.v l ((s+r) / 2)=l[(s+r) / 2].v:=Fe Pt.v hH;have kp:kf Pt.v l (mid+m-1-(s+r) / 2)=l[mid+m-1-(s+r) / 2].v:=Fe Pt.v hP
   by_cases hlt:l[mid+m-1-(s+r) / 2].v<l[(s+r) / 2].v
   .obtain⟨z,g,hz⟩:=ih ((s+r) / 2-s) (by omega) s ((s+r) / 2) rfl (B.dn Pt.v hs1 hs2 hx hy (by omega) (by omega) (by omega) (by omega) (by omega))
    refine⟨z,?_,hz⟩;refine K.lp' Cq _ rfl (by kernel_rfl) ((Sw ..).trans ?_);refine Aq (by omega) ?_;refine Ak (by decide) ?_;rw[De (by omega),Cf (a:=mid+m-1) (b:=(s+r) / 2) (by omega) (by omega)];rw[Av,A0 hP];refine Ae ?_;refine(Bx Au l (mid+m-1-(s+r) / 2) hP _).trans ?_;simp only[eP,eN,ND,DK,Ab];rw[Av,A0 hH];refine Ae ?_;refine(Bx Au l ((s+r) / 2) hH _).trans ?_;simp only[eP,eN,ND,DK,Ab];refine Aa (Gq K l[mid+m-1-(s+r) / 2] l[(s+r) / 2]) ?_;simp only[ND,DK,Ab];refine Aq (ET.2 hlt) ?_;refine Aa g ?_;rfl
   .obtain⟨z,g,hz⟩:=ih (r-((s+r) / 2+1)) (by omega) ((s+r) / 2+1) r rfl (B.up Pt.v hs1 hs2 hx hy (by omega) (by omega) (by omega) (by omega) (by omega))
    refine⟨z,?_,hz⟩;refine K.lp' Cq _ rfl (by kernel_rfl) ((Sw ..).trans ?_);refine Aq (by omega) ?_;refine Ak (by decide) ?_;rw[De (by omega),Cf (a:=mid+m-1) (b:=(s+r) / 2) (by omega) (by omega),BC (by omega)];rw[Av,A0 hP];refine Ae ?_;refine(Bx Au l (mid+m-1-(s+r) / 2) hP _).trans ?_;simp only[eP,eN,ND,DK,Ab];rw[Av,A0 hH];refine Ae ?_;refine(Bx Au l ((s+r) / 2) hH _).trans ?_;simp only[eP,eN,ND,DK,Ab];refine Aa (Gq K l[mid+m-1-(s+r) / 2] l[(s+r) / 2]) ?_;simp only[ND,DK,Ab];refine Ak (λh=>hlt (ET.1 h)) ?_;refine Aa g ?_;rfl
  .obtain rfl:s=r:=by omega
   refine⟨s,?_,B⟩;refine K.lp' Cq _ rfl (by kernel_rfl) ((Sw ..).trans ?_);exact Ak (by omega) rfl
end
def tl2(D:Orc)(n:Nat)(mid e b:Int)(cs:List AV):KR:=
 br (Ag.lt mid e)
  (br (Ag.lt e b)
   (AI D (.fn 235) [.sl 0 0 n 3,iv mid,iv e,iv b,EO] [Ξ cs true true] λr o=>
   Jd r λcs4=>
   EM cs4<|
   Ei o λc l=>
   FC true true c λcs5=>
   Dd l<|
   some ((ν [],[ο (Ξ cs5 true true)])))
   (some ((ν [],[ο (Ξ cs true true)]))))
  (some ((ν [],[ο (Ξ cs true true)])))
def tl1(D:Orc)(n:Nat)(a s mid e b:Int)(cs:List AV):KR:=
 br (Ag.lt a s)
  (br (Ag.lt s mid)
   (AI D (.fn 235) [.sl 0 0 n 3,iv a,iv s,iv mid,EO] [Ξ cs true true] λr o=>
   Jd r λcs4=>
   EM cs4<|
   Ei o λc l=>
   FC true true c λcs5=>
   Dd l<|
   tl2 D n mid e b cs5)
   (tl2 D n mid e b cs))
  (tl2 D n mid e b cs)
section
variable {D:Orc}
def La(D:Orc)(N:Nat):Prop:=∀(l:List Pt) (a m b:Nat),b-a<N->a<m->m<b->b<=l.length->l.length<=1000000000->Srt Pt.v l a m->Srt Pt.v l m b->
 ∃ r:List Pt,D.ask (.fn 235) [.sl 0 0 l.length 3,iv (a:Int),iv (m:Int),iv (b:Int),EO] [D8 l]=some (.tup [],[.set (D8 r)])
  ∧ r.length=l.length/\r.Perm l/\Srt Pt.v r a b/\Same0 l r a b
theorem Ajd{N:Nat}(ih:La D N){l:List Pt}{mid e b:Nat}(hN:b-mid<N)(h1:mid<=e)(h2:e<=b)(hb:b<=l.length)(hl:l.length<=1000000000)(s1:Srt Pt.v l mid e)(s2:Srt Pt.v l e b) :
  ∃ r:List Pt,tl2 D l.length (mid:Int) (e:Int) (b:Int) (Ai eP l)=some (.tup [],[.set (D8 r)])/\r.length=l.length/\r.Perm l/\Srt Pt.v r mid b/\Same0 l r mid b:=by
 by_cases q1:mid<e
 .by_cases q2:e<b
  .obtain⟨r,g,hr,hp,ho,hs⟩:=ih l mid e b hN q1 q2 hb hl s1 s2
   refine⟨r,?_,hr,hp,ho,hs⟩;unfold tl2;refine Aq (by omega) ?_;refine Aq (by omega) ?_;refine Aa g ?_;rfl
  .refine⟨l,?_,rfl,List.Perm.refl _,I8 Pt.v (.inr (by omega)) s1 s2,CT _ _ _⟩
   unfold tl2;refine Aq (by omega) ?_;exact Ak (by omega) rfl
 .refine⟨l,?_,rfl,List.Perm.refl _,I8 Pt.v (.inl (by omega)) s1 s2,CT _ _ _⟩
  unfold tl2;exact Ak (by omega) rfl
theorem JN{N:Nat}(ih:La D N){l:List Pt}{a s mid e b:Nat}(hN:mid-a<N)(hN2:b-mid<N)(h1:a<=s)(h2:s<=mid)(h3:mid<=e)(h4:e<=b)(hb:b<=l.length)(hl:l.length<=1000000000)(s1:Srt Pt.v l a s)(s2:Srt Pt.v l s mid)(s3:Srt Pt.v l mid e)(s4:Srt Pt.v l e b)(lo:Low Pt.v l a mid b) :
  ∃ r:List Pt,tl1 D l.length (a:Int) (s:Int) (mid:Int) (e:Int) (b:Int) (Ai eP l)=some (.tup [],[.set (D8 r)])/\r.length=l.length/\r.Perm l/\Srt Pt.v r a b/\Same0 l r a b:=by
 have fin:∀{l1:List Pt},l1.length=l.length->l1.Perm l->Srt Pt.v l1 a mid->Same0 l l1 a mid->∃ r:List Pt,tl2 D l.length (mid:Int) (e:Int) (b:Int) (Ai eP l1)=some (.tup [],[.set (D8 r)])/\r.length=l.length/\r.Perm l/\Srt Pt.v r a b/\Same0 l r a b:=by
  intro l1 k1 k2 k3 k4;have lo1:=Yx Pt.v lo k2 k4 (by omega);obtain⟨r,g,hr,hp,ho,hs⟩:=Ajd ih (l:=l1) (mid:=mid) (e:=e) (b:=b) hN2 h3 h4 (by omega) (by omega) (s3.same' Pt.v k4 (.inr (φ _))) (s4.same' Pt.v k4 (.inr h3));rw[k1]at g hr;exact⟨r,g,hr,hp.trans k2,AeJ Pt.v (k3.same' Pt.v hs (.inl (φ _))) ho (Vx Pt.v lo1 hp hs (by omega)),(k4.wide (φ _) (by omega)).trans (hs.wide (by omega) (φ _))⟩
 by_cases q1:a<s
 .by_cases q2:s<mid
  .obtain⟨r,g,hr,hp,ho,hs⟩:=ih l a s mid hN q1 q2 (by omega) hl s1 s2
   obtain⟨r2,g2,h⟩:=fin hr hp ho hs;refine⟨r2,?_,h⟩;unfold tl1;refine Aq (by omega) ?_;refine Aq (by omega) ?_;refine Aa g ?_;exact g2
  .obtain⟨r2,g2,h⟩:=fin (l1:=l) rfl (List.Perm.refl _) (I8 Pt.v (.inr (by omega)) s1 s2) (CT _ _ _)
   refine⟨r2,?_,h⟩;unfold tl1;refine Aq (by omega) ?_;exact(CA (by omega)).trans g2
 .obtain⟨r2,g2,h⟩:=fin (l1:=l) rfl (List.Perm.refl _) (I8 Pt.v (.inl (by omega)) s1 s2) (CT _ _ _)
  refine⟨r2,?_,h⟩;unfold tl1;exact(CA (by omega)).trans g2
variable (K:Knows As Eh D)
include K
theorem AeQ:∀ N,La D N:=by
 intro N
 induction N with
 |zero=>intro l a m b h;omega
 |succ N ih0=>
  intro l a m b hN ha hm hb hl hs1 hs2
  by_cases hA:m-a=1
  .obtain rfl:m=a+1:=by omega
   obtain⟨x,g1,x1,x2,x3,x4⟩:=AeR K a (a+1) b l hl (by omega) hb hs2 _ (a+1) b rfl (φ _) (by omega) (φ _) (λp p1 p2=>by omega) (λp p1 p2=>by omega);obtain⟨r,g2,r1,r2,r3⟩:=AeS K a x l _ a l rfl (φ _) (by omega) (by omega) hl rfl (Fw (.inr rfl) (by omega) (by omega));refine⟨r,?_,r1,r2,Q6 Pt.v x1 x2 hs2 x3 x4 r3,λp hp=>r3.out p (by omega)⟩;refine K.fn' Cq _ rfl ((Qp ..).trans ?_);rw[Cf (a:=a+1) (b:=a) (by omega) (by omega)];refine Bi (by omega) ?_;refine Aa g1 ?_;simp only[EO,ND,DK,Ab];refine Aa g2 ?_;rfl
  by_cases hB:b-m=1
  .obtain rfl:b=m+1:=by omega
   obtain⟨x,g1,x1,x2,x3,x4⟩:=AeT K a m l hl (by omega) hs1 _ a m rfl (φ _) (by omega) (φ _) (λp p1 p2=>by omega) (λp p1 p2=>by omega);obtain⟨r,g2,r1,r2,r3⟩:=AeU K m x l _ m l rfl x2 (φ _) (by omega) hl rfl (Fw (.inl rfl) (by omega) (by omega));refine⟨r,?_,r1,r2,SZ Pt.v x1 x2 hs1 x3 x4 r3,λp hp=>r3.out p (by omega)⟩;refine K.fn' Cq _ rfl ((Qp ..).trans ?_);rw[Cf (a:=m) (b:=a) (by omega) (by omega)];refine AK (by omega) ?_;rw[Cf (a:=m+1) (b:=m) (by omega) (by omega)];refine Bi (by omega) ?_;refine Aa g1 ?_;simp only[EO,ND,DK,Ab];refine Ae ?_;refine Aa g2 ?_;rfl
  have ih:La D N:=ih0
  by_cases hC:(a+b) / 2<m
  .obtain⟨z,g4,B⟩:=UJ K a m b ((a+b) / 2) ((a+b) / 2+m-b) ((a+b) / 2) l hl hb hs1 hs2 (by omega) (by omega) (by omega) (by omega) (by omega) (by omega) _ ((a+b) / 2+m-b) ((a+b) / 2) rfl ⟨φ _,by omega,φ _,λc c1 c2=>by omega,λc c1 c2=>by omega⟩
   have C:=B.cut Pt.v hs1 hs2 (by omega) (by omega) (by omega) (by omega) (.inr (by omega)) (.inr rfl);have:=C.asl;have:=C.sm;have:=C.me;have:=C.eb;have:=C.mid;have:=B.ry;have:=B.xs;have e0:Ag.sub .i64 (((a+b) / 2+m:Nat):Int) (z:Int)=(((a+b) / 2+m-z:Nat):Int):=Cf (by omega) (by omega)
   by_cases w1:z<m
   .by_cases w2:m<(a+b) / 2+m-z
    .obtain⟨l1,g5,k1,k2,k3⟩:=Zf K w1 w2 (by omega) hl
     obtain⟨f1,f2,f3,f4,f5⟩:=Et Pt.v C hs1 hs2 k3;obtain⟨r,g6,r1,r2,r3,r4⟩:=JN ih (l:=l1) (a:=a) (s:=z) (mid:=(a+b) / 2) (e:=(a+b) / 2+m-z) (b:=b) (by omega) (by omega) (by omega) (by omega) (by omega) (by omega) (by omega) (by omega) f1 f2 f3 f4 f5;have sm:Same0 l l1 a b:=λp hp=>k3.out p (by omega)
     rw[k1]at g6 r1;refine⟨r,?_,r1,r2.trans k2,r3,sm.trans r4⟩;refine K.fn' Cq _ rfl ((Qp ..).trans ?_);rw[Cf (a:=m) (b:=a) (by omega) (by omega)];refine AK (by omega) ?_;rw[Cf (a:=b) (b:=m) (by omega) (by omega)];refine AK (by omega) ?_;refine Ak (by decide) ?_;rw[De (a:=a) (b:=b) (by omega)];rw[Ix (a:=(a+b) / 2) (b:=m) (by omega),GR (a:=(a+b) / 2+m) (by omega) (by omega)];rw[Cf (a:=(a+b) / 2+m) (b:=b) (by omega) (by omega)];refine Aq (by omega) ?_;refine Aa g4 ?_;simp only[EO,ND,DK,Ab];refine Ae ?_;rw[e0];refine Aq (by omega) ?_;refine Aq (by omega) ?_;refine Aa g5 ?_;exact g6
    .obtain⟨f1,f2,f3,f4,f5⟩:=Et Pt.v C hs1 hs2 (Fw (l:=l) (.inr (by omega)) (by omega) (by omega))
     obtain⟨r,g6,r1,r2,r3,r4⟩:=JN ih (l:=l) (a:=a) (s:=z) (mid:=(a+b) / 2) (e:=(a+b) / 2+m-z) (b:=b) (by omega) (by omega) (by omega) (by omega) (by omega) (by omega) (by omega) (by omega) f1 f2 f3 f4 f5;refine⟨r,?_,r1,r2,r3,r4⟩;refine K.fn' Cq _ rfl ((Qp ..).trans ?_);rw[Cf (a:=m) (b:=a) (by omega) (by omega)];refine AK (by omega) ?_;rw[Cf (a:=b) (b:=m) (by omega) (by omega)];refine AK (by omega) ?_;refine Ak (by decide) ?_;rw[De (a:=a) (b:=b) (by omega)];rw[Ix (a:=(a+b) / 2) (b:=m) (by omega),GR (a:=(a+b) / 2+m) (by omega) (by omega)];rw[Cf (a:=(a+b) / 2+m) (b:=b) (by omega) (by omega)];refine Aq (by omega) ?_;refine Aa g4 ?_;simp only[EO,ND,DK,Ab];refine Ae ?_;rw[e0];refine Aq (by omega) ?_;refine Ak (by omega) ?_;exact g6
   .obtain⟨f1,f2,f3,f4,f5⟩:=Et Pt.v C hs1 hs2 (Fw (l:=l) (.inl (by omega)) (by omega) (by omega))
    obtain⟨r,g6,r1,r2,r3,r4⟩:=JN ih (l:=l) (a:=a) (s:=z) (mid:=(a+b) / 2) (e:=(a+b) / 2+m-z) (b:=b) (by omega) (by omega) (by omega) (by omega) (by omega) (by omega) (by omega) (by omega) f1 f2 f3 f4 f5;refine⟨r,?_,r1,r2,r3,r4⟩;refine K.fn' Cq _ rfl ((Qp ..).trans ?_);rw[Cf (a:=m) (b:=a) (by omega) (by omega)];refine AK (by omega) ?_;rw[Cf (a:=b) (b:=m) (by omega) (by omega)];refine AK (by omega) ?_;refine Ak (by decide) ?_;rw[De (a:=a) (b:=b) (by omega)];rw[Ix (a:=(a+b) / 2) (b:=m) (by omega),GR (a:=(a+b) / 2+m) (by omega) (by omega)];rw[Cf (a:=(a+b) / 2+m) (b:=b) (by omega) (by omega)];refine Aq (by omega) ?_;refine Aa g4 ?_;simp only[EO,ND,DK,Ab];refine Ae ?_;rw[e0];refine Ak (by omega) ?_;exact g6
  .obtain⟨z,g4,B⟩:=UJ K a m b ((a+b) / 2) a m l hl hb hs1 hs2 (by omega) (by omega) (by omega) (by omega) (by omega) (by omega) _ a m rfl ⟨φ _,by omega,φ _,λc c1 c2=>by omega,λc c1 c2=>by omega⟩
   have C:=B.cut Pt.v hs1 hs2 (by omega) (by omega) (by omega) (by omega) (.inl rfl) (.inl rfl);have:=C.asl;have:=C.sm;have:=C.me;have:=C.eb;have:=C.mid;have:=B.ry;have:=B.xs;have e0:Ag.sub .i64 (((a+b) / 2+m:Nat):Int) (z:Int)=(((a+b) / 2+m-z:Nat):Int):=Cf (by omega) (by omega)
   by_cases w1:z<m
   .by_cases w2:m<(a+b) / 2+m-z
    .obtain⟨l1,g5,k1,k2,k3⟩:=Zf K w1 w2 (by omega) hl
     obtain⟨f1,f2,f3,f4,f5⟩:=Et Pt.v C hs1 hs2 k3;obtain⟨r,g6,r1,r2,r3,r4⟩:=JN ih (l:=l1) (a:=a) (s:=z) (mid:=(a+b) / 2) (e:=(a+b) / 2+m-z) (b:=b) (by omega) (by omega) (by omega) (by omega) (by omega) (by omega) (by omega) (by omega) f1 f2 f3 f4 f5;have sm:Same0 l l1 a b:=λp hp=>k3.out p (by omega)
     rw[k1]at g6 r1;refine⟨r,?_,r1,r2.trans k2,r3,sm.trans r4⟩;refine K.fn' Cq _ rfl ((Qp ..).trans ?_);rw[Cf (a:=m) (b:=a) (by omega) (by omega)];refine AK (by omega) ?_;rw[Cf (a:=b) (b:=m) (by omega) (by omega)];refine AK (by omega) ?_;refine Ak (by decide) ?_;rw[De (a:=a) (b:=b) (by omega)];rw[Ix (a:=(a+b) / 2) (b:=m) (by omega),GR (a:=(a+b) / 2+m) (by omega) (by omega)];refine Ak (by omega) ?_;refine Aa g4 ?_;simp only[EO,ND,DK,Ab];refine Ae ?_;rw[e0];refine Aq (by omega) ?_;refine Aq (by omega) ?_;refine Aa g5 ?_;exact g6
    .obtain⟨f1,f2,f3,f4,f5⟩:=Et Pt.v C hs1 hs2 (Fw (l:=l) (.inr (by omega)) (by omega) (by omega))
     obtain⟨r,g6,r1,r2,r3,r4⟩:=JN ih (l:=l) (a:=a) (s:=z) (mid:=(a+b) / 2) (e:=(a+b) / 2+m-z) (b:=b) (by omega) (by omega) (by omega) (by omega) (by omega) (by omega) (by omega) (by omega) f1 f2 f3 f4 f5;refine⟨r,?_,r1,r2,r3,r4⟩;refine K.fn' Cq _ rfl ((Qp ..).trans ?_);rw[Cf (a:=m) (b:=a) (by omega) (by omega)];refine AK (by omega) ?_;rw[Cf (a:=b) (b:=m) (by omega) (by omega)];refine AK (by omega) ?_;refine Ak (by decide) ?_;rw[De (a:=a) (b:=b) (by omega)];rw[Ix (a:=(a+b) / 2) (b:=m) (by omega),GR (a:=(a+b) / 2+m) (by omega) (by omega)];refine Ak (by omega) ?_;refine Aa g4 ?_;simp only[EO,ND,DK,Ab];refine Ae ?_;rw[e0];refine Aq (by omega) ?_;refine Ak (by omega) ?_;exact g6
   .obtain⟨f1,f2,f3,f4,f5⟩:=Et Pt.v C hs1 hs2 (Fw (l:=l) (.inl (by omega)) (by omega) (by omega))
    obtain⟨r,g6,r1,r2,r3,r4⟩:=JN ih (l:=l) (a:=a) (s:=z) (mid:=(a+b) / 2) (e:=(a+b) / 2+m-z) (b:=b) (by omega) (by omega) (by omega) (by omega) (by omega) (by omega) (by omega) (by omega) f1 f2 f3 f4 f5;refine⟨r,?_,r1,r2,r3,r4⟩;refine K.fn' Cq _ rfl ((Qp ..).trans ?_);rw[Cf (a:=m) (b:=a) (by omega) (by omega)];refine AK (by omega) ?_;rw[Cf (a:=b) (b:=m) (by omega) (by omega)];refine AK (by omega) ?_;refine Ak (by decide) ?_;rw[De (a:=a) (b:=b) (by omega)];rw[Ix (a:=(a+b) / 2) (b:=m) (by omega),GR (a:=(a+b) / 2+m) (by omega) (by omega)];refine Ak (by omega) ?_;refine Aa g4 ?_;simp only[EO,ND,DK,Ab];refine Ae ?_;rw[e0];refine Ak (by omega) ?_;exact g6
theorem Vz:Lx D:=λl a m b h1 h2 h3 h4 h5 h6=>AeQ K (b-a+1) l a m b (by omega) h1 h2 h3 h4 h5 h6
theorem Ry{l:List Pt}(hl:l.length<=1000000000) :
  ∃ r:List Pt,D.ask (.fn 136) [.sl 0 0 l.length 3,EO] [D8 l]=some (.tup [],[.set (D8 r)])
   ∧ r.length=l.length/\r.Perm l/\Srt Pt.v r 0 r.length:=AeI K (Vz K) hl
end
def fnZ:AV:=.fn (.func 141) [] []
section
variable {D:Orc} (K:Knows As Eh D)
include K
theorem Ah6(P:Pt->Bool)(l:List Pt)(hl:l.length<=1000000000)(hP:∀ p∈l,D.ask (.fn 141) [.agg (eP p)] []=some (bv (P p),[])):∀(m i:Nat),l.length-i=m->i<=l.length->
  D.ask (.lp 199 0) [.sl 0 0 l.length 3,fnZ,iv (l.length:Int),iv (i:Int)] [Ξ (Ai eP l) true true]
   = if i+(l.drop i).findIdx P<l.length then some (.tup [bv true,.sl 0 0 l.length 3,iv ((i+(l.drop i).findIdx P:Nat):Int)],[.set (Ξ (Ai eP l) true true)]) else some (.tup [iv 0,.sl 0 0 l.length 3],[.set (Ξ (Ai eP l) true true)]):=by
 intro m
 induction m with
 |zero=>
  intro i hm hi;rw[if_neg (by omega)];refine K.lp' Mm _ rfl (by kernel_rfl) ((O2 ..).trans ?_);exact Ak (by omega) rfl
 |succ m ih=>
  intro i hm hi;have h1:i<l.length:=by omega
  have g:=hP l[i] (ApP h1);have ih':=ih (i+1) (by omega) (by omega);rw[ω h1,Ass]
  cases hp:P l[i]with
  |true=>
   rw[hp]at g;rw[if_pos (by simpa using h1)];refine K.lp' Mm _ rfl (by kernel_rfl) ((O2 ..).trans ?_);refine Aq (by omega) ?_;rw[Av,A0 h1];refine Ae ?_;refine(Bx Au l i h1 _).trans ?_;simp only[eP,eN,ND,DK,Ab];refine Aa g ?_;simp only[ND,DK,Ab];rfl
  |false=>
   rw[hp]at g;rw[show (bif false then 0 else(l.drop (i+1)).findIdx P+1)=(l.drop (i+1)).findIdx P+1 from rfl,show i+((l.drop (i+1)).findIdx P+1)=i+1+(l.drop (i+1)).findIdx P by omega]
   by_cases h:i+1+(l.drop (i+1)).findIdx P<l.length
   .rw[if_pos h]at ih' ⊢
    refine K.lp' Mm _ rfl (by kernel_rfl) ((O2 ..).trans ?_);refine Aq (by omega) ?_;rw[Av,A0 h1];refine Ae ?_;refine(Bx Au l i h1 _).trans ?_;simp only[eP,eN,ND,DK,Ab];refine Aa g ?_;simp only[ND,DK,Ab];rw[BC (by omega)];refine Aa ih' ?_;rfl
   .rw[if_neg h]at ih' ⊢
    refine K.lp' Mm _ rfl (by kernel_rfl) ((O2 ..).trans ?_);refine Aq (by omega) ?_;rw[Av,A0 h1];refine Ae ?_;refine(Bx Au l i h1 _).trans ?_;simp only[eP,eN,ND,DK,Ab];refine Aa g ?_;simp only[ND,DK,Ab];rw[BC (by omega)];refine Aa ih' ?_;rfl
theorem Ah7(P:Pt->Bool)(l:List Pt)(hl:l.length<=1000000000)(hP:∀ p∈l,D.ask (.fn 141) [.agg (eP p)] []=some (bv (P p),[])) :
  D.ask (.fn 199) [.sl 0 0 l.length 3,fnZ] [Ξ (Ai eP l) true true]
   = some (iv (if l.findIdx P<l.length then(l.findIdx P:Int) else -1),[.set (Ξ (Ai eP l) true true)]):=by
 have g:=Ah6 K P l hl hP _ 0 rfl (by omega);rw[χ,Apy]at g;refine K.fn' Mm _ rfl ((Am2 ..).trans ?_)
 by_cases h:l.findIdx P<l.length
 .rw[if_pos h]at g ⊢
  refine Aa g ?_;rfl
 .rw[if_neg h]at g ⊢
  refine Aa g ?_;rfl
theorem Ahy(P:Pt->Bool)(Q:Pt->Prop)(hP:∀ p,Q p->D.ask (.fn 141) [.agg (eP p)] []=some (bv (P p),[])):∀(m j i:Nat) (l:List Pt),l.length-j=m->i<=j->j<=l.length->l.length<=1000000000->(∀ p∈l.drop j,Q p)->
  ∃(r:List Pt) (c:Nat),D.ask (.lp 140 0) [.sl 0 0 l.length 3,fnZ,iv (i:Int),iv (j:Int)] [Ξ (Ai eP l) true true]
   = some (.tup [iv 0,.sl 0 0 l.length 3,iv (c:Int)],[.set (Ξ (Ai eP r) true true)])
   ∧ r.length=l.length/\c<=l.length/\r.take c=l.take i++(l.drop j).filter (λp=>!P p):=by
 intro m
 induction m with
 |zero=>
  intro j i l hm hi hj hl hq;refine⟨l,i,?_,rfl,by omega,?_⟩
  .refine K.lp' Ml _ rfl (by kernel_rfl) ((Sn ..).trans ?_)
   exact Ak (by omega) rfl
  .rw[υ (by omega),List.filter_nil,ApQ]
 |succ m ih=>
  intro j i l hm hi hj hl hq;have h1:j<l.length:=by omega
  have h0:i<l.length:=by omega
  have ed:=ω h1;have g:=hP l[j] (hq _ (by rw[ed];exact Apn ..));rw[ed,Asy]
  cases hp:P l[j]with
  |true=>
   rw[hp]at g;obtain⟨r,c,g2,hr,hc,he⟩:=ih (j+1) i l (by omega) (by omega) (by omega) hl (λp h=>hq p (by rw[ed];exact ApB _ h));refine⟨r,c,?_,hr,hc,he⟩;refine K.lp' Ml _ rfl (by kernel_rfl) ((Sn ..).trans ?_);refine Aq (by omega) ?_;rw[Av,A0 h1];refine Ae ?_;refine(Bx Au l j h1 _).trans ?_;simp only[eP,eN,ND,DK,Ab];refine Aa g ?_;simp only[ND,DK,Ab];rw[BC (by omega)];refine Aa g2 ?_;rfl
  |false=>
   rw[hp]at g;have hd:(l.set i l[j]).drop (j+1)=l.drop (j+1):=List.drop_set_of_lt (by omega);obtain⟨r,c,g2,hr,hc,he⟩:=ih (j+1) (i+1) (l.set i l[j]) (by rw[Apl];omega) (by omega) (by rw[Apl];omega) (by rw[Apl];exact hl) (λp h=>hq p (by rw[ed];rw[hd]at h;exact ApB _ h));rw[Apl]at g2 hr hc;have s1:=CC Au l i h0 l[j];simp only[eP,eN]at s1;refine⟨r,c,?_,hr,hc,?_⟩
   .skip
    refine K.lp' Ml _ rfl (by kernel_rfl) ((Sn ..).trans ?_);refine Aq (by omega) ?_;rw[Av,A0 h1];refine Ae ?_;refine(Bx Au l j h1 _).trans ?_;simp only[eP,eN,ND,DK,Ab];refine Aa g ?_;simp only[ND,DK,Ab];rw[Av,A0 h0];refine Ae ?_;rw[show Apa (0+i*3+3) (Ai eP l).length=true by rw[AT Au];simp;omega];refine Ae ?_;rw[s1,BC (by omega),BC (by omega)];refine Aa g2 ?_;rfl
   .rw[he,hd,List.take_succ_eq_append_getElem (by rw[Apl];exact h0),List.getElem_set_self,List.take_set_of_le (φ _),Ao9]
    rfl
omit K in
theorem Mb(P:Pt->Bool):∀ l:List Pt,l.findIdx P<l.length->l.take (l.findIdx P)++(l.drop (l.findIdx P+1)).filter (λp=>!P p)=l.filter (λp=>!P p)
 |[],h=>by simp at h
 |x::r,h=>by
  rw[Ass]at h ⊢
  cases hp:P x with
  |true=>simp[hp]
  |false=>
   rw[hp]at h;have:=Mb P r (by simpa using h);simp only[cond_false,List.take_succ_cons,List.drop_succ_cons,Asy,hp,Bool.not_false,if_true,List.cons_append];rw[this]
omit K in
theorem Qt(P:Pt->Bool)(l:List Pt)(h:¬ l.findIdx P<l.length):l.filter (λp=>!P p)=l:=by
 rw[List.filter_eq_self];intro p hp
 cases e:P p with
 |false=>rfl
 |true=>exact absurd (List.findIdx_lt_length_of_exists ⟨p,hp,e⟩) h
omit K in
theorem M1:∀(l:List Pt) (i:Nat),i<=l.length->(Ai eP l).take (i*3)=Ai eP (l.take i)
 |[],i,_=>by simp[Ai]
 |y::r,0,_=>by simp[Ai]
 |y::r,i+1,h=>by
  rw[show (i+1)*3=3+i*3 by omega]
  show (eP y++Ai eP r).take (3+i*3)=eP y++Ai eP (r.take i)
  rw[ArX,ApZ (by rw[Au];omega),Au,show 3+i*3-3=i*3 by omega,M1 r i (by simpa using h)]
theorem W5(P:Pt->Bool)(l:List Pt)(hl:l.length<=1000000000)(hP:∀ p∈l,D.ask (.fn 141) [.agg (eP p)] []=some (bv (P p),[])) :
  ∃ cells:List AV,D.ask (.fn 140) [.sl 0 0 l.length 3,fnZ] [Ξ (Ai eP l) true true]
   = some (.sl 0 0 (l.filter λp=>!P p).length 3,[.set (Ξ cells true true)])
   ∧ cells.take ((l.filter λp=>!P p).length*3)=Ai eP (l.filter λp=>!P p)/\(l.filter λp=>!P p).length*3<=cells.length:=by
 have g:=Ah7 K P l hl hP
 by_cases h:l.findIdx P<l.length
 .rw[if_pos h]at g
  obtain⟨r,c,g2,hr,hc,he⟩:=Ahy K P (λp=>p∈l) hP _ (l.findIdx P+1) (l.findIdx P) l rfl (by omega) (by omega) hl (λp hp=>List.mem_of_mem_drop hp);rw[Mb P l h]at he;have hk:(l.filter λp=>!P p).length=c:=by
   rw[←he,Apg];omega
  rw[hk,←he];refine⟨AG (Ai eP r) (0+c*3) (BM [iv 0,bv false,.v (.slice none 0 0)] ((l.length-c)*3)),?_,?_,?_⟩
  .refine K.fn' Ml _ rfl ((Ajw ..).trans ?_)
   refine Aa g ?_;simp only[ND,DK,Ab];refine AK (by omega) ?_;rw[BC (by omega)];refine Aa g2 ?_;simp only[ND,DK,Ab];rw[Av,show IK c l.length l.length=true by unfold IK;rw[Arc hc,Arc (φ _)]];refine Ae ?_;rw[show Apa (0+c*3+(l.length-c)*3) (Ai eP r).length=true by rw[AT Au];simp;omega];refine Ae ?_;rw[Av,show IK 0 c l.length=true by unfold IK;rw[Arc (ApM _),Arc hc]];rfl
  .unfold AG
   have hlen:((Ai eP r).take (0+c*3)).length=c*3:=by
    rw[Apg,AT Au];omega
   rw[Ao9,AqR hlen,Apy,M1 r c (by omega)]
  .unfold AG
   rw[η,η,Apg,AT Au];omega
 .rw[if_neg h]at g
  rw[Qt P l h];refine⟨Ai eP l,?_,Bf Au l rfl,by rw[AT Au];exact φ _⟩;refine K.fn' Ml _ rfl ((Ajw ..).trans ?_);refine Aa g ?_;simp only[ND,DK,Ab];exact Bi rfl rfl
end
structure PartF (D:Orc):Prop where
 clone:∀ l:List Pt,l.length<=1000000000->D.ask (.fn 135) [.ls (l.map eP)] []=some (.sl 0 0 l.length 3,[.set (D8 l)])
 grow:∀ n:Nat,n<=1000000000->D.ask (.fn 262) [.v (.slice none 0 0),iv (n:Int)] []=some (.sl 0 0 0 3,[.set (D8 [])])
section
variable (o:List Pt) (x:Pt)
theorem Aev(k:List AV->KR):EQ (Ai eP (o++[x])) (0+o.length*3+0) 1 k=k [iv x.v]:=by
 have hl:=AT Au o;rw[←Bc];unfold EQ;rw[show Apa (0+o.length*3+0+1) (Ai eP o++eP x).length=true by rw[η,hl,Au];simp<;>omega]
 show k (((Ai eP o++eP x).drop (0+o.length*3+0)).take 1)=_
 rw[List.drop_left' (by omega)];rfl
theorem AlU(k:List AV->KR):EQ (Ai eP (o++[x])) (0+o.length*3+1) 2 k=k [bv x.z.neg,eN x.z.abs]:=by
 have hl:=AT Au o;rw[←Bc];unfold EQ;rw[show Apa (0+o.length*3+1+2) (Ai eP o++eP x).length=true by rw[η,hl,Au];simp]
 show k (((Ai eP o++eP x).drop (0+o.length*3+1)).take 2)=_
 rw[ArV,Arv (by omega),show 0+o.length*3+1-(Ai eP o).length=1 by omega];rfl
theorem AlZ(z:Zi):AG (Ai eP (o++[x])) (0+o.length*3+1) [bv z.neg,eN z.abs]=Ai eP (o++[⟨x.v,z⟩]):=by
 have hl:=AT Au o;rw[←Bc,←Bc];unfold AG;rw[ArX,ApZ (by omega),show 0+o.length*3+1-(Ai eP o).length=1 by omega,Arv (by rw[η,Au,hl];simp),ApQ,Ao9];rfl
end
section
variable {D:Orc} (Kt:Knows As Gc D) (Ks:Knows As Eh D) (Z:ZF D) (C:PartF D)
include Z
include Kt in
theorem EC{z:Zi}(hz:Lz 1000000000 z):D.ask (.fn 138) [.agg (eZ z)] []=some (.agg (eZ (Az (zv z))),[]):=by
 refine Kt.fn' AfO _ rfl ((Amy ..).trans ?_);refine Aa (Z.frm z hz) ?_;rfl
include Ks in
theorem N4{p:Pt}(hz:Lz 1000000000 p.z):D.ask (.fn 141) [.agg (eP p)] []=some (bv (decide (zv p.z=0)),[]):=by
 have g:=Z.sign p.z hz;refine Ks.fn' AfQ _ rfl ((AmA ..).trans ?_);refine Aa g ?_;simp only[ND,DK,Ab]
 by_cases h:zv p.z=0
 .rw[decide_eq_true h,h]
  exact Gp rfl
 .rw[decide_eq_false h]
  refine FI ?_;unfold BF;split
  .omega
  .split
   .omega
   .omega
include Kt in
theorem YQ{k:Nat}(ps:List Pt)(hl:ps.length<=1000000)(hk:k+ps.length<=900000000)(hz:∀ p∈ps,Lz k p.z)(r0:List (List AV))(r1:Bool)(r2:List (List AV))(k1:Bool)(k2:List (List AV)):∀(m i:Nat) (s:List (Int × Int)),ps.length-i=m->i<=ps.length->s.length<=i->(∀ q∈s,InB (k+i) q.2)->
  D.ask (.lp 62 0) [.ptr 0 0,.ptr 1 0,.ls (ps.map eP),iv (ps.length:Int),iv (i:Int)] [⟨[.ls r0,bv r1,.ls r2],true,false⟩,⟨[.sl 2 0 (s.map AO).reverse.length 3,bv k1,.ls k2],true,false⟩,D8 (s.map AO).reverse]
   = some (.tup [iv 0,.ptr 0 0,.ptr 1 0],[.set ⟨[.ls r0,bv r1,.ls r2],true,false⟩,.set ⟨[.sl 3 0 ((((ps.drop i).map pv).foldl CK s).map AO).reverse.length 3,bv k1,.ls k2],true,false⟩,.del,.set (D8 ((((ps.drop i).map pv).foldl CK s).map AO).reverse)]):=by
 intro m
 induction m with
 |zero=>
  intro i s hm hi hs hb;rw[υ (by omega),List.map_nil,List.foldl_nil];refine Kt.lp' X6 _ rfl (by kernel_rfl) ((Afu ..).trans ?_);exact Ak (by omega) rfl
 |succ m ih0=>
  intro i s hm hi hs hb;have h1:i<ps.length:=by omega
  have hzk:=hz ps[i] (ApP h1);have hzi:=hzk.mono (show k<=1000000000 by omega);rw[ω h1,Aps,AqQ];have ih:=ih0 (i+1) (CK s (pv ps[i])) (by omega) (by omega) (by have:=Gu s (pv ps[i]);omega) (Gt hb (hzk.inb.mono (show k<=k+i by omega)));refine Kt.lp' X6 _ rfl (by kernel_rfl) ((Afu ..).trans ?_);refine Aq (by omega) ?_;rw[Av,Aw (Ψ h1)];simp only[eP,eN,ND,DK,Ab];generalize hS:((ps.drop (i+1)).map pv).foldl CK (CK s (pv ps[i]))=S at ih ⊢
  by_cases hneg:ps[i].v<0
  .have e:CK s (pv ps[i])=s:=by
    have hn:(pv ps[i]).1<0:=hneg
    cases s with
    |nil=>rw[D9,if_pos hn]
    |cons q r=>rw[Dp,if_pos hn]
   rw[e]at ih;refine Aq hneg ?_;rw[BC (by omega)];refine Aa ih ?_;rfl
  have hn:¬(pv ps[i]).1<0:=hneg;refine Ak hneg ?_
  cases s with
  |nil=>
   rw[D9,if_neg hn]at ih;refine Ca (by decide) ?_;obtain⟨o,ho0⟩:∃ o:List Pt,o=[]:=⟨_,rfl⟩;have eo:(([pv ps[i]].map AO).reverse)=o++[AO (pv ps[i])]:=by rw[ho0];rfl
   rw[eo]at ih;have ho:o.length<=i:=by rw[ho0];exact ApM _
   rw[show ((([]:List (Int × Int)).map AO).reverse)=o from ho0.symm];have hf:Be (o.length+1) 40=true:=AL (by omega) (by omega);have hb1:Apa (0+o.length*3) (Ai eP o).length=true:=AJ Au o (by omega);have e3:ι 0 (κ (0+o.length*3) (Ai eP o))++[iv ps[i].v,bv (Az (zv ps[i].z)).neg,eN (Az (zv ps[i].z)).abs]=Ai eP (o++[AO (pv ps[i])]):=by
    rw[χ,Bf Au o (by omega)];exact Bc eP o (AO (pv ps[i]))
   refine Aa (EC Kt Z hzi) ?_;simp only[eZ,eN,ND,DK,Ab]at e3 ⊢;rw[hf];refine Ae ?_;rw[hb1];refine Ae ?_;rw[e3,BC (by omega)];rw[η,Apm]at ih;refine Aa ih ?_;rfl
  |cons q r=>
   have eo:(((q::r).map AO).reverse)=(r.map AO).reverse++[AO q]:=by simp
   have hq:=hb q (Apn ..);rw[eo];rw[Dp,if_neg hn]at ih;have hro:(r.map AO).reverse.length<=i:=by simp at hs ⊢;omega
   by_cases heq:q.1=(pv ps[i]).1
   .rw[if_pos heq,Aps,Ars]at ih
    generalize (r.map AO).reverse=o at hro ih ⊢;have e1:Ag.sub .i64 (((o++[AO q]).length:Nat):Int) 1=((o.length:Nat):Int):=by
     rw[η,Apm];exact Na (by omega)
    have hlt:o.length<(o++[AO q]).length:=by simp
    have ga:=Z.add (Az q.2) ps[i].z (hq.lz.mono (by omega)) (hzk.mono (by omega));rw[AU]at ga;have sp:=AlZ o (AO q) (Az (q.2+zv ps[i].z));rw[e1];refine BW (by omega) ?_;rw[Av,A0 hlt];refine Ae ?_;refine(Aev o (AO q) _).trans ?_;simp only[ND,DK,Ab];refine Bi (show (AO q).v=ps[i].v from heq) ?_;rw[Av,A0 hlt];refine Ae ?_;refine(AlU o (AO q) _).trans ?_;simp only[eN,ND,DK,Ab];refine Aa ga ?_;simp only[eZ,eN,ND,DK,Ab]at sp ⊢;rw[Av,A0 hlt];refine Ae ?_;rw[show Apa (0+o.length*3+1+2) (Ai eP (o++[AO q])).length=true by rw[AT Au];simp;omega];refine Ae ?_;rw[sp,BC (by omega)];have el:(o++[AO q]).length=(o++[AO (q.1,q.2+(pv ps[i]).2)]).length:=by simp
    rw[el];refine Aa ih ?_;rfl
   .rw[if_neg heq,Aps,Ars,eo]at ih
    have hlen:((r.map AO).reverse++[AO q]).length<=i:=by simp at hs ⊢;omega
    have e1:Ag.sub .i64 ((((r.map AO).reverse++[AO q]).length:Nat):Int) 1=(((r.map AO).reverse.length:Nat):Int):=by
     rw[η,Apm];exact Na (by omega)
    have hlt:(r.map AO).reverse.length<((r.map AO).reverse++[AO q]).length:=by simp
    rw[e1];refine BW (by omega) ?_;rw[Av,A0 hlt];refine Ae ?_;refine(Aev _ (AO q) _).trans ?_;simp only[ND,DK,Ab];refine AK (show ¬(AO q).v=ps[i].v from heq) ?_;generalize (r.map AO).reverse++[AO q]=o at hlen ih ⊢;have ho:=hlen;have hf:Be (o.length+1) 40=true:=AL (by omega) (by omega);have hb1:Apa (0+o.length*3) (Ai eP o).length=true:=AJ Au o (by omega);have e3:ι 0 (κ (0+o.length*3) (Ai eP o))++[iv ps[i].v,bv (Az (zv ps[i].z)).neg,eN (Az (zv ps[i].z)).abs]=Ai eP (o++[AO (pv ps[i])]):=by
     rw[χ,Bf Au o (by omega)];exact Bc eP o (AO (pv ps[i]))
    refine Aa (EC Kt Z hzi) ?_;simp only[eZ,eN,ND,DK,Ab]at e3 ⊢;rw[hf];refine Ae ?_;rw[hb1];refine Ae ?_;rw[e3,BC (by omega)];rw[η,Apm]at ih;refine Aa ih ?_;rfl
include Kt Ks C in
theorem Ee{n k:Nat}{t:Tm}(h:TmB n k t)(hn:n<=1000000)(hk:k+n<=900000000):D.ask (.fn 62) [.agg (eT t)] []=some (.agg (eT t.lf.pln.tm),[]):=by
 obtain⟨ps,kz⟩:=t;have hlen:ps.length<=n:=h.len;obtain⟨r,gs,gr,gp,go⟩:=Ry Ks (l:=ps) (by omega);have gc:=C.clone ps (by omega);have gk:=EC Kt Z (h.k.mono (show k<=1000000000 by omega));have hzr:∀ p∈r,Lz k p.z:=λp hp=>h.ps p (gp.mem_iff.1 hp)
 have gl:=YQ Kt Z r (k:=k) (by omega) (by omega) hzr [] false [] (Az (zv kz)).neg ((Az (zv kz)).abs.map eL) _ 0 [] rfl (by omega) (by simp) (by simp);rw[χ]at gl;have hsrt:(r.map pv).Pairwise λa b=>a.1<=b.1:=by
  rw[Arr];exact FU Pt.v go
 have hpl:=O9 hsrt (gp.map pv);generalize hS:(r.map pv).foldl CK []=S at gl hpl;have hsb:∀ p∈((S.map AO).reverse),Lz 1000000000 p.z:=by
  have key:∀(t s:List (Int × Int)) (j:Nat),(∀ q∈s,InB (k+j) q.2)->(∀ q∈t,InB k q.2)->∀ q∈t.foldl CK s,InB (k+j+t.length) q.2:=by
   intro t
   induction t with
   |nil=>intro s j hs _ q hq;exact hs q hq
   |cons p t ih=>
    intro s j hs ht q hq;have:=ih (CK s p) (j+1) (Gt hs ((ht p (Apn ..)).mono (show k<=k+j by omega))) (λq hq=>ht q (ApB _ hq)) q hq;rw[π];exact this.mono (by omega)
  intro p hp;rw[ArC,ApY]at hp;obtain⟨q,hq,rfl⟩:=hp;have:=key (r.map pv) [] 0 (by simp) (λq hq=>by
   rw[ApY]at hq;obtain⟨p,hp,rfl⟩:=hq;exact(hzr p hp).inb) q (by rw[hS];exact hq)
  rw[Api]at this;exact(this.lz).mono (by omega)
 have hSl:S.length<=1000000:=by
  have key:∀(t s:List (Int × Int)),(t.foldl CK s).length<=s.length+t.length:=by
   intro t
   induction t with
   |nil=>intro s;simp
   |cons p t ih=>
    intro s;have:=ih (CK s p);have h2:=Gu s p;rw[AqQ,π];omega
  have:=key (r.map pv) [];rw[hS,Api]at this;simp at this;omega
 obtain⟨cells,gd,gt,gle⟩:=W5 Ks (λp=>decide (zv p.z=0)) (S.map AO).reverse (by simp;omega) λp hp=>N4 Ks Z (hsb p hp)
 have hfin:((S.map AO).reverse).filter (λp=>!decide (zv p.z=0))=(A8 (ps.map pv)).map AO:=by
  rw[←hpl,←List.map_reverse,List.filter_map]
  congr 1
  refine List.filter_congr λq _=>?_
  show (!decide (zv (Az q.2)=0))=_
  rw[AU]
 rw[hfin]at gd gt gle;refine Kt.fn' X6 _ rfl ((e62 ..).trans ?_);refine Aa gc ?_;simp only[ND,DK,Ab];refine Aa gs ?_;simp only[ND,DK,Ab];refine Aa gk ?_;simp only[eZ,eN,ND,DK,Ab];rw[show Apa (0+ps.length*3) (Ai eP r).length=true from AJ Au r (by omega)];refine Ae ?_;rw[Bp Au r (by omega),←gr];refine Aa gl ?_;simp only[ND,DK,Ab];refine Aa gd ?_;simp only[ND,DK,Ab];rw[show Apa (0+((A8 (ps.map pv)).map AO).length*3) cells.length=true by simp;simp at gle;omega];refine Ae ?_;rw[gt,Co Au];rfl
end
end Go.Proofs.YtpncilciembjdaaGreatDoor
