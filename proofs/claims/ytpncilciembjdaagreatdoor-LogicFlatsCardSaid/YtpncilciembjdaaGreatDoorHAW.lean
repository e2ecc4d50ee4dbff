/- Sums of variables, each -/
import Derived.Test.YtpncilciembjdaaGreatDoorHAV
set_option linter.all false
open Bool renaming false->Φ,true->Δ,false_or->AyP
open Int renaming lt_trichotomy->Ayw,natAbs_natCast->Ayh,zero_add->AzQ
open List renaming append_assoc->Awd,append_nil->AwF,drop->Av8,drop_append->Ay0,drop_eq_getElem_cons->η,drop_eq_nil_of_le->Awb,drop_of_length_le->AyC,drop_zero->ο,filter_cons->Azu,findIdx_cons->Azq,flatten_cons->Axp,foldl_cons->AxY,getElem?_eq_getElem->ξ,getElem?_eq_none->Axw,getElem?_set_ne->Ayp,getElem?_set_self->Ay9,getElem_mem->Aws,length_append->ε,length_cons->γ,length_map->Awm,length_set->AwJ,length_singleton->Awp,length_take->Awo,map_cons->Awq,map_map->AxE,map_nil->Axb,mem_append->AwN,mem_cons->Awj,mem_cons_of_mem->Awk,mem_cons_self->Awi,mem_filter->AxJ,mem_map->AwV,mem_reverse->AyH,mem_singleton->AwX,nil_append->Awv,pairwise_cons->AwY,pairwise_map->Ayz,pairwise_singleton->Ayv,reverse_cons->AyA,singleton_append->AwO,take->κ,take_append->Ay2,take_left'->Ax0,take_of_length_le->Aw5
open Nat renaming add_mul->AwW,add_sub_cancel->AxA,ble->Awf,ble_eq_true_of_le->AxW,dvd_trans->AzO,dvd_zero->AzT,gcd->AxG,le_refl->π,le_trans->Awy,zero_add->Awt,zero_le->Awz
open Option renaming none->Ξ,some->Θ
namespace Go.Proofs.YtpncilciembjdaaGreatDoor
noncomputable section
open ABlk renaming mk->θ
open AV renaming agg->δ,ls->Ψ,ptr->χ,sl->υ,tup->Awe
open BO renaming set->Awn
open IntKind renaming i64->ω
open Key renaming fn->φ,lp->Awa
open Go.RowKit
def BE(v:Int):List (Int × Int)->Int
 |[]=>0
 |p::r=>(if p.1=v then p.2 else 0)+BE v r
theorem Fv{v:Int}:∀{l:List (Int × Int)},(∀ p∈l,p.1≠v)->BE v l=0
 |[],_=>rfl
 |p::r,h=>by
  rw[BE,Ad (h p (Awi ..)),Fv λq hq=>h q (Awk _ hq)];rfl
theorem Oh{v:Int}{a b:List (Int × Int)}(h:a.Perm b):BE v a=BE v b:=by
 induction h with
 |nil=>rfl
 |cons x _ ih=>rw[BE,BE,ih]
 |swap x y l=>rw[BE,BE,BE,BE];omega
 |trans _ _ ih1 ih2=>rw[ih1,ih2]
structure Pln (l:List (Int × Int)):Prop where
 asc:l.Pairwise λa b=>a.1<b.1
 pos:∀ p∈l,0<=p.1
 nz:∀ p∈l,p.2≠0
theorem YH:Pln []:=⟨.nil,by simp,by simp⟩
theorem Pln.tail{p:Int × Int}{r:List (Int × Int)}(h:Pln (p::r)):Pln r:=⟨(AwY.1 h.asc).2,λq hq=>h.pos q (Awk _ hq),λq hq=>h.nz q (Awk _ hq)⟩
theorem Pln.head{p:Int × Int}{r:List (Int × Int)}(h:Pln (p::r)):BE p.1 (p::r)=p.2:=by
 rw[BE,Ac rfl,Fv λq hq=>by have:=(AwY.1 h.asc).1 q hq;omega];omega
theorem Pln.below{p:Int × Int}{r:List (Int × Int)}(h:Pln (p::r)){v:Int}(hv:v<p.1):BE v (p::r)=0:=by
 refine Fv λq hq=>?_
 rcases Awj.1 hq with rfl|hq
 .omega
 .have:=(AwY.1 h.asc).1 q hq
  omega
theorem Pln.ext:∀{a b:List (Int × Int)},Pln a->Pln b->(∀ v,BE v a=BE v b)->a=b
 |[],[],_,_,_=>rfl
 |[],q::s,_,hb,h=>by
  have h1:=hb.head;rw[←h q.1]at h1;exact absurd h1.symm (hb.nz q (Awi ..))
 |p::r,[],ha,_,h=>by
  have h1:=ha.head;rw[h p.1]at h1;exact absurd h1.symm (ha.nz p (Awi ..))
 |p::r,q::s,ha,hb,h=>by
  have h1:=ha.head;have h2:=hb.head;have n1:=ha.nz p (Awi ..);have n2:=hb.nz q (Awi ..);have e:p.1=q.1:=by
   rcases Ayw p.1 q.1 with h3|h3|h3
   .rw[h p.1,hb.below h3]at h1
    exact absurd h1.symm n1
   .exact h3
   .rw[←h q.1,ha.below h3]at h2
    exact absurd h2.symm n2
  have e2:p.2=q.2:=by rw[←h1,←h2,h p.1,e]
  have ep:p=q:=Prod.ext e e2;rw[ep,Pln.ext ha.tail hb.tail λv=>by
   have:=h v;rw[BE,BE,ep]at this;omega]
def KT(v c:Int):List (Int × Int)->List (Int × Int)
 |[]=>if c=0 then [] else [(v,c)]
 |p::r=>if v<p.1 then(if c=0 then p::r else(v,c)::p::r) else if p.1<v then p::KT v c r else if p.2+c=0 then r else(v,p.2+c)::r
theorem LY(v c u:Int):∀ l:List (Int × Int),BE u (KT v c l)=(if v=u then c else 0)+BE u l
 |[]=>by
  grind [BE,KT]
 |p::r=>by
  have ih:=LY v c u r;unfold KT;split
  .split
   .rename_i h;rw[h];simp
   .rfl
  .grind [BE]
theorem Uw{v c:Int}:∀{l:List (Int × Int)} {q:Int × Int},q∈KT v c l->q.1=v\/q∈l
 |[],q,h=>by
  unfold KT at h;split at h
  .exact .inr h
  .grind
 |p::r,q,h=>by
  unfold KT at h;split at h
  .grind
  .split at h
   .rcases Awj.1 h with h|h
    .grind
    .rcases Uw h with h|h
     .exact .inl h
     .grind
   .grind
theorem Ux{v c:Int}(hv:0<=v):∀{l:List (Int × Int)},Pln l->Pln (KT v c l)
 |[],_=>by
  unfold KT;split
  .exact YH
  .rename_i h
   exact⟨Ayv _ _,by simpa using hv,by simpa using h⟩
 |p::r,h=>by
  have ih:=Ux (c:=c) hv h.tail;have hp:=AwY.1 h.asc;unfold KT;split
  .rename_i h1
   split
   .exact h
   .rename_i h2
    refine⟨AwY.2 ⟨λq hq=>?_,h.asc⟩,λq hq=>?_,λq hq=>?_⟩
    .grind
    .grind
    .rcases Awj.1 hq with rfl|hq
     .exact h2
     .exact h.nz q hq
  .split
   .rename_i h1 h2
    refine⟨AwY.2 ⟨λq hq=>?_,ih.asc⟩,λq hq=>?_,λq hq=>?_⟩
    .grind [Uw]
    .rcases Awj.1 hq with rfl|hq
     .exact h.pos _ (Awi ..)
     .exact ih.pos q hq
    .rcases Awj.1 hq with rfl|hq
     .exact h.nz _ (Awi ..)
     .exact ih.nz q hq
   .rename_i h1 h2
    split
    .exact h.tail
    .rename_i h3
     refine⟨AwY.2 ⟨λq hq=>?_,hp.2⟩,λq hq=>?_,λq hq=>?_⟩
     .grind
     .grind
     .rcases Awj.1 hq with rfl|hq
      .exact h3
      .exact h.tail.nz q hq
def BB:List (Int × Int)->List (Int × Int)
 |[]=>[]
 |p::r=>if 0<=p.1 then KT p.1 p.2 (BB r) else BB r
theorem DI:∀ l:List (Int × Int),Pln (BB l)
 |[]=>YH
 |p::r=>by
  unfold BB;split
  .rename_i h;exact Ux h (DI r)
  .exact DI r
theorem FH(v:Int):∀ l:List (Int × Int),BE v (BB l)=if 0<=v then BE v l else 0
 |[]=>by simp[BB,BE]
 |p::r=>by
  have ih:=FH v r;unfold BB
  by_cases h:0<=p.1
  .by_cases hv:0<=v
   .simp_all [BE,Ac,LY]
   .rw[Ac h,LY,ih,Ad hv,Ad hv,Ad (by omega)]
    rfl
  .grind [BE]
theorem K8{l r:List (Int × Int)}(h:Pln r)(hc:∀ v,0<=v->BE v r=BE v l):r=BB l:=by
 refine Pln.ext h (DI l) λv=>?_
 rw[FH]
 by_cases hv:0<=v
 .rw[Ac hv,hc v hv]
 .rw[Ad hv]
  refine Fv λp hp e=>?_
  have:=h.pos p hp;omega
theorem J4{l:List (Int × Int)}(h:Pln l):BB l=l:=(K8 h λ_ _=>rfl).symm
theorem GR:∀ l:List (Int × Int),(BB l).length<=l.length
 |[]=>π _
 |p::r=>by
  have ih:=GR r;have ins:∀ l:List (Int × Int),(KT p.1 p.2 l).length<=l.length+1:=λl=>by
   induction l with
   |nil=>unfold KT;split<;>simp
   |cons q s ih=>
    unfold KT;split
    .split<;>simp
    .grind
  unfold BB;split
  .grind
  .grind
section
variable {α:Type} (key:α->Int)
def kf(l:List α)(p:Nat):Int:=match l[p]? with
 |some x=>key x
 |none=>0
theorem Sq{l:List α}{p:Nat}(h:p<l.length):kf key l p=key l[p]:=by
 unfold kf;rw[ξ h]
def Gd(l:List α)(i j:Nat):List α:=match l[i]?,l[j]? with
 |some x,Θ y=>(l.set i y).set j x
 |_,_=>l
theorem PF{l:List α}{i j:Nat}(hi:i<l.length)(hj:j<l.length):Gd l i j=(l.set i l[j]).set j l[i]:=by
 unfold Gd;rw[ξ hi,ξ hj]
theorem AaD(l:List α)(i j:Nat):(Gd l i j).length=l.length:=by
 unfold Gd;split<;>simp
theorem X2{l:List α}{i j:Nat}(hi:i<l.length)(hj:j<l.length)(p:Nat):kf key (Gd l i j) p=if p=j then kf key l i else if p=i then kf key l j else kf key l p:=by
 rw[PF hi hj];unfold kf
 by_cases h1:p=j
 .subst h1
  rw[Ac rfl,Ay9 (by simpa using hj),ξ hi]
 .rw[Ad h1,Ayp (λe=>h1 e.symm)]
  by_cases h2:p=i
  .subst h2
   rw[Ac rfl,Ay9 hi,ξ hj]
  .rw[Ad h2,Ayp (λe=>h2 e.symm)]
theorem Xi(l:List α)(i j:Nat):(Gd l i j).Perm l:=by
 by_cases hi:i<l.length
 .by_cases hj:j<l.length
  .rw[PF hi hj]
   have:=Array.swap_perm (xs:=l.toArray) (i:=i) (j:=j) (by simpa using hi) (by simpa using hj);have h2:=this.toList;simpa[Array.swap]using h2
  .unfold Gd
   rw[Axw (show l.length<=j by omega)];split
   .rename_i h;cases h
   .exact List.Perm.refl _
 .unfold Gd
  rw[Axw (show l.length<=i by omega)]
theorem AaC{l:List α}{i j p:Nat}(h1:p≠i)(h2:p≠j):(Gd l i j)[p]? = l[p]?:=by
 unfold Gd;split
 .rw[Ayp (λe=>h2 e.symm),Ayp (λe=>h1 e.symm)]
 .rfl
def Srt(l:List α)(a b:Nat):Prop:=∀ p q,a<=p->p<q->q<b->kf key l p<=kf key l q
def Y7(l:List α)(a i j:Nat):Prop:=∀ p q,a<=p->p<q->q<=i->q≠j->kf key l p<=kf key l q
def Same0(l r:List α)(a b:Nat):Prop:=∀ p,(p<a\/b<=p)->r[p]? = l[p]?
theorem Hr(l:List α)(a b:Nat):Same0 l l a b:=λ_ _=>rfl
theorem Same0.trans{l r s:List α}{a b:Nat}(h1:Same0 l r a b)(h2:Same0 r s a b):Same0 l s a b:=λp hp=>(h2 p hp).trans (h1 p hp)
theorem Same0.wide{l r:List α}{a b c d:Nat}(h1:Same0 l r a b)(hc:c<=a)(hd:b<=d):Same0 l r c d:=λp hp=>h1 p (by omega)
theorem Same0.kf{l r:List α}{a b p:Nat}(h:Same0 l r a b)(hp:p<a\/b<=p):kf key r p=kf key l p:=by
 unfold Go.Proofs.YtpncilciembjdaaGreatDoor.kf;rw[h p hp]
theorem AaE{l:List α}{i j a b:Nat}(h1:a<=i)(h2:i<b)(h3:a<=j)(h4:j<b):Same0 l (Gd l i j) a b:=λp hp=>AaC (by omega) (by omega)
theorem AaB{l:List α}{a i j:Nat}(hi:i<l.length)(ha:a<j)(hj:j<=i)(h:Y7 key l a i j)(hlt:kf key l j<kf key l (j-1)):Y7 key (Gd l j (j-1)) a i (j-1):=by
 intro p q h1 h2 h3 h4;rw[X2 key (by omega) (by omega),X2 key (by omega) (by omega)]
 by_cases q1:q=j
 .subst q1
  rw[Ad (show ¬ q=q-1 by omega),Ac rfl]
  by_cases p1:p=q-1
  .rw[Ac p1];omega
  .rw[Ad p1,Ad (by omega)]
   exact h p (q-1) h1 (by omega) (by omega) (by omega)
 .rw[Ad h4,Ad q1]
  by_cases p1:p=j-1
  .rw[Ac p1]
   exact h j q (by omega) (by omega) h3 q1
  .rw[Ad p1]
   by_cases p2:p=j
   .rw[Ac p2]
    exact h (j-1) q (by omega) (by omega) h3 q1
   .rw[Ad p2]
    exact h p q h1 h2 h3 q1
theorem Vc{l:List α}{a i j:Nat}(hj:j<=i)(h:Y7 key l a i j)(he:j=a\/kf key l (j-1)<=kf key l j):Srt key l a (i+1):=by
 intro p q h1 h2 h3
 by_cases hq:q=j
 .subst hq
  rcases he with he|he
  .omega
  .by_cases hp:p=q-1
   .rw[hp];exact he
   .have:=h p (q-1) h1 (by omega) (by omega) (by omega)
    omega
 .exact h p q h1 h2 (by omega) hq
theorem Xf{l:List α}{a i:Nat}(h:Srt key l a i):Y7 key l a i i:=λp q h1 h2 h3 h4=>h p q h1 h2 (by omega)
theorem Hu{l:List α}(h:Srt key l 0 l.length):l.Pairwise λx y=>key x<=key y:=by
 rw[List.pairwise_iff_getElem];intro i j hi hj hij;have:=h i j (by omega) hij hj
 rwa [Sq key hi,Sq key hj]at this
theorem Akw(l:List α)(a:Nat):Srt key l a (a+1):=λp q h1 h2 h3=>by omega
theorem Akv(l:List α)(a:Nat):Srt key l a a:=λp q h1 h2 h3=>by omega
end
structure Pt where
 v:Int
 z:Zi
def eP(p:Pt):Ab:=[iv p.v,bv p.z.neg,eN p.z.abs]
theorem AU(p:Pt):(eP p).length=3:=rfl
section
variable {α:Type} {e:α->Ab} {w:Nat} (he:∀ x,(e x).length=w)
include he
theorem YS(l:List α):∀(i:Nat) (h:i<l.length),(Ao e l).drop (i*w)=e l[i]++(Ao e l).drop (i*w+w):=by
 induction l with
 |nil=>intro i h;cases h
 |cons x r ih=>
  intro i h;have hx:=he x
  cases i with
  |zero=>
   rw[Nat.zero_mul,ο,Awt]
   show e x++Ao e r=e x++(e x++Ao e r).drop w
   rw[←hx,List.drop_left]
  |succ i=>
   have:=ih i (by simpa using h);have e1:∀ n,(Ao e (x::r)).drop (w+n)=(Ao e r).drop n:=λn=>by
    show (e x++Ao e r).drop (w+n)=_
    rw[←hx,Ay0];simp
   rw[show (i+1)*w=w+i*w by rw[AwW];omega,e1,this,show w+i*w+w=w+(i*w+w) by omega,e1];rfl
theorem EA(l:List α)(i:Nat)(h:i<l.length)(k:Ab->KR):Ia (Ao e l) (0+i*w) w k=k (e l[i]):=by
 have hw:i*w+w<=l.length*w:=by
  rw[←Nat.succ_mul];exact Nat.mul_le_mul_right w h
 unfold Ia;have:Awf (0+i*w+w) (Ao e l).length=Δ:=by rw[BC he];simp;omega
 rw[this]
 show k (((Ao e l).drop (0+i*w)).take w)=_
 rw[Awt,YS he l i h,Ax0 (he _)]
theorem Ke(l:List α)(i:Nat)(h:i<l.length)(x:α):Bp (Ao e l) (0+i*w) (e x)=Ao e (l.set i x):=by
 unfold Bp;rw[he x,Awt];have e1:=YS he l i h;have e2:∀(l:List α) (i:Nat),i<=l.length->(Ao e l).take (i*w)=Ao e (l.take i):=λl=>by
  induction l with
  |nil=>intro i _;simp[Ao]
  |cons y r ih=>
   intro i hi
   cases i with
   |zero=>simp[Ao]
   |succ i=>
    rw[show (i+1)*w=w+i*w by rw[AwW];omega]
    show (e y++Ao e r).take (w+i*w)=e y++Ao e (r.take i)
    rw[←he y,Ay2,Aw5 (by omega),show (e y).length+i*(e y).length-(e y).length=i*(e y).length by omega,he y,ih i (by simpa using hi)]
 have e3:∀(l:List α) (i:Nat),i<=l.length->(Ao e l).drop (i*w)=Ao e (l.drop i):=λl=>by
  induction l with
  |nil=>intro i _;simp[Ao]
  |cons y r ih=>
   intro i hi
   cases i with
   |zero=>simp[Ao]
   |succ i=>
    rw[show (i+1)*w=w+i*w by rw[AwW];omega]
    show (e y++Ao e r).drop (w+i*w)=Ao e (r.drop i)
    rw[←he y,Ay0,AyC (by omega),show (e y).length+i*(e y).length-(e y).length=i*(e y).length by omega,he y,ih i (by simpa using hi),Awv]
 rw[e2 l i (by omega),show i*w+w=(i+1)*w by rw[AwW];omega,e3 l (i+1) (by omega),List.set_eq_take_append_cons_drop,Ac h];simp[Ao]
end
theorem XF{a b:Int}:FS a b<0 ↔ a<b:=by
 unfold FS;split
 .omega
 .split<;>omega
theorem Rl{j:Nat}(h:j<4611686018427387904):Ap.sub .i64 ((j+1:Nat):Int) 1=(j:Int):=by
 rw[DZ (by omega) (by omega)];omega
theorem Co{a b:Nat}(h:a<b):Nat.blt a b=Δ:=by simpa using h
section
variable {D:Orc} (K:Knows Au M2 D)
include K
theorem Uz(x:Int):D.ask (.fn 157) [iv x] []=Θ (bv Φ,[]):=by
 refine AC K AlH (Atp ..) ?_;exact AG rfl rfl
theorem XD(x y:Int):D.ask (.fn 84) [iv x,iv y] []=Θ (iv (FS x y),[]):=by
 refine AC K AqV (e84 ..) ?_;refine Aa (Uz K x) ?_;simp only[Aj];refine Aa (Uz K y) ?_;simp only[Aj];unfold FS
 by_cases h:x<y
 .rw[Ac h]
  exact AB rfl h
 .rw[Ad h]
  refine AA ?_ h
  by_cases h2:y<x
  .rw[Ac h2]
   exact AB rfl h2
  .rw[Ad h2]
   exact AA rfl h2
theorem Abp(p q:Pt):D.ask (.fn 137) [.agg (eP p),.agg (eP q)] []=Θ (iv (FS p.v q.v),[]):=by
 refine AC K Alt (As7 ..) ?_;refine Aa (XD K p.v q.v) ?_;rfl
def TU:AV:=.fn (.func 137) [] []
theorem AnX(a i:Nat)(b:Int):∀(m j:Nat) (l:List Pt),j-a=m->a<=j->j<=i->i<l.length->l.length<=1000000000->Y7 Pt.v l a i j->
  ∃ r:List Pt,D.ask (.lp 234 1) [.sl 0 0 l.length 3,iv (a:Int),iv b,TU,iv (i:Int),iv (j:Int)] [θ (Ao eP l) Δ Δ]
   = Θ (.tup [iv 2,.sl 0 0 l.length 3,iv (a:Int),iv b,TU,iv (i:Int)],[.set (θ (Ao eP r) Δ Δ)])
   ∧ r.length=l.length/\r.Perm l/\Srt Pt.v r a (i+1)/\Same0 l r a (i+1):=by
 intro m
 induction m with
 |zero=>
  intro j l hm ha hj hi hl hs;obtain rfl:j=a:=by omega
  refine⟨l,?_,rfl,List.Perm.refl _,Vc Pt.v hj hs (.inl rfl),Hr _ _ _⟩;refine AE K Iu (V6 ..) ?_;exact AA rfl
 |succ m ih=>
  intro j l hm ha hj hi hl hs;obtain⟨k,rfl⟩:∃ k,j=k+1:=⟨j-1,by omega⟩;have h1:k+1<l.length:=by omega
  have h0:k<l.length:=by omega
  have kf1:kf Pt.v l (k+1)=l[k+1].v:=Sq Pt.v h1;have kf0:kf Pt.v l k=l[k].v:=Sq Pt.v h0
  by_cases hlt:l[k+1].v<l[k].v
  .have hs2:Y7 Pt.v (Gd l (k+1) k) a i k:=AaB (j:=k+1) Pt.v hi (by omega) hj hs (by rw[AxA,kf1,kf0];exact hlt)
   have hlen:=AaD l (k+1) k;obtain⟨r,g,hr,hp,ho,hsm⟩:=ih k (Gd l (k+1) k) (by omega) (by omega) (by omega) (by omega) (by omega) hs2;rw[hlen]at g hr;refine⟨r,?_,hr,hp.trans (Xi _ _ _),ho,(AaE (by omega) (by omega) (by omega) (by omega)).trans hsm⟩;refine AE K Iu (V6 ..) ?_;refine AB ?_;rw[Rl (by omega),AI,Co h1];refine Ah ?_;refine(EA AU l (k+1) h1 _).trans ?_;simp only[eP,eN,Aj];rw[AI,Co h0];refine Ah ?_;refine(EA AU l k h0 _).trans ?_;simp only[eP,eN,Aj];refine Aa (Abp K l[k+1] l[k]) ?_;simp only[Aj];refine AB ?_ (XF.2 hlt);rw[AI,Co h0];refine Ah ?_;refine(EA AU l k h0 _).trans ?_;simp only[eP,eN,Aj];rw[AI,Co h1];refine Ah ?_;refine(EA AU l (k+1) h1 _).trans ?_;simp only[eP,eN,Aj];rw[AI,Co h1];refine Ah ?_;have s1:=Ke AU l (k+1) h1 l[k];have s2:=Ke AU (l.set (k+1) l[k]) k (by rw[AwJ];exact h0) l[k+1];rw[←PF h1 h0]at s2;simp only[eP,eN]at s1 s2;rw[show Awf (0+(k+1)*3+3) (Ao eP l).length=Δ by rw[BC AU];simp;omega];refine Ah ?_;rw[AI,Co h0];refine Ah ?_;rw[s1,s2];rw[show Awf (0+k*3+3) (Ao eP (l.set (k+1) l[k])).length=Δ by rw[BC AU,AwJ];simp;omega];refine Ah ?_;refine Aa g ?_;rfl
  .refine⟨l,?_,rfl,List.Perm.refl _,Vc Pt.v hj hs (.inr ?_),Hr _ _ _⟩
   .skip
    refine AE K Iu (V6 ..) ?_;refine AB ?_;rw[Rl (by omega),AI,Co h1];refine Ah ?_;refine(EA AU l (k+1) h1 _).trans ?_;simp only[eP,eN,Aj];rw[AI,Co h0];refine Ah ?_;refine(EA AU l k h0 _).trans ?_;simp only[eP,eN,Aj];refine Aa (Abp K l[k+1] l[k]) ?_;simp only[Aj];exact AA rfl (λh=>hlt (XF.1 h))
   .rw[AxA,kf1,kf0]
    omega
theorem Af4(a b:Nat):∀(m i:Nat) (l:List Pt),b-i=m->a<i->i<=b->b<=l.length->l.length<=1000000000->Srt Pt.v l a i->
  ∃ r:List Pt,D.ask (.lp 234 0) [.sl 0 0 l.length 3,iv (a:Int),iv (b:Int),TU,iv (i:Int)] [θ (Ao eP l) Δ Δ]
   = Θ (.tup [iv 0,.sl 0 0 l.length 3],[.set (θ (Ao eP r) Δ Δ)])
   ∧ r.length=l.length/\r.Perm l/\Srt Pt.v r a b/\Same0 l r a b:=by
 intro m
 induction m with
 |zero=>
  intro i l hm ha hi hb hl hs;obtain rfl:i=b:=by omega
  refine⟨l,?_,rfl,List.Perm.refl _,hs,Hr _ _ _⟩;refine AE K Iu (V5 ..) ?_;exact AA rfl
 |succ m ih=>
  intro i l hm ha hi hb hl hs;obtain⟨r,g,hr,hp,ho,hsm⟩:=AnX K a i (b:Int) _ i l rfl (by omega) (π _) (by omega) hl (Xf Pt.v hs);obtain⟨r2,g2,hr2,hp2,ho2,hsm2⟩:=ih (i+1) r (by omega) (by omega) (by omega) (by omega) (by omega) ho;rw[hr]at g2;refine⟨r2,?_,by omega,hp2.trans hp,ho2,(hsm.wide (π _) (by omega)).trans hsm2⟩;refine AE K Iu (V5 ..) ?_;refine AB ?_;refine Aa g ?_;simp only[TU,Aj];refine Ah ?_;rw[BU (by omega)];refine Aa g2 ?_;rfl
theorem AcV{a b:Nat}{l:List Pt}(hab:a<=b)(hb:b<=l.length)(hl:l.length<=1000000000) :
  ∃ r:List Pt,D.ask (.fn 234) [.sl 0 0 l.length 3,iv (a:Int),iv (b:Int),TU] [θ (Ao eP l) Δ Δ]=Θ (.tup [],[.set (θ (Ao eP r) Δ Δ)])
   ∧ r.length=l.length/\r.Perm l/\Srt Pt.v r a b/\Same0 l r a b:=by
 by_cases h:a<b
 .obtain⟨r,g,hr⟩:=Af4 K a b _ (a+1) l rfl (by omega) (by omega) hb hl (Akw Pt.v l a)
  refine⟨r,?_,hr⟩;refine AC K Iu (Aqa ..) ?_;rw[BU (by omega)];refine Aa g ?_;rfl
 .obtain rfl:a=b:=by omega
  have g:D.ask (.lp 234 0) [.sl 0 0 l.length 3,iv (a:Int),iv (a:Int),TU,iv ((a+1:Nat):Int)] [θ (Ao eP l) Δ Δ]=Θ (.tup [iv 0,.sl 0 0 l.length 3],[.set (θ (Ao eP l) Δ Δ)]):=by
   refine AE K Iu (V5 ..) ?_;exact AA rfl
  refine⟨l,?_,rfl,List.Perm.refl _,Akv Pt.v l a,Hr _ _ _⟩;refine AC K Iu (Aqa ..) ?_;rw[BU (by omega)];refine Aa g ?_;rfl
end
structure Tm where
 ps:List Pt
 k:Zi
def eT(t:Tm):Ab:=[.ls (t.ps.map eP),bv t.k.neg,eN t.k.abs]
structure Lf where
 ps:List (Int × Int)
 k:Int
def pv(p:Pt):Int × Int:=(p.v,zv p.z)
def Bg(p:Int × Int):Pt:=⟨p.1,AQ p.2⟩
def Tm.lf(t:Tm):Lf:=⟨t.ps.map pv,zv t.k⟩
def Lf.tm(l:Lf):Tm:=⟨l.ps.map Bg,AQ l.k⟩
def Lf.pln(l:Lf):Lf:=⟨BB l.ps,l.k⟩
theorem Aj3(p:Int × Int):pv (Bg p)=p:=by
 unfold pv Bg;rw[Bm]
theorem Ek(l:Lf):l.tm.lf=l:=by
 obtain⟨ps,k⟩:=l;unfold Lf.tm Tm.lf;simp only[AxE,Bm];rw[show (pv ∘ Bg)=id from funext Aj3,List.map_id]
theorem SN(l:Lf):l.pln.pln=l.pln:=by
 unfold Lf.pln;rw[J4 (DI _)]
structure TmB (n k:Nat) (t:Tm):Prop where
 len:t.ps.length<=n
 ps:∀ p∈t.ps,Lz k p.z
 k:Lz k t.k
structure LB (n k:Nat) (l:Lf):Prop where
 len:l.ps.length<=n
 ps:∀ p∈l.ps,InB k p.2
 k:InB k l.k
theorem TmB.lb{n k:Nat}{t:Tm}(h:TmB n k t):LB n k t.lf:=by
 refine⟨by simpa[Tm.lf]using h.len,λp hp=>?_,h.k.inb⟩;simp only[Tm.lf,AwV]at hp;obtain⟨q,hq,rfl⟩:=hp;exact(h.ps q hq).inb
theorem LB.tb{n k:Nat}{l:Lf}(h:LB n k l):TmB n k l.tm:=by
 refine⟨by simpa[Lf.tm]using h.len,λp hp=>?_,h.k.lz⟩;simp only[Lf.tm,AwV]at hp;obtain⟨q,hq,rfl⟩:=hp;exact(h.ps q hq).lz
theorem LB.mono{n k m j:Nat}{l:Lf}(h:LB n k l)(hn:n<=m)(hk:k<=j):LB m j l:=⟨by have:=h.len;omega,λp hp=>(h.ps p hp).mono hk,h.k.mono hk⟩
theorem TmB.mono{n k m j:Nat}{t:Tm}(h:TmB n k t)(hn:n<=m)(hk:k<=j):TmB m j t:=⟨by have:=h.len;omega,λp hp=>(h.ps p hp).mono hk,h.k.mono hk⟩
theorem I1{k:Nat}(v:Int):∀ l:List (Int × Int),(∀ p∈l,InB k p.2)->InB (k+l.length) (BE v l)
 |[],_=>InB.zero _
 |p::r,h=>by
  have h1:=I1 v r λq hq=>h q (Awk _ hq)
  have h2:=h p (Awi ..);rw[BE,γ,←Nat.add_assoc];refine InB.add ?_ h1;split
  .exact h2.mono (by omega)
  .exact InB.zero _
theorem Pln.mem:∀{l:List (Int × Int)},Pln l->∀ p∈l,BE p.1 l=p.2
 |q::r,h,p,hp=>by
  rcases Awj.1 hp with rfl|hp
  .exact h.head
  .rw[BE,Ad (by have:=(AwY.1 h.asc).1 p hp;omega),h.tail.mem p hp]
   omega
theorem LB.pln{n k:Nat}{l:Lf}(h:LB n k l):LB n (k+n) l.pln:=by
 have hl:=GR l.ps;refine⟨by have:=h.len;simp only[Lf.pln];omega,λp hp=>?_,h.k.mono (by omega)⟩;have h1:=(DI l.ps).mem p hp;rw[FH,Ac ((DI l.ps).pos p hp)]at h1;rw[←h1];exact(I1 p.1 l.ps h.ps).mono (by have:=h.len;omega)
def Lf.add(a b:Lf):Lf:=Lf.pln ⟨a.ps++b.ps,a.k+b.k⟩
def Lf.scale(a:Lf)(n:Int):Lf:=Lf.pln ⟨a.ps.map λp=>(p.1,p.2*n),a.k*n⟩
def Lf.sub(a b:Lf):Lf:=a.add (b.scale (-1))
def Lf.num(k:Int):Lf:=⟨[],k⟩
theorem LB.app{n k m j:Nat}{a b:Lf}(ha:LB n k a)(hb:LB m j b):LB (n+m) (k+j+1) ⟨a.ps++b.ps,a.k+b.k⟩:=by
 refine⟨by have:=ha.len;have:=hb.len;simp only[ε];omega,λp hp=>?_,InB.add (ha.k.mono (by omega)) (hb.k.mono (by omega))⟩;rcases AwN.1 hp with h|h
 .exact(ha.ps p h).mono (by omega)
 .exact(hb.ps p h).mono (by omega)
theorem LB.mul{n k j:Nat}{a:Lf}{x:Int}(ha:LB n k a)(hx:InB j x):LB n (k+j) ⟨a.ps.map λp=>(p.1,p.2*x),a.k*x⟩:=by
 refine⟨by simpa using ha.len,λp hp=>?_,InB.mul ha.k hx⟩;simp only[AwV]at hp;obtain⟨q,hq,rfl⟩:=hp;exact InB.mul (ha.ps q hq) hx
theorem LB.add{n k m j:Nat}{a b:Lf}(ha:LB n k a)(hb:LB m j b):LB (n+m) (k+j+1+(n+m)) (a.add b):=(ha.app hb).pln
theorem LB.scale{n k j:Nat}{a:Lf}{x:Int}(ha:LB n k a)(hx:InB j x):LB n (k+j+n) (a.scale x):=(ha.mul hx).pln
def Asn(f:Int->Int):List (Int × Int)->Int
 |[]=>0
 |p::r=>p.2*f p.1+Asn f r
def Lf.val(f:Int->Int)(l:Lf):Int:=Asn f l.ps+l.k
section
open Go.RowKit
def Agq:MFn:=AN [⟨21,(mB 3596),[],[2,3],[(1,((mB 12),([],[])))]⟩] 67
def AcM:Hnt:=⟨[(62,(.agg BJ,[])),(147,(.agg AL,[]))],[(0,[(1,([.ptr 0 0,.ptr 1 0],[.box AL,.box AL]))])],[(7,BJ),(13,Cj),(14,Cj),(15,AL),(17,AL),(20,AL)]⟩
def Y2:List (Nat × MFn):=[(67,Agq)]
variable (A:Ar) (D:Orc)
theorem e67(x0_0:Rw)(x0_1:Bool)(x0_2:Rw):B3 A D Au AcM .n 67 Agq [δ [Ψ x0_0,bv x0_1,Ψ x0_2]] [] =
 Ai D (φ 62) [δ [Ψ x0_0,bv x0_1,Ψ x0_2]] [] [.a,.L,.B,.L,.N,.E] λxs _ _=>
 Ai D (Awa 67 0) [χ 0 0,χ 1 0,Ψ xs,iv ↑(AT xs),iv 0] [bk [bv Φ,Ψ []],bk [bv Φ,Ψ []]] [.t,.C,.x,.X,.Y] λc l3 o1=>
 br (BA 1 c)
 (dk [.P 0 0,.P 1 0,.N,.T,.B,.L,.N,.T,.B,.L,.N,.E] [.l l3,.o o1] λ_ _ b2 xs3=>
 Θ ((δ [bv b2,Ψ xs3],[])))
 (Ξ):=by kernel_rfl
theorem Ak3(b2_0:Bool)(b2_1:Rw)(b3_0:Bool)(b3_1 t9:Rw)(t10 t11:Int):Dc A D Au AcM .n 67 0 (A1 Agq 0).fst (A1 Agq 0).snd [χ 0 0,χ 1 0,Ψ t9,iv t10,iv t11] [bk [bv b2_0,Ψ b2_1],bk [bv b3_0,Ψ b3_1]] =
 br (A.lt t11 t10)
 (unI t11 λi=>
 Bw t9 i λcs=>
 dk [.I,.B,.L,.N] [.l cs] λn b xs=>
 Ai D (φ 147) [δ [bv b3_0,Ψ b3_1],δ [bv b,Ψ xs]] [] [.a,.B,.L,.N,.E] λb1 xs1=>
 AW D (Awa 67 0) [χ 0 0,χ 1 0,Ψ t9,iv t10,iv (A.add ω t11 1)] [bk [bv b2_0,Ψ b2_1],bk [bv b1,Ψ xs1]] λr1 o1=>
 AS 2 [0,1] (AH.mk [(1,bk [bv b1,Ψ xs1]),(0,bk [bv b2_0,Ψ b2_1]),(2,bk [iv n,bv b,Ψ xs])] 3 Ξ) [0,1] r1 o1)
 (Θ ((Awe [iv 0,χ 0 0,χ 1 0],[Awn (bk [bv b2_0,Ψ b2_1]),Awn (bk [bv b3_0,Ψ b3_1])]))):=by kernel_rfl
end
structure ZdF (D:Orc):Prop where
 div:∀ a b:Zi,Lz 800000000 a->Lz 800000000 b->D.ask (.fn 66) [.agg (eZ a),.agg (eZ b)] []
  = Θ (if zv b=0 then .tup [.agg [bv Φ,.ls []],.agg [bv Φ,.ls []],iv 10] else .tup [.agg (eZ (AQ (qZ (zv a) (zv b)))),.agg (eZ (AQ (rZ (zv a) (zv b)))),iv 0],[])
 exact:∀ a b:Zi,Lz 800000000 a->Lz 800000000 b->D.ask (.fn 143) [.agg (eZ a),.agg (eZ b)] []
  = Θ (if zv b=0 then .tup [.agg [bv Φ,.ls []],iv 10] else if rZ (zv a) (zv b)=0 then .tup [.agg (eZ (AQ (qZ (zv a) (zv b)))),iv 0] else .tup [.agg [bv Φ,.ls []],iv 1],[])
 gcd:∀ a b:Zi,Lz 900000000 a->Lz 900000000 b->D.ask (.fn 147) [.agg (eZ a),.agg (eZ b)] []=Θ (.agg (eZ (AQ (AxG (zv a).natAbs (zv b).natAbs:Nat))),[])
theorem AmU{D:Orc}(K:Knows Au Jy D)(Z:Knows Au M3 D)(C:CloneF D)(G:Knows Au Rn D)(V:DivF D):ZdF D:=⟨λ_ _ ha hb=>Y4 K Z C G V ha hb,λ_ _ ha hb=>AaW K Z C G V ha hb,λ_ _ ha hb=>AkS K Z C G V ha hb⟩
def P4(g:Nat)(l:List (Int × Int)):Nat:=l.foldl (λg p=>AxG g p.2.natAbs) g
theorem Nw{k g:Nat}{x:Int}(hg:InB k (g:Int))(hx:InB k x):InB k ((AxG g x.natAbs:Nat):Int):=by
 unfold InB at *;rw[Ayh]at *;rcases Nat.eq_zero_or_pos g with h|h
 .rw[h,Nat.gcd_zero_left]
  exact hx
 .have:=Nat.gcd_le_left x.natAbs h
  omega
theorem Ov{k:Nat}:∀(l:List (Int × Int)) (g:Nat),InB k (g:Int)->(∀ p∈l,InB k p.2)->InB k (P4 g l:Int)
 |[],_,h,_=>h
 |p::r,g,h,hl=>Ov r _ (Nw h (hl p (Awi ..))) λq hq=>hl q (Awk _ hq)
theorem Ou:∀(l:List (Int × Int)) (g:Nat),P4 g l ∣ g/\∀ p∈l,P4 g l ∣ p.2.natAbs
 |[],g=>⟨Nat.dvd_refl _,λ_ h=>by cases h⟩
 |p::r,g=>by
  obtain⟨h1,h2⟩:=Ou r (AxG g p.2.natAbs);refine⟨AzO h1 (Nat.gcd_dvd_left ..),λq hq=>?_⟩;rcases Awj.1 hq with rfl|h
  .exact AzO h1 (Nat.gcd_dvd_right ..)
  .exact h2 q h
section
variable {D:Orc} (T:Knows Au Y2 D) (W:ZdF D)
include T W
theorem Ant(l:List (Int × Int))(hlen:l.length<=4000000)(hl:∀ p∈l,InB 800000000 p.2):∀(m i g:Nat),l.length-i=m->i<=l.length->InB 800000000 (g:Int)->
  D.ask (.lp 67 0) [.ptr 0 0,.ptr 1 0,.ls (l.map λp=>eP (Bg p)),iv (l.length:Int),iv (i:Int)] [bk [bv Φ,.ls []],bk (eZ (AQ (g:Int)))]
   = Θ (.tup [iv 0,.ptr 0 0,.ptr 1 0],[.set (bk [bv Φ,.ls []]),.set (bk (eZ (AQ (P4 g (l.drop i):Int))))]):=by
 intro m
 induction m with
 |zero=>
  intro i g hm hi hg;rw[Awb (by omega)];refine AE T AcM (Ak3 ..) ?_;exact AA rfl
 |succ m ih=>
  intro i g hm hi hg;have h1:i<l.length:=by omega
  have hx:=hl _ (Aws h1);rw[η h1];have ga:=W.gcd (AQ (g:Int)) (AQ l[i].2) (hg.lz.mono (by omega)) (hx.lz.mono (by omega));rw[Bm,Bm,Ayh]at ga;have ih1:=ih (i+1) (AxG g l[i].2.natAbs) (by omega) (by omega) (Nw hg hx);refine AE T AcM (Ak3 ..) ?_;refine AB ?_;rw[AI,Az (f:=λp=>eP (Bg p)) (ξ h1)];simp only[eP,Bg,eN,Aj];refine Aa ga ?_;simp only[eZ,eN,Aj];rw[BU (by omega)];refine Aa ih1 ?_;rfl
theorem VV{t:Tm}{l:List (Int × Int)}{k:Zi}(hp:D.ask (.fn 62) [.agg (eT t)] []=Θ (.agg [.ls (l.map λp=>eP (Bg p)),bv k.neg,eN k.abs],[]))(hlen:l.length<=4000000)(hl:∀ p∈l,InB 800000000 p.2) :
  D.ask (.fn 67) [.agg (eT t)] []=Θ (.agg (eZ (AQ (P4 0 l:Int))),[]):=by
 have g:=Ant T W l hlen hl _ 0 0 rfl (by omega) (InB.zero _);rw[ο,show AQ ((0:Nat):Int)=⟨Φ,[]⟩ from PS,show eZ ⟨Φ,[]⟩=[bv Φ,.ls []] from rfl]at g;refine AC T AcM (e67 ..) ?_;refine Aa hp ?_;simp only[eZ,eN,Al,Aj];refine Aa g ?_;rfl
end
def Iy(v:Int):Bool->List Int->List Int × Bool
 |d,[]=>([],d)
 |d,x::r=>((if !d&&decide (v<=x) then [v] else [])++((if x=v then [] else [x])++(Iy v (d||decide (v<=x)) r).1),(Iy v (d||decide (v<=x)) r).2)
def JW(v:Int)(l:List Int):List Int:=(Iy v Φ l).1++(if(Iy v Φ l).2 then [] else [v])
theorem LX(v:Int):∀ l:List Int,(∀ x∈l,v<x)->Iy v Δ l=(l,Δ)
 |[],_=>rfl
 |x::r,h=>by
  have h1:=h x Awi;rw[Iy,Bool.true_or,LX v r λy hy=>h y (Awk _ hy),Ad (show ¬ x=v by omega)];rfl
theorem Uy(v:Int):JW v []=[v]:=rfl
theorem Sn{v x:Int}{r:List Int}(h:v<x)(hr:∀ y∈r,x<y):JW v (x::r)=v::x::r:=by
 unfold JW;rw[Iy,BT (by omega:v<=x),AyP,LX v r λy hy=>by have:=hr y hy;omega,Ad (show ¬ x=v by omega)];simp
theorem Sl{v:Int}{r:List Int}(hr:∀ y∈r,v<y):JW v (v::r)=v::r:=by
 unfold JW;rw[Iy,BT (Int.le_refl v),AyP,LX v r hr,Ac rfl];simp
theorem Sm{v x:Int}{r:List Int}(h:x<v):JW v (x::r)=x::JW v r:=by
 grind [Iy,JW]
def Asc(l:List Int):Prop:=l.Pairwise (· < ·)
theorem OX(v:Int):∀{l:List Int},Asc l->∀ y,y∈JW v l ↔ y=v\/y∈l
 |[],_,y=>by rw[Uy];simp
 |x::r,h,y=>by
  have h1:=AwY.1 h;have ih:=OX v h1.2 y;rcases Ayw v x with hv|hv|hv
  .grind [Sn]
  .grind [Sl]
  .simp_all [Awj,Sm,or_left_comm]
theorem Iz(v:Int):∀{l:List Int},Asc l->Asc (JW v l)
 |[],_=>by rw[Uy];exact Ayv _ _
 |x::r,h=>by
  have h1:=AwY.1 h;rcases Ayw v x with hv|hv|hv
  .rw[Sn hv h1.1]
   refine AwY.2 ⟨λy hy=>?_,h⟩;rcases Awj.1 hy with rfl|hy
   .exact hv
   .have:=h1.1 y hy;omega
  .grind [Sl]
  .rw[Sm hv]
   refine AwY.2 ⟨λy hy=>?_,Iz v h1.2⟩;rcases (OX v h1.2 y).1 hy with rfl|hy
   .exact hv
   .exact h1.1 y hy
theorem Uv(v:Int):∀(d:Bool) (l:List Int),(Iy v d l).1.length<=2*l.length
 |_,[]=>π _
 |d,x::r=>by
  have:=Uv v (d||decide (v<=x)) r;rw[Iy,ε,ε,γ];have h1:(if(!d&&decide (v<=x))=Δ then [v] else []).length<=1:=by split<;>simp
  have h2:(if x=v then [] else [x]).length<=1:=by split<;>simp
  omega
theorem OW(v:Int):∀{l:List Int},Asc l->(JW v l).length<=l.length+1
 |[],_=>π _
 |x::r,h=>by
  have h1:=AwY.1 h;have ih:=OW v h1.2;rcases Ayw v x with hv|hv|hv
  .grind [Sn]
  .grind [Sl]
  .grind [γ,Sm]
def G5(f:Int->Int):List Int->List Int->List Int
 |out,[]=>out
 |out,v::r=>G5 f (if f v=0 then out else JW v out) r
theorem RG(f:Int->Int):∀(l:List Int) {out:List Int},Asc out->Asc (G5 f out l)
 |[],_,h=>h
 |v::r,out,h=>by
  rw[G5];refine RG f r ?_;split
  .exact h
  .exact Iz v h
theorem Mv(f:Int->Int)(y:Int):∀(l:List Int) {out:List Int},Asc out->(y∈G5 f out l ↔ y∈out\/(y∈l/\f y≠0))
 |[],out,_=>by rw[G5];simp
 |v::r,out,h=>by
  rw[G5]
  by_cases hv:f v=0
  .rw[Ac hv,Mv f y r h,Awj]
   constructor
   .grind
   .grind
  .rw[Ad hv,Mv f y r (Iz v h),OX v h,Awj]
   constructor
   .grind
   .grind
theorem Mt(f:Int->Int):∀(l:List Int) {out:List Int},Asc out->(G5 f out l).length<=out.length+l.length
 |[],out,_=>by rw[G5];simp
 |v::r,out,h=>by
  rw[G5,γ]
  by_cases hv:f v=0
  .rw[Ac hv]
   have:=Mt f r h;omega
  .rw[Ad hv]
   have:=Mt f r (Iz v h);have:=OW v h;omega
def C9(ps:List (Int × Int))(v:Int):Int:=if 0<=v then BE v ps else 0
def Gl(ps:List (Int × Int)):List Int:=G5 (C9 ps) [] (ps.map (·.1))
theorem Nq:Asc []:=List.Pairwise.nil
theorem Qw(c:Int->Int)(v:Int):∀{l:List Int},Asc l->BE v (l.map λu=>(u,c u))=if v∈l then c v else 0
 |[],_=>by simp[BE]
 |x::r,h=>by
  have h1:=AwY.1 h;rw[Awq,BE,Qw c v h1.2]
  by_cases hx:x=v
  .grind
  .grind
theorem D7(ps:List (Int × Int)):(Gl ps).map (λv=>(v,C9 ps v))=BB ps:=by
 have ha:Asc (Gl ps):=RG _ _ Nq;have hm:∀ y,y∈Gl ps ↔ y∈ps.map (·.1)/\C9 ps y≠0:=λy=>by
  grind [C9,Gl,Nq,Mv]
 refine K8 ⟨?_,?_,?_⟩ λv hv=>?_
 .rw[Ayz]
  exact ha
 .intro p hp
  rw[AwV]at hp;obtain⟨v,hv,rfl⟩:=hp;have:=((hm v).1 hv).2;unfold C9 at this
  by_cases h0:0<=v
  .exact h0
  .omega
 .grind
 .rw[Qw _ _ ha]
  have hc:C9 ps v=BE v ps:=Ac hv
  by_cases hv2:v∈Gl ps
  .rw[Ac hv2,hc]
  .rw[Ad hv2]
   by_cases hz:BE v ps=0
   .exact hz.symm
   .grind [List.mem_map_of_mem,Fv]
inductive Fm where
 |mk (kind:Int) (t:Tm) (eq:Bool) (kids:List Fm)
mutual
def eF:Fm->Ab
 |.mk k t e ks=>[iv k,.ls (t.ps.map eP),bv t.k.neg,eN t.k.abs,bv e,.ls (eFs ks)]
def eFs:List Fm->Rw
 |[]=>[]
 |x::r=>eF x::eFs r
end
theorem AY:∀ l,eFs l=l.map eF
 |[]=>rfl
 |x::r=>by simp[eFs,AY r]
def Fm.kind:Fm->Int
 |.mk k _ _ _=>k
def Fm.tm:Fm->Tm
 |.mk _ t _ _=>t
def Fm.eq:Fm->Bool
 |.mk _ _ e _=>e
def Fm.kids:Fm->List Fm
 |.mk _ _ _ ks=>ks
def Tm0:Tm:=⟨[],⟨Φ,[]⟩⟩
def kF(k:Int)(ks:List Fm):Fm:=.mk k Tm0 Φ ks
def Hz(b:Bool):Fm:=kF (if b then 0 else 1) []
def Ea(l:Lf)(e:Bool):Fm:=.mk 2 l.tm e []
def CB:Fm->List Fm
 |.mk k _ _ ks=>if k=4\/k=5 then ks else if k=3 then ks.take 1 else []
mutual
def BI:Fm->Fm
 |.mk k t e ks=>if k=0 then Hz Δ else if k=2 then Ea t.lf.pln e else if k=3 then kF 3 (KI ks) else if k=4\/k=5 then kF k (Hc ks) else Hz Φ
def KI:List Fm->List Fm
 |[]=>[]
 |x::_=>[BI x]
def Hc:List Fm->List Fm
 |[]=>[]
 |x::r=>BI x::Hc r
end
theorem EW:∀ l,Hc l=l.map BI
 |[]=>rfl
 |x::r=>by simp[Hc,EW r]
theorem Il:∀ l,KI l=(l.take 1).map BI
 |[]=>rfl
 |x::r=>by simp[KI]
mutual
inductive CanF:Fm->Prop
 |tru (b:Bool):CanF (Hz b)
 |atom (l:Lf) (e:Bool) (h:l.pln=l):CanF (Ea l e)
 |no (x:Fm) (h:CanF x):CanF (kF 3 [x])
 |and (l:List Fm) (h:CanFs l):CanF (kF 4 l)
 |or (l:List Fm) (h:CanFs l):CanF (kF 5 l)
 |no0:CanF (kF 3 [])
inductive CanFs:List Fm->Prop
 |nil:CanFs []
 |cons {x:Fm} {r:List Fm} (h:CanF x) (hr:CanFs r):CanFs (x::r)
end
mutual
theorem CanF.clone:∀{x:Fm},CanF x->BI x=x
 |_,.tru b=>by cases b<;>rfl
 |_,.atom l e h=>by
  unfold Ea;rw[BI,Ad (by decide),Ac rfl,Ek,h];rfl
 |_,.no x h=>by
  unfold kF;rw[BI,Ad (by decide),Ad (by decide),Ac rfl,KI,h.clone];rfl
 |_,.and l h=>by
  unfold kF;rw[BI,Ad (by decide),Ad (by decide),Ad (by decide),Ac (.inl rfl),h.clone];rfl
 |_,.or l h=>by
  unfold kF;rw[BI,Ad (by decide),Ad (by decide),Ad (by decide),Ac (.inr rfl),h.clone];rfl
 |_,.no0=>rfl
theorem CanFs.clone:∀{l:List Fm},CanFs l->Hc l=l
 |_,.nil=>rfl
 |_,.cons h hr=>by rw[Hc,h.clone,hr.clone]
end
theorem AkA(l r:Lf):(l.sub r).pln=l.sub r:=SN _
mutual
theorem Ed:∀ x:Fm,CanF (BI x)
 |.mk k t e ks=>by
  rw[BI];split
  .exact .tru _
  split
  .exact .atom _ _ (SN _)
  split
  .exact VS ks
  split
  .rename_i h
   rcases h with h|h
   .rw[h];exact .and _ (JK ks)
   .rw[h];exact .or _ (JK ks)
  .exact .tru _
theorem VS:∀ l:List Fm,CanF (kF 3 (KI l))
 |[]=>.no0
 |x::_=>.no _ (Ed x)
theorem JK:∀ l:List Fm,CanFs (Hc l)
 |[]=>.nil
 |x::r=>.cons (Ed x) (JK r)
end

def Do:List (Int × Int)->Int × Int->List (Int × Int)
 |[],p=>if p.1<0 then [] else [p]
 |q::r,p=>if p.1<0 then q::r else if q.1=p.1 then(q.1,q.2+p.2)::r else p::q::r
theorem EZ(p:Int × Int):Do [] p=if p.1<0 then [] else [p]:=rfl
theorem Ee(q:Int × Int)(r:List (Int × Int))(p:Int × Int):Do (q::r) p=if p.1<0 then q::r else if q.1=p.1 then(q.1,q.2+p.2)::r else p::q::r:=rfl
structure GrpI (s t:List (Int × Int)):Prop where
 desc:s.Pairwise λa b=>b.1<a.1
 pos:∀ q∈s,0<=q.1
 up:∀ q∈s,∀ p∈t,0<=p.1->q.1<=p.1
theorem ZI(v:Int)(hv:0<=v):∀(s:List (Int × Int)) (p:Int × Int),BE v (Do s p)=BE v s+(if p.1=v then p.2 else 0)
 |[],p=>by
  rw[EZ];split
  .rw[Ad (by omega)];simp[BE]
  .simp[BE]
 |q::r,p=>by
  rw[Ee];split
  .rw[Ad (by omega)];omega
  .split
   .rename_i h
    rw[BE,BE];simp only[h];split<;>omega
   .rw[BE]
    omega
theorem Acx{s t:List (Int × Int)}{p:Int × Int}(h:GrpI s (p::t))(ht:∀ x∈t,p.1<=x.1):GrpI (Do s p) t:=by
 have ut:∀ q∈s,∀ x∈t,0<=x.1->q.1<=x.1:=λq hq x hx=>h.up q hq x (Awk _ hx)
 cases s with
 |nil=>
  rw[EZ];split
  .exact⟨.nil,by simp,by simp⟩
  .exact⟨Ayv _ _,by simp;omega,λq hq x hx _=>by rw[AwX.1 hq];exact ht x hx⟩
 |cons q r=>
  have hd:=AwY.1 h.desc;rw[Ee];split
  .exact⟨h.desc,h.pos,ut⟩
  .rename_i hp
   split
   .refine⟨AwY.2 ⟨λx hx=>hd.1 x hx,hd.2⟩,λx hx=>?_,λx hx y hy hy0=>?_⟩
    .rcases Awj.1 hx with rfl|hx
     .exact h.pos q (Awi ..)
     .exact h.pos x (Awk _ hx)
    .rcases Awj.1 hx with rfl|hx
     .exact ut q (Awi ..) y hy hy0
     .exact ut x (Awk _ hx) y hy hy0
   .rename_i hne
    have hq:=h.up q (Awi ..) p (Awi ..) (by omega);refine⟨AwY.2 ⟨λx hx=>?_,h.desc⟩,λx hx=>?_,λx hx y hy hy0=>?_⟩
    .rcases Awj.1 hx with rfl|hx
     .omega
     .have:=hd.1 x hx;omega
    .rcases Awj.1 hx with rfl|hx
     .omega
     .exact h.pos x hx
    .rcases Awj.1 hx with rfl|hx
     .exact ht y hy
     .exact ut x hx y hy hy0
theorem XX:∀(t s:List (Int × Int)),t.Pairwise (λa b=>a.1<=b.1)->GrpI s t->GrpI (t.foldl Do s) []/\∀ v,0<=v->BE v (t.foldl Do s)=BE v s+BE v t
 |[],s,_,h=>⟨h,λv _=>by simp[BE]⟩
 |p::t,s,ht,h=>by
  have hp:=AwY.1 ht;obtain⟨g1,g2⟩:=XX t (Do s p) hp.2 (Acx h hp.1);refine⟨g1,λv hv=>?_⟩;rw[AxY,g2 v hv,ZI v hv,BE];omega
theorem TG(v:Int):∀ l:List (Int × Int),BE v (l.filter λp=>!decide (p.2=0))=BE v l
 |[]=>rfl
 |p::r=>by
  have ih:=TG v r
  by_cases h:p.2=0
  .rw[List.filter_cons_of_neg (by simp[h]),ih,BE,h]
   simp
  .rw[List.filter_cons_of_pos (by simp[h]),BE,BE,ih]
theorem Se{t l:List (Int × Int)}(ht:t.Pairwise λa b=>a.1<=b.1)(hp:t.Perm l):((t.foldl Do []).reverse).filter (λp=>!decide (p.2=0))=BB l:=by
 obtain⟨g1,g2⟩:=XX t [] ht ⟨.nil,by simp,by simp⟩;refine K8 ⟨?_,λp h=>?_,λp h=>?_⟩ λv hv=>?_
 .refine List.Pairwise.filter _ ?_
  rw[List.pairwise_reverse];exact g1.desc
 .have:=(AxJ.1 h).1
  exact g1.pos p (AyH.1 this)
 .simpa using (AxJ.1 h).2
 .rw[TG,Oh (List.reverse_perm _),g2 v hv,Oh hp]
  simp[BE]
theorem Io{k:Nat}{s:List (Int × Int)}{p:Int × Int}(hs:∀ q∈s,InB k q.2)(hp:InB k p.2):∀ q∈Do s p,InB (k+1) q.2:=by
 cases s with
 |nil=>
  rw[EZ];split
  .simp
  .intro q hq
   rw[AwX.1 hq];exact hp.mono (by omega)
 |cons q r=>
  rw[Ee];have hq:=hs q (Awi ..);have hr:∀ x∈r,InB (k+1) x.2:=λx hx=>(hs x (Awk _ hx)).mono (by omega)
  split
  .intro x hx
   rcases Awj.1 hx with rfl|hx
   .exact hq.mono (by omega)
   .exact hr x hx
  .split
   .intro x hx
    rcases Awj.1 hx with rfl|hx
    .exact InB.add hq hp
    .exact hr x hx
   .intro x hx
    rcases Awj.1 hx with rfl|hx
    .exact hp.mono (by omega)
    .rcases Awj.1 hx with rfl|hx
     .exact hq.mono (by omega)
     .exact hr x hx
theorem Ip(s:List (Int × Int))(p:Int × Int):(Do s p).length<=s.length+1:=by
 cases s with
 |nil=>rw[EZ];split<;>simp
 |cons q r=>
  rw[Ee];split
  .simp
  .split<;>simp
theorem Srt.same{l r:List Pt}{a b p q:Nat}(h:Srt Pt.v l p q)(hs:Same0 l r a b)(hd:q<=a\/b<=p):Srt Pt.v r p q:=by
 intro x y h1 h2 h3;rw[hs.kf Pt.v (by omega),hs.kf Pt.v (by omega)];exact h x y h1 h2 h3
def AmY(q t:Nat)(l:List Pt):Prop:=∀ p,q ∣ p->p+q<=t->Srt Pt.v l p (p+q)
theorem ApJ{a:Nat}(h:a<4611686018427387000):Ap.add .i64 (a:Int) 20=((a+20:Nat):Int):=by
 rw[GU (by omega) (by omega)];rfl
section
variable {D:Orc} (K:Knows Au M2 D)
include K
theorem Apv:∀(m a:Nat) (l:List Pt),l.length-a=m->a<=l.length->l.length<=1000000000->20 ∣ a->AmY 20 a l->
  ∃(r:List Pt) (c:Nat),D.ask (.lp 196 0) [.sl 0 0 l.length 3,iv (l.length:Int),TU,iv 20,iv (a:Int),iv ((a+20:Nat):Int)] [θ (Ao eP l) Δ Δ]
   = Θ (.tup [iv 0,.sl 0 0 l.length 3,iv (l.length:Int),TU,iv 20,iv (c:Int)],[.set (θ (Ao eP r) Δ Δ)])
   ∧ r.length=l.length/\r.Perm l/\c<=l.length/\l.length<c+20/\20 ∣ c/\AmY 20 c r:=by
 intro m
 induction m using Nat.strongRecOn with
 |_ m ih=>
  intro a l hm ha hl hd hb
  by_cases h:a+20<=l.length
  .obtain⟨r,g,hr,hp,ho,hsm⟩:=AcV K (a:=a) (b:=a+20) (l:=l) (by omega) h hl
   have hb2:AmY 20 (a+20) r:=λp h1 h2=>by
    by_cases hpa:p=a
    .subst hpa
     exact ho
    .exact(hb p h1 (by omega)).same hsm (.inl (by omega))
   obtain⟨r2,c,g2,hr2,hp2,h3,h4,h5,h6⟩:=ih (r.length-(a+20)) (by omega) (a+20) r rfl (by omega) (by omega) (by omega) hb2;rw[hr]at g2 h3 h4;refine⟨r2,c,?_,by omega,hp2.trans hp,h3,h4,h5,h6⟩;refine AE K OE (AbV ..) ?_;refine Cs ?_;refine Aa g ?_;simp only[TU,Aj];rw[ApJ (by omega)];refine Aa g2 ?_;rfl
  .refine⟨l,a,?_,rfl,List.Perm.refl _,ha,by omega,hd,hb⟩
   refine AE K OE (AbV ..) ?_;exact CN rfl
theorem PD{l:List Pt}(hl:l.length<=20) :
  ∃ r:List Pt,D.ask (.fn 136) [.sl 0 0 l.length 3,TU] [θ (Ao eP l) Δ Δ]=Θ (.tup [],[.set (θ (Ao eP r) Δ Δ)])
   ∧ r.length=l.length/\r.Perm l/\Srt Pt.v r 0 r.length:=by
 obtain⟨r,c,g,hr,hp,hc,hn,hd,hb⟩:=Apv K _ 0 l rfl (by omega) (by omega) (AzT _) (λp _ h2=>by omega);obtain⟨r2,g2,hr2,hp2,ho2,hsm⟩:=AcV K (a:=c) (b:=r.length) (l:=r) (by omega) (π _) (by omega);have ho:Srt Pt.v r2 0 r2.length:=by
  by_cases h0:c=0
  .rw[h0]at ho2
   rw[hr2];exact ho2
  .have hc20:c=20:=by
    obtain⟨j,hj⟩:=hd;omega
   have:=(hb 0 (AzT _) (by omega)).same hsm (.inl (by omega))
   rwa [hr2,hr,show l.length=0+20 by omega]
 rw[hr]at g2 hr2;rw[hr2]at ho;have g3:D.ask (.lp 196 1) [.sl 0 0 l.length 3,iv (l.length:Int),TU,iv 20] [θ (Ao eP r2) Δ Δ]=Θ (.tup [iv 2,.sl 0 0 l.length 3],[.set (θ (Ao eP r2) Δ Δ)]):=by
  refine AE K OE (AnB ..) ?_;exact AA rfl
 have g4:D.ask (.fn 196) [.sl 0 0 l.length 3,iv (l.length:Int),TU] [θ (Ao eP l) Δ Δ]=Θ (.tup [],[.set (θ (Ao eP r2) Δ Δ)]):=by
  refine AC K OE (AtG ..) ?_;refine Aa g ?_;simp only[TU,Aj];refine Aa g2 ?_;simp only[TU,Aj];refine Aa g3 ?_;rfl
 refine⟨r2,?_,hr2,hp2.trans hp,by rw[hr2];exact ho⟩;refine AC K Als (As6 ..) ?_;refine Aa g4 ?_;rfl
end
section
variable {α:Type} (key:α->Int)
structure Bs (l:List α) (n x y s r:Nat):Prop where
 xs:x<=s
 sr:s<=r
 ry:r<=y
 lo:∀ c,x<=c->c<s->kf key l c<=kf key l (n-1-c)
 hi:∀ c,r<=c->c<y->kf key l (n-1-c)<kf key l c
end
abbrev Ky(l:List Pt):ABlk:=θ (Ao eP l) Δ Δ

def fnZ:AV:=.fn (.func 141) [] []
section
variable {D:Orc} (K:Knows Au M2 D)
include K
theorem AnV(P:Pt->Bool)(l:List Pt)(hl:l.length<=1000000000)(hP:∀ p∈l,D.ask (.fn 141) [.agg (eP p)] []=Θ (bv (P p),[])):∀(m i:Nat),l.length-i=m->i<=l.length->
  D.ask (.lp 199 0) [.sl 0 0 l.length 3,fnZ,iv (l.length:Int),iv (i:Int)] [θ (Ao eP l) Δ Δ]
   = if i+(l.drop i).findIdx P<l.length then Θ (.tup [bv Δ,.sl 0 0 l.length 3,iv ((i+(l.drop i).findIdx P:Nat):Int)],[.set (θ (Ao eP l) Δ Δ)]) else Θ (.tup [iv 0,.sl 0 0 l.length 3],[.set (θ (Ao eP l) Δ Δ)]):=by
 intro m
 induction m with
 |zero=>
  intro i hm hi;rw[Ad (by omega)];refine AE K OF (R3 ..) ?_;exact AA rfl
 |succ m ih=>
  intro i hm hi;have h1:i<l.length:=by omega
  have g:=hP l[i] (Aws h1);have ih':=ih (i+1) (by omega) (by omega);rw[η h1,Azq]
  cases hp:P l[i]with
  |true=>
   rw[hp]at g;rw[Ac (by simpa using h1)];refine AE K OF (R3 ..) ?_;refine AB ?_;rw[AI,Co h1];refine Ah ?_;refine(EA AU l i h1 _).trans ?_;simp only[eP,eN,Aj];refine Aa g ?_;simp only[Aj];rfl
  |false=>
   rw[hp]at g;rw[show (bif Φ then 0 else(l.drop (i+1)).findIdx P+1)=(l.drop (i+1)).findIdx P+1 from rfl,show i+((l.drop (i+1)).findIdx P+1)=i+1+(l.drop (i+1)).findIdx P by omega]
   by_cases h:i+1+(l.drop (i+1)).findIdx P<l.length
   .rw[Ac h]at ih' ⊢
    refine AE K OF (R3 ..) ?_;refine AB ?_;rw[AI,Co h1];refine Ah ?_;refine(EA AU l i h1 _).trans ?_;simp only[eP,eN,Aj];refine Aa g ?_;simp only[Aj];rw[BU (by omega)];refine Aa ih' ?_;rfl
   .rw[Ad h]at ih' ⊢
    refine AE K OF (R3 ..) ?_;refine AB ?_;rw[AI,Co h1];refine Ah ?_;refine(EA AU l i h1 _).trans ?_;simp only[eP,eN,Aj];refine Aa g ?_;simp only[Aj];rw[BU (by omega)];refine Aa ih' ?_;rfl
theorem AnW(P:Pt->Bool)(l:List Pt)(hl:l.length<=1000000000)(hP:∀ p∈l,D.ask (.fn 141) [.agg (eP p)] []=Θ (bv (P p),[])) :
  D.ask (.fn 199) [.sl 0 0 l.length 3,fnZ] [θ (Ao eP l) Δ Δ]
   = Θ (iv (if l.findIdx P<l.length then(l.findIdx P:Int) else -1),[.set (θ (Ao eP l) Δ Δ)]):=by
 have g:=AnV K P l hl hP _ 0 rfl (by omega);rw[ο,Awt]at g;refine AC K OF (AtJ ..) ?_
 by_cases h:l.findIdx P<l.length
 .rw[Ac h]at g ⊢
  refine Aa g ?_;rfl
 .rw[Ad h]at g ⊢
  refine Aa g ?_;rfl
theorem Anw(P:Pt->Bool)(Q:Pt->Prop)(hP:∀ p,Q p->D.ask (.fn 141) [.agg (eP p)] []=Θ (bv (P p),[])):∀(m j i:Nat) (l:List Pt),l.length-j=m->i<=j->j<=l.length->l.length<=1000000000->(∀ p∈l.drop j,Q p)->
  ∃(r:List Pt) (c:Nat),D.ask (.lp 140 0) [.sl 0 0 l.length 3,fnZ,iv (i:Int),iv (j:Int)] [θ (Ao eP l) Δ Δ]
   = Θ (.tup [iv 0,.sl 0 0 l.length 3,iv (c:Int)],[.set (θ (Ao eP r) Δ Δ)])
   ∧ r.length=l.length/\c<=l.length/\r.take c=l.take i++(l.drop j).filter (λp=>!P p):=by
 intro m
 induction m with
 |zero=>
  intro j i l hm hi hj hl hq;refine⟨l,i,?_,rfl,by omega,?_⟩
  .refine AE K OD (V0 ..) ?_
   exact AA rfl
  .rw[Awb (by omega),List.filter_nil,AwF]
 |succ m ih=>
  intro j i l hm hi hj hl hq;have h1:j<l.length:=by omega
  have h0:i<l.length:=by omega
  have ed:=η h1;have g:=hP l[j] (hq _ (by rw[ed];exact Awi ..));rw[ed,Azu]
  cases hp:P l[j]with
  |true=>
   rw[hp]at g;obtain⟨r,c,g2,hr,hc,he⟩:=ih (j+1) i l (by omega) (by omega) (by omega) hl (λp h=>hq p (by rw[ed];exact Awk _ h));refine⟨r,c,?_,hr,hc,he⟩;refine AE K OD (V0 ..) ?_;refine AB ?_;rw[AI,Co h1];refine Ah ?_;refine(EA AU l j h1 _).trans ?_;simp only[eP,eN,Aj];refine Aa g ?_;simp only[Aj];rw[BU (by omega)];refine Aa g2 ?_;rfl
  |false=>
   rw[hp]at g;have hd:(l.set i l[j]).drop (j+1)=l.drop (j+1):=List.drop_set_of_lt (by omega);obtain⟨r,c,g2,hr,hc,he⟩:=ih (j+1) (i+1) (l.set i l[j]) (by rw[AwJ];omega) (by omega) (by rw[AwJ];omega) (by rw[AwJ];exact hl) (λp h=>hq p (by rw[ed];rw[hd]at h;exact Awk _ h));rw[AwJ]at g2 hr hc;have s1:=Ke AU l i h0 l[j];simp only[eP,eN]at s1;refine⟨r,c,?_,hr,hc,?_⟩
   .skip
    refine AE K OD (V0 ..) ?_;refine AB ?_;rw[AI,Co h1];refine Ah ?_;refine(EA AU l j h1 _).trans ?_;simp only[eP,eN,Aj];refine Aa g ?_;simp only[Aj];rw[AI,Co h0];refine Ah ?_;rw[show Awf (0+i*3+3) (Ao eP l).length=Δ by rw[BC AU];simp;omega];refine Ah ?_;rw[s1,BU (by omega),BU (by omega)];refine Aa g2 ?_;rfl
   .rw[he,hd,List.take_succ_eq_append_getElem (by rw[AwJ];exact h0),List.getElem_set_self,List.take_set_of_le (π _),Awd]
    rfl
omit K in
theorem Oo(P:Pt->Bool):∀ l:List Pt,l.findIdx P<l.length->l.take (l.findIdx P)++(l.drop (l.findIdx P+1)).filter (λp=>!P p)=l.filter (λp=>!P p)
 |[],h=>by simp at h
 |x::r,h=>by
  rw[Azq]at h ⊢
  cases hp:P x with
  |true=>simp[hp]
  |false=>
   rw[hp]at h;have:=Oo P r (by simpa using h);simp only[cond_false,List.take_succ_cons,List.drop_succ_cons,Azu,hp,Bool.not_false,if_true,List.cons_append];rw[this]
omit K in
theorem TP(P:Pt->Bool)(l:List Pt)(h:¬ l.findIdx P<l.length):l.filter (λp=>!P p)=l:=by
 rw[List.filter_eq_self];intro p hp
 cases e:P p with
 |false=>rfl
 |true=>exact absurd (List.findIdx_lt_length_of_exists ⟨p,hp,e⟩) h
omit K in
theorem Pr:∀(l:List Pt) (i:Nat),i<=l.length->(Ao eP l).take (i*3)=Ao eP (l.take i)
 |[],i,_=>by simp[Ao]
 |y::r,0,_=>by simp[Ao]
 |y::r,i+1,h=>by
  rw[show (i+1)*3=3+i*3 by omega]
  show (eP y++Ao eP r).take (3+i*3)=eP y++Ao eP (r.take i)
  rw[Ay2,Aw5 (by rw[AU];omega),AU,show 3+i*3-3=i*3 by omega,Pr r i (by simpa using h)]
theorem Aby(P:Pt->Bool)(l:List Pt)(hl:l.length<=1000000000)(hP:∀ p∈l,D.ask (.fn 141) [.agg (eP p)] []=Θ (bv (P p),[])) :
  ∃ cells:Ab,D.ask (.fn 140) [.sl 0 0 l.length 3,fnZ] [θ (Ao eP l) Δ Δ]
   = Θ (.sl 0 0 (l.filter λp=>!P p).length 3,[.set (θ cells Δ Δ)])
   ∧ cells.take ((l.filter λp=>!P p).length*3)=Ao eP (l.filter λp=>!P p)/\(l.filter λp=>!P p).length*3<=cells.length:=by
 have g:=AnW K P l hl hP
 by_cases h:l.findIdx P<l.length
 .rw[Ac h]at g
  obtain⟨r,c,g2,hr,hc,he⟩:=Anw K P (λp=>p∈l) hP _ (l.findIdx P+1) (l.findIdx P) l rfl (by omega) (by omega) hl (λp hp=>List.mem_of_mem_drop hp);rw[Oo P l h]at he;have hk:(l.filter λp=>!P p).length=c:=by
   rw[←he,Awo];omega
  rw[hk,←he];refine⟨Bp (Ao eP r) (0+c*3) (Ch [iv 0,bv Φ,.v (.slice Ξ 0 0)] ((l.length-c)*3)),?_,?_,?_⟩
  .refine AC K OD (Ap0 ..) ?_
   refine Aa g ?_;simp only[Aj];refine Ay ?_;rw[BU (by omega)];refine Aa g2 ?_;simp only[Aj];rw[AI,show HY c l.length l.length=Δ by unfold HY;rw[AxW hc,AxW (π _)]];refine Ah ?_;rw[show Awf (0+c*3+(l.length-c)*3) (Ao eP r).length=Δ by rw[BC AU];simp;omega];refine Ah ?_;rw[AI,show HY 0 c l.length=Δ by unfold HY;rw[AxW (Awz _),AxW hc]];rfl
  .unfold Bp
   have hlen:((Ao eP r).take (0+c*3)).length=c*3:=by
    rw[Awo,BC AU];omega
   rw[Awd,Ax0 hlen,Awt,Pr r c (by omega)]
  .unfold Bp
   rw[ε,ε,Awo,BC AU];omega
 .rw[Ad h]at g
  rw[TP P l h];refine⟨Ao eP l,?_,Bb AU l rfl,by rw[BC AU];exact π _⟩;refine AC K OD (Ap0 ..) ?_;refine Aa g ?_;simp only[Aj];exact AG rfl rfl
end
structure PartF (D:Orc):Prop where
 clone:∀ l:List Pt,l.length<=1000000000->D.ask (.fn 135) [.ls (l.map eP)] []=Θ (.sl 0 0 l.length 3,[.set (Ky l)])
 grow:∀ n:Nat,n<=1000000000->D.ask (.fn 262) [.v (.slice Ξ 0 0),iv (n:Int)] []=Θ (.sl 0 0 0 3,[.set (Ky [])])
structure SrtF (D:Orc) (M:Nat):Prop where
 le:M<=1000000
 cmpI:∀ x y:Int,D.ask (.fn 84) [iv x,iv y] []=Θ (iv (FS x y),[])
 sort:∀ l:List Pt,l.length<=M->∃ r:List Pt,D.ask (.fn 136) [.sl 0 0 l.length 3,TU] [Ky l]=Θ (.tup [],[.set (Ky r)])/\r.length=l.length/\r.Perm l/\Srt Pt.v r 0 r.length
 del:∀(P:Pt->Bool) (l:List Pt) (hl:l.length<=1000000000) (hP:∀ p∈l,D.ask (.fn 141) [.agg (eP p)] []=Θ (bv (P p),[])),∃ cells:Ab,D.ask (.fn 140) [.sl 0 0 l.length 3,fnZ] [θ (Ao eP l) Δ Δ]
   = Θ (.sl 0 0 (l.filter λp=>!P p).length 3,[.set (θ cells Δ Δ)])
   ∧ cells.take ((l.filter λp=>!P p).length*3)=Ao eP (l.filter λp=>!P p)/\(l.filter λp=>!P p).length*3<=cells.length
 isz:ZF D->∀ p:Pt,Lz 1000000000 p.z->D.ask (.fn 141) [.agg (eP p)] []=Θ (bv (decide (zv p.z=0)),[])
theorem SrtF.mono{D:Orc}{M N:Nat}(S:SrtF D M)(h:N<=M):SrtF D N:=⟨Awy h S.le,S.cmpI,λl hl=>S.sort l (Awy hl h),S.del,S.isz⟩
section
variable (o:List Pt) (x:Pt)
theorem Akd(k:Ab->KR):Ia (Ao eP (o++[x])) (0+o.length*3+0) 1 k=k [iv x.v]:=by
 have hl:=BC AU o;rw[←Bc];unfold Ia;rw[show Awf (0+o.length*3+0+1) (Ao eP o++eP x).length=Δ by rw[ε,hl,AU];simp<;>omega]
 show k (((Ao eP o++eP x).drop (0+o.length*3+0)).take 1)=_
 rw[List.drop_left' (by omega)];rfl
theorem Asa(k:Ab->KR):Ia (Ao eP (o++[x])) (0+o.length*3+1) 2 k=k [bv x.z.neg,eN x.z.abs]:=by
 have hl:=BC AU o;rw[←Bc];unfold Ia;rw[show Awf (0+o.length*3+1+2) (Ao eP o++eP x).length=Δ by rw[ε,hl,AU];simp]
 show k (((Ao eP o++eP x).drop (0+o.length*3+1)).take 2)=_
 rw[Ay0,AyC (by omega),show 0+o.length*3+1-(Ao eP o).length=1 by omega];rfl
theorem Asl(z:Zi):Bp (Ao eP (o++[x])) (0+o.length*3+1) [bv z.neg,eN z.abs]=Ao eP (o++[⟨x.v,z⟩]):=by
 have hl:=BC AU o;rw[←Bc,←Bc];unfold Bp;rw[Ay2,Aw5 (by omega),show 0+o.length*3+1-(Ao eP o).length=1 by omega,AyC (by rw[ε,AU,hl];simp),AwF,Awd];rfl
end
section
variable {D:Orc} (Kt:Knows Au Ge D) (K:Knows Au M2 D) (Z:ZF D) (C:PartF D)
include Z
include Kt in
theorem Fw{z:Zi}(hz:Lz 1000000000 z):D.ask (.fn 138) [.agg (eZ z)] []=Θ (.agg (eZ (AQ (zv z))),[]):=by
 refine AC Kt Alu (As8 ..) ?_;refine Aa (Z.frm z hz) ?_;rfl
include K in
theorem QM{p:Pt}(hz:Lz 1000000000 p.z):D.ask (.fn 141) [.agg (eP p)] []=Θ (bv (decide (zv p.z=0)),[]):=by
 have g:=Z.sign p.z hz;refine AC K Alw (Ata ..) ?_;refine Aa g ?_;simp only[Aj]
 by_cases h:zv p.z=0
 .rw[BT h,h]
  exact DP rfl
 .rw[BX h]
  refine EI ?_;unfold Cb;split
  .omega
  .split
   .omega
   .omega
include Kt in
theorem AdG{k:Nat}(ps:List Pt)(hl:ps.length<=1000000)(hk:k+ps.length<=900000000)(hz:∀ p∈ps,Lz k p.z)(r0:Rw)(r1:Bool)(r2:Rw)(k1:Bool)(k2:Rw):∀(m i:Nat) (s:List (Int × Int)),ps.length-i=m->i<=ps.length->s.length<=i->(∀ q∈s,InB (k+i) q.2)->
  D.ask (.lp 62 0) [.ptr 0 0,.ptr 1 0,.ls (ps.map eP),iv (ps.length:Int),iv (i:Int)] [⟨[.ls r0,bv r1,.ls r2],Δ,Φ⟩,⟨[.sl 2 0 (s.map Bg).reverse.length 3,bv k1,.ls k2],Δ,Φ⟩,Ky (s.map Bg).reverse]
   = Θ (.tup [iv 0,.ptr 0 0,.ptr 1 0],[.set ⟨[.ls r0,bv r1,.ls r2],Δ,Φ⟩,.set ⟨[.sl 3 0 ((((ps.drop i).map pv).foldl Do s).map Bg).reverse.length 3,bv k1,.ls k2],Δ,Φ⟩,.del,.set (Ky ((((ps.drop i).map pv).foldl Do s).map Bg).reverse)]):=by
 intro m
 induction m with
 |zero=>
  intro i s hm hi hs hb;rw[Awb (by omega),Axb,List.foldl_nil];refine AE Kt AcK (Ak2 ..) ?_;exact AA rfl
 |succ m ih0=>
  intro i s hm hi hs hb;have h1:i<ps.length:=by omega
  have hzk:=hz ps[i] (Aws h1);have hzi:=hzk.mono (show k<=1000000000 by omega);rw[η h1,Awq,AxY];have ih:=ih0 (i+1) (Do s (pv ps[i])) (by omega) (by omega) (by have:=Ip s (pv ps[i]);omega) (Io hb (hzk.inb.mono (show k<=k+i by omega)));refine AE Kt AcK (Ak2 ..) ?_;refine AB ?_;rw[AI,Az (ξ h1)];simp only[eP,eN,Aj];generalize hS:((ps.drop (i+1)).map pv).foldl Do (Do s (pv ps[i]))=S at ih ⊢
  by_cases hneg:ps[i].v<0
  .have e:Do s (pv ps[i])=s:=by
    have hn:(pv ps[i]).1<0:=hneg
    cases s with
    |nil=>rw[EZ,Ac hn]
    |cons q r=>rw[Ee,Ac hn]
   rw[e]at ih;refine AB ?_ hneg;rw[BU (by omega)];refine Aa ih ?_;rfl
  have hn:¬(pv ps[i]).1<0:=hneg;refine AA ?_ hneg
  cases s with
  |nil=>
   rw[EZ,Ad hn]at ih;refine CN ?_ (by decide);obtain⟨o,ho0⟩:∃ o:List Pt,o=[]:=⟨_,rfl⟩;have eo:(([pv ps[i]].map Bg).reverse)=o++[Bg (pv ps[i])]:=by rw[ho0];rfl
   rw[eo]at ih;have ho:o.length<=i:=by rw[ho0];exact Awz _
   rw[show ((([]:List (Int × Int)).map Bg).reverse)=o from ho0.symm];have hf:Ba (o.length+1) 40=Δ:=AP (by omega) (by omega);have hb1:Awf (0+o.length*3) (Ao eP o).length=Δ:=AK AU o (by omega);have e3:Av8 0 (κ (0+o.length*3) (Ao eP o))++[iv ps[i].v,bv (AQ (zv ps[i].z)).neg,eN (AQ (zv ps[i].z)).abs]=Ao eP (o++[Bg (pv ps[i])]):=by
    rw[ο,Bb AU o (by omega)];exact Bc eP o (Bg (pv ps[i]))
   refine Aa (Fw Kt Z hzi) ?_;simp only[eZ,eN,Aj]at e3 ⊢;rw[hf];refine Ah ?_;rw[hb1];refine Ah ?_;rw[e3,BU (by omega)];rw[ε,Awp]at ih;refine Aa ih ?_;rfl
  |cons q r=>
   have eo:(((q::r).map Bg).reverse)=(r.map Bg).reverse++[Bg q]:=by simp
   have hq:=hb q (Awi ..);rw[eo];rw[Ee,Ad hn]at ih;have hro:(r.map Bg).reverse.length<=i:=by simp at hs ⊢;omega
   by_cases heq:q.1=(pv ps[i]).1
   .rw[Ac heq,Awq,AyA]at ih
    generalize (r.map Bg).reverse=o at hro ih ⊢;have e1:Ap.sub .i64 (((o++[Bg q]).length:Nat):Int) 1=((o.length:Nat):Int):=by
     rw[ε,Awp];exact Rl (by omega)
    have hlt:o.length<(o++[Bg q]).length:=by simp
    have ga:=Z.add (AQ q.2) ps[i].z (hq.lz.mono (by omega)) (hzk.mono (by omega));rw[Bm]at ga;have sp:=Asl o (Bg q) (AQ (q.2+zv ps[i].z));rw[e1];refine Cs ?_;rw[AI,Co hlt];refine Ah ?_;refine(Akd o (Bg q) _).trans ?_;simp only[Aj];refine AG ?_ (show (Bg q).v=ps[i].v from heq);rw[AI,Co hlt];refine Ah ?_;refine(Asa o (Bg q) _).trans ?_;simp only[eN,Aj];refine Aa ga ?_;simp only[eZ,eN,Aj]at sp ⊢;rw[AI,Co hlt];refine Ah ?_;rw[show Awf (0+o.length*3+1+2) (Ao eP (o++[Bg q])).length=Δ by rw[BC AU];simp;omega];refine Ah ?_;rw[sp,BU (by omega)];have el:(o++[Bg q]).length=(o++[Bg (q.1,q.2+(pv ps[i]).2)]).length:=by simp
    rw[el];refine Aa ih ?_;rfl
   .rw[Ad heq,Awq,AyA,eo]at ih
    have hlen:((r.map Bg).reverse++[Bg q]).length<=i:=by simp at hs ⊢;omega
    have e1:Ap.sub .i64 ((((r.map Bg).reverse++[Bg q]).length:Nat):Int) 1=(((r.map Bg).reverse.length:Nat):Int):=by
     rw[ε,Awp];exact Rl (by omega)
    have hlt:(r.map Bg).reverse.length<((r.map Bg).reverse++[Bg q]).length:=by simp
    rw[e1];refine Cs ?_;rw[AI,Co hlt];refine Ah ?_;refine(Akd _ (Bg q) _).trans ?_;simp only[Aj];refine Ay ?_ (show ¬(Bg q).v=ps[i].v from heq);generalize (r.map Bg).reverse++[Bg q]=o at hlen ih ⊢;have ho:=hlen;have hf:Ba (o.length+1) 40=Δ:=AP (by omega) (by omega);have hb1:Awf (0+o.length*3) (Ao eP o).length=Δ:=AK AU o (by omega);have e3:Av8 0 (κ (0+o.length*3) (Ao eP o))++[iv ps[i].v,bv (AQ (zv ps[i].z)).neg,eN (AQ (zv ps[i].z)).abs]=Ao eP (o++[Bg (pv ps[i])]):=by
     rw[ο,Bb AU o (by omega)];exact Bc eP o (Bg (pv ps[i]))
    refine Aa (Fw Kt Z hzi) ?_;simp only[eZ,eN,Aj]at e3 ⊢;rw[hf];refine Ah ?_;rw[hb1];refine Ah ?_;rw[e3,BU (by omega)];rw[ε,Awp]at ih;refine Aa ih ?_;rfl
omit Z in
include K in
theorem Asm:SrtF D 20:=⟨by omega,XD K,λ_ hl=>PD K hl,Aby K,λZ _ h=>QM K Z h⟩
end
section
variable {D:Orc} {M:Nat} (Kt:Knows Au Ge D) (Ks:SrtF D M) (Z:ZF D) (C:PartF D)
include Kt Ks Z C in
theorem E6{n k:Nat}{t:Tm}(h:TmB n k t)(hn:n<=M)(hk:k+n<=900000000):D.ask (.fn 62) [.agg (eT t)] []=Θ (.agg (eT t.lf.pln.tm),[]):=by
 have hM:=Ks.le;obtain⟨ps,kz⟩:=t;have hlen:ps.length<=n:=h.len;obtain⟨r,gs,gr,gp,go⟩:=Ks.sort ps (by omega);have gc:=C.clone ps (by omega);have gk:=Fw Kt Z (h.k.mono (show k<=1000000000 by omega));have hzr:∀ p∈r,Lz k p.z:=λp hp=>h.ps p (gp.mem_iff.1 hp)
 have gl:=AdG Kt Z r (k:=k) (by omega) (by omega) hzr [] Φ [] (AQ (zv kz)).neg ((AQ (zv kz)).abs.map eL) _ 0 [] rfl (by omega) (by simp) (by simp);rw[ο]at gl;have hsrt:(r.map pv).Pairwise λa b=>a.1<=b.1:=by
  rw[Ayz];exact Hu Pt.v go
 have hpl:=Se hsrt (gp.map pv);generalize hS:(r.map pv).foldl Do []=S at gl hpl;have hsb:∀ p∈((S.map Bg).reverse),Lz 1000000000 p.z:=by
  have key:∀(t s:List (Int × Int)) (j:Nat),(∀ q∈s,InB (k+j) q.2)->(∀ q∈t,InB k q.2)->∀ q∈t.foldl Do s,InB (k+j+t.length) q.2:=by
   intro t
   induction t with
   |nil=>intro s j hs _ q hq;exact hs q hq
   |cons p t ih=>
    intro s j hs ht q hq;have:=ih (Do s p) (j+1) (Io hs ((ht p (Awi ..)).mono (show k<=k+j by omega))) (λq hq=>ht q (Awk _ hq)) q hq;rw[γ];exact this.mono (by omega)
  intro p hp;rw[AyH,AwV]at hp;obtain⟨q,hq,rfl⟩:=hp;have:=key (r.map pv) [] 0 (by simp) (λq hq=>by
   rw[AwV]at hq;obtain⟨p,hp,rfl⟩:=hq;exact(hzr p hp).inb) q (by rw[hS];exact hq)
  rw[Awm]at this;exact(this.lz).mono (by omega)
 have hSl:S.length<=1000000:=by
  have key:∀(t s:List (Int × Int)),(t.foldl Do s).length<=s.length+t.length:=by
   intro t
   induction t with
   |nil=>intro s;simp
   |cons p t ih=>
    intro s;have:=ih (Do s p);have h2:=Ip s p;rw[AxY,γ];omega
  have:=key (r.map pv) [];rw[hS,Awm]at this;simp at this;omega
 obtain⟨cells,gd,gt,gle⟩:=Ks.del (λp=>decide (zv p.z=0)) (S.map Bg).reverse (by simp;omega) λp hp=>Ks.isz Z _ (hsb p hp)
 have hfin:((S.map Bg).reverse).filter (λp=>!decide (zv p.z=0))=(BB (ps.map pv)).map Bg:=by
  rw[←hpl,←List.map_reverse,List.filter_map]
  congr 1
  refine List.filter_congr λq _=>?_
  show (!decide (zv (AQ q.2)=0))=_
  rw[Bm]
 rw[hfin]at gd gt gle;refine AC Kt AcK (e62 ..) ?_;refine Aa gc ?_;simp only[Aj];refine Aa gs ?_;simp only[Aj];refine Aa gk ?_;simp only[eZ,eN,Aj];rw[show Awf (0+ps.length*3) (Ao eP r).length=Δ from AK AU r (by omega)];refine Ah ?_;rw[Bi AU r (by omega),←gr];refine Aa gl ?_;simp only[Aj];refine Aa gd ?_;simp only[Aj];rw[show Awf (0+((BB (ps.map pv)).map Bg).length*3) cells.length=Δ by simp;simp at gle;omega];refine Ah ?_;rw[gt,CZ AU];rfl
end
section
open Go.RowKit
def QY:MFn:=AN [⟨36,(mB 3593),[],[],[(1,((mB 9),([],[])))]⟩,⟨36,(mB 234881088),[(6,3)],[],[(3,((mB 64),([],[])))]⟩] 230
def MM:Hnt:=⟨[(262,(.sl 0 3,[.row Δ]))],[(0,[(1,([.ls,.int .i64],[]))]),(1,[(3,([.sl 1 3],[.del,.row Δ]))])],[(13,[.ls]),(14,[.ls]),(29,[.ls]),(30,[.ls])]⟩
def Amd:MFn:=AN [] 125
def Alo:Hnt:=⟨[(138,(.agg AL,[]))],[],[(3,AL)]⟩
def AmE:MFn:=AN [] 185
def AlP:Hnt:=⟨[(62,(.agg BJ,[])),(139,(.agg AL,[])),(230,(.ls,[]))],[],[(6,[.ls]),(8,[.ls]),(12,AL),(14,AL)]⟩
def ArD:MFn:=AN [] 68
def AqN:Hnt:=⟨[(126,(.agg AL,[])),(148,(.agg BJ,[]))],[],[(3,BJ)]⟩
def Yf:MFn:=AN [⟨35,(mB 114744),[(1000005,3)],[3,4],[(1,((mB 48),([],[3])))]⟩] 148
def Ud:Hnt:=⟨[(62,(.agg BJ,[])),(158,(.agg AL,[]))],[(0,[(1,([.ptr 1 0,.ptr 2 0],[.del,.box BJ,.box [.sl 4 3,.bool,.ls],.del,.row Δ]))])],[(9,AL),(10,AL),(14,[.ls]),(18,Cj),(19,Cj),(21,[.ls]),(23,[.int .i64]),(25,AL),(26,AL),(33,BJ)]⟩
def Amf:MFn:=AN [] 127
def Alq:Hnt:=⟨[(68,(.agg BJ,[])),(185,(.agg BJ,[]))],[],[(5,BJ),(6,BJ)]⟩
def Aub:MFn:=AN [] 27
def Ars:MFn:=AN [] 28
def AqC:Hnt:=⟨[(62,(.agg BJ,[]))],[],[(3,BJ)]⟩
def Ls:List (Nat × MFn):=[(230,QY),(125,Amd),(185,AmE),(68,ArD),(148,Yf),(127,Amf),(27,Aub),(28,Ars)]
variable (A:Ar) (D:Orc)
theorem AtW(x0:Rw):B3 A D Au MM .n 230 QY [Ψ x0] [] =
 Ai D (Awa 230 0) [Ψ x0,iv 0,Ψ x0,iv ↑(AT x0),iv 0] [] [.t,.C,.x,.X,.Y] λc l o=>
 br (BA 1 c)
 (dk [.L,.I,.N,.E] [.l l,.o o] λxs n=>
 Ai D (φ 262) [AV.v (Value.slice Ξ 0 0),iv n] [] [.q 0 3,.R,.X,.E] λn1 cs1=>
 Ai D (Awa 230 1) [υ 0 0 n1 3,Ψ xs,iv ↑(AT xs),iv 0] [θ cs1 Δ Δ] [.t,.C,.x,.X,.Y] λc2 l4 o2=>
 br (BA 3 c2)
 (dk [.C,.q 1 3,.N,.D,.R,.X,.E] [.l l4,.o o2] λn2 cs3=>
 br ((0+n2*3).ble cs3.length) (Θ ((Ψ (Bo n2 3 (κ (n2*3) cs3)),[]))) Ξ)
 (Ξ))
 (Ξ):=by kernel_rfl
theorem Ab5(t0:Rw)(t3:Int)(t9:Rw)(t10 t11:Int):Dc A D Au MM .n 230 0 (A1 QY 0).fst (A1 QY 0).snd [Ψ t0,iv t3,Ψ t9,iv t10,iv t11] [] =
 br (A.lt t11 t10)
 (unI t11 λi=>
 Bw t9 i λcs=>
 dk [.L,.N] [.l cs] λxs=>
 br (A.lt (A.add ω t3 ↑(AT xs)) 0)
 (Ξ)
 (AW D (Awa 230 0) [Ψ t0,iv (A.add ω t3 ↑(AT xs)),Ψ t9,iv t10,iv (A.add ω t11 1)] [] λr o=>
 AS 0 [] (AH.mk [] 0 Ξ) [] r o))
 (Θ ((Awe [iv 0,Ψ t0,iv t3],[]))):=by kernel_rfl
theorem Ab6(n6:Nat)(c6:Ab)(t25:Rw)(t26 t27:Int):Dc A D Au MM .n 230 1 (A1 QY 1).fst (A1 QY 1).snd [υ 0 0 n6 3,Ψ t25,iv t26,iv t27] [{ cells:=c6,st:=Δ,ex:=Δ }] =
 br (A.lt t27 t26)
 (unI t27 λi=>
 Bw t25 i λcs=>
 dk [.L,.N] [.l cs] λxs=>
 br (EG 3 xs) (br ((AT xs).beq 0)
 (AW D (Awa 230 1) [υ 0 0 n6 3,Ψ t25,iv t26,iv (A.add ω t27 1)] [θ c6 Δ Δ] λr o=>
 AS 1 [0] (AH.mk [(0,θ c6 Δ Δ)] 1 Ξ) [] r o)
 (br (Gv (E8 xs)) (br (Ba (n6+AT xs) 40) (br ((0+n6*3).ble c6.length) (AW D (Awa 230 1) [υ 0 0 (n6+AT xs) 3,Ψ t25,iv t26,iv (A.add ω t27 1)] [θ (Av8 0 (κ (0+n6*3) c6)++E8 xs) Δ Δ] λr o=>
 AS 1 [1] (AH.mk [(1,θ (Av8 0 (κ (0+n6*3) c6)++E8 xs) Δ Δ)] 2 Ξ) [0] r o) Ξ) Ξ) Ξ)) Ξ)
 (Θ ((Awe [iv 2,υ 1 0 n6 3],[BO.del,Awn (θ c6 Δ Δ)]))):=by kernel_rfl
theorem As1(x0_0:Bool)(x0_1:Rw):B3 A D Au Alo .n 125 Amd [δ [bv x0_0,Ψ x0_1]] [] =
 Ai D (φ 138) [δ [bv x0_0,Ψ x0_1]] [] [.a,.B,.L,.N,.E] λb xs=>
 Θ ((δ [Ψ [],bv b,Ψ xs],[])):=by kernel_rfl
theorem AtC(x0_0:Rw)(x0_1:Bool)(x0_2 x1_0:Rw)(x1_1:Bool)(x1_2:Rw):B3 A D Au AlP .n 185 AmE [δ [Ψ x0_0,bv x0_1,Ψ x0_2],δ [Ψ x1_0,bv x1_1,Ψ x1_2]] [] =
 Ai D (φ 230) [Ψ [[Ψ x0_0],[Ψ x1_0]]] [] [.l,.E] λxs=>
 Ai D (φ 139) [δ [bv x0_1,Ψ x0_2],δ [bv x1_1,Ψ x1_2]] [] [.a,.B,.L,.N,.E] λb xs1=>
 Ai D (φ 62) [δ [Ψ xs,bv b,Ψ xs1]] [] [.a,.L,.B,.L,.N,.E] λxs2 b1 xs3=>
 Θ ((δ [Ψ xs2,bv b1,Ψ xs3],[])):=by kernel_rfl
theorem e68(x0_0:Rw)(x0_1:Bool)(x0_2:Rw):B3 A D Au AqN .n 68 ArD [δ [Ψ x0_0,bv x0_1,Ψ x0_2]] [] =
 Ai D (φ 126) [iv (-1)] [] [.a,.B,.L,.N,.E] λb xs=>
 Ai D (φ 148) [δ [Ψ x0_0,bv x0_1,Ψ x0_2],δ [bv b,Ψ xs]] [] [.a,.L,.B,.L,.N,.E] λxs1 b1 xs2=>
 Θ ((δ [Ψ xs1,bv b1,Ψ xs2],[])):=by kernel_rfl
theorem Atg(x0_0:Rw)(x0_1:Bool)(x0_2:Rw)(x1_0:Bool)(x1_1:Rw):B3 A D Au Ud .n 148 Yf [δ [Ψ x0_0,bv x0_1,Ψ x0_2],δ [bv x1_0,Ψ x1_1]] [] =
 Ai D (φ 158) [δ [bv x0_1,Ψ x0_2],δ [bv x1_0,Ψ x1_1]] [] [.a,.B,.L,.N,.E] λb xs=>
 Ai D (Awa 148 0) [χ 0 0,χ 1 0,χ 2 0,Ψ x0_0,iv ↑(AT x0_0),iv 0] [bk [bv x1_0,Ψ x1_1],bk [Ψ [],bv Φ,Ψ []],bk [υ 3 0 0 3,bv b,Ψ xs],θ [] Δ Δ] [.t,.C,.x,.X,.Y] λc l2 o1=>
 br (BA 1 c)
 (dk [.P 1 0,.P 2 0,.N,.D,.T,.L,.B,.L,.N,.T,.C,.q 4 3,.B,.L,.N,.D,.R,.X,.E] [.l l2,.o o1] λ_ _ _ n b2 xs3 cs4=>
 br ((0+n*3).ble cs4.length) (AW D (φ 62) [δ [Ψ (Bo n 3 (κ (n*3) cs4)),bv b2,Ψ xs3]] [] λr2 o2=>
 dk [.a,.L,.B,.L,.N,.E] [.v r2,.o o2] λxs4 b3 xs5=>
 Θ ((δ [Ψ xs4,bv b3,Ψ xs5],[]))) Ξ)
 (Ξ):=by kernel_rfl
theorem AbK(i0:Bool)(i1 r0:Rw)(r1:Bool)(r2:Rw)(n5:Nat)(k1:Bool)(k2:Rw)(c5:Ab)(t14:Rw)(t15 t16:Int):Dc A D Au Ud .n 148 0 (A1 Yf 0).fst (A1 Yf 0).snd [χ 0 0,χ 1 0,χ 2 0,Ψ t14,iv t15,iv t16] [bk [bv i0,Ψ i1],bk [Ψ r0,bv r1,Ψ r2],bk [υ 3 0 n5 3,bv k1,Ψ k2],{ cells:=c5,st:=Δ,ex:=Δ }] =
 br (A.lt t16 t15)
 (unI t16 λi=>
 Bw t14 i λcs=>
 dk [.I,.B,.L,.N] [.l cs] λn b xs=>
 Ai D (φ 158) [δ [bv b,Ψ xs],δ [bv i0,Ψ i1]] [] [.a,.B,.L,.N,.E] λb1 xs1=>
 br (Ba (n5+1) 40) (br ((0+n5*3).ble c5.length) (AW D (Awa 148 0) [χ 0 0,χ 1 0,χ 2 0,Ψ t14,iv t15,iv (A.add ω t16 1)] [bk [bv i0,Ψ i1],bk [Ψ r0,bv r1,Ψ r2],bk [υ 3 0 (n5+1) 3,bv k1,Ψ k2],θ (Av8 0 (κ (0+n5*3) c5)++[iv n,bv b1,Ψ xs1]) Δ Δ] λr3 o1=>
 AS 4 [0,1,2,6] (AH.mk [(1,bk [Ψ r0,bv r1,Ψ r2]),(0,bk [bv i0,Ψ i1]),(2,bk [υ 6 0 (n5+1) 3,bv k1,Ψ k2]),(6,θ (Av8 0 (κ (0+n5*3) c5)++[iv n,bv b1,Ψ xs1]) Δ Δ),(5,θ [iv n,bv b1,Ψ xs1] Δ Δ),(4,bk [iv n,bv b,Ψ xs])] 7 Ξ) [3,2,0,1] r3 o1) Ξ) Ξ)
 (Θ ((Awe [iv 0,χ 1 0,χ 2 0],[BO.del,Awn (bk [Ψ r0,bv r1,Ψ r2]),Awn (bk [υ 4 0 n5 3,bv k1,Ψ k2]),BO.del,Awn (θ c5 Δ Δ)]))):=by kernel_rfl
theorem As3(x0_0:Rw)(x0_1:Bool)(x0_2 x1_0:Rw)(x1_1:Bool)(x1_2:Rw):B3 A D Au Alq .n 127 Amf [δ [Ψ x0_0,bv x0_1,Ψ x0_2],δ [Ψ x1_0,bv x1_1,Ψ x1_2]] [] =
 Ai D (φ 68) [δ [Ψ x1_0,bv x1_1,Ψ x1_2]] [] [.a,.L,.B,.L,.N,.E] λxs b xs1=>
 Ai D (φ 185) [δ [Ψ x0_0,bv x0_1,Ψ x0_2],δ [Ψ xs,bv b,Ψ xs1]] [] [.a,.L,.B,.L,.N,.E] λxs2 b1 xs3=>
 Θ ((δ [Ψ xs2,bv b1,Ψ xs3],[])):=by kernel_rfl
theorem e28(x0_0:Rw)(x0_1:Bool)(x0_2:Rw):B3 A D Au AqC .n 28 Ars [δ [Ψ x0_0,bv x0_1,Ψ x0_2]] [] =
 Ai D (φ 62) [δ [Ψ x0_0,bv x0_1,Ψ x0_2]] [] [.a,.L,.B,.L,.N,.E] λxs b xs1=>
 Θ ((δ [Ψ xs,bv b,Ψ xs1,bv Φ],[])):=by kernel_rfl
end
def eR(r:List Pt):Ab:=[.ls (r.map eP)]
theorem WI(p:Pt):Gv (eP p)=Δ:=rfl
def Ri(x:Zi)(p:Pt):Pt:=⟨p.v,AQ (zv p.z*zv x)⟩
theorem Am5{a b:Nat}(h:a+b<4611686018427387904):Ap.add .i64 (a:Int) (b:Int)=((a+b:Nat):Int):=by
 rw[GU (by omega) (by omega)];omega
section
variable {D:Orc} {M:Nat} (Kt:Knows Au Ge D) (Kf:Knows Au Ls D) (Ks:SrtF D M) (Z:ZF D) (C:PartF D)
include Kf
theorem Anq(rs:List (List Pt))(X:Rw)(hr:rs.length<=1000000):∀(m i s:Nat),rs.length-i=m->i<=rs.length->s+(rs.drop i).flatten.length<=1000000000->
  D.ask (.lp 230 0) [.ls X,iv (s:Int),.ls (rs.map eR),iv (rs.length:Int),iv (i:Int)] []=Θ (.tup [iv 0,.ls X,iv ((s+(rs.drop i).flatten.length:Nat):Int)],[]):=by
 intro m
 induction m with
 |zero=>
  intro i s hm hi hs;rw[Awb (by omega)];refine AE Kf MM (Ab5 ..) ?_;exact AA rfl
 |succ m ih=>
  intro i s hm hi hs;have h1:i<rs.length:=by omega
  rw[η h1,Axp,ε]at hs ⊢;have ih:=ih (i+1) (s+rs[i].length) (by omega) (by omega) (by omega);rw[show s+rs[i].length+(rs.drop (i+1)).flatten.length=s+(rs[i].length+(rs.drop (i+1)).flatten.length) by omega]at ih;refine AE Kf MM (Ab5 ..) ?_;refine AB ?_;rw[AI,Az (ξ h1)];simp only[eR,Aj];rw[Al,Am5 (by omega),BU (by omega)];refine AA ?_;refine Aa ih ?_;rfl
theorem Anr(rs:List (List Pt))(hr:rs.length<=1000000):∀(m i:Nat) (out:List Pt),rs.length-i=m->i<=rs.length->out.length+(rs.drop i).flatten.length<=1000000000->
  D.ask (.lp 230 1) [.sl 0 0 out.length 3,.ls (rs.map eR),iv (rs.length:Int),iv (i:Int)] [Ky out]=Θ (.tup [iv 2,.sl 1 0 (out++(rs.drop i).flatten).length 3],[.del,.set (Ky (out++(rs.drop i).flatten))]):=by
 intro m
 induction m with
 |zero=>
  intro i out hm hi hs;rw[Awb (by omega),List.flatten_nil,AwF];refine AE Kf MM (Ab6 ..) ?_;exact AA rfl
 |succ m ih=>
  intro i out hm hi hs;have h1:i<rs.length:=by omega
  rw[η h1,Axp]at hs ⊢;rw[ε]at hs;have ih:=ih (i+1) (out++rs[i]) (by omega) (by omega) (by rw[ε];omega);rw[Awd]at ih;refine AE Kf MM (Ab6 ..) ?_;refine AB ?_;rw[AI,Az (ξ h1)];revert hs ih;generalize rs[i]=r;intro hs ih;simp only[eR,Aj];rw[El AU,Al,BU (by omega)];refine Ah ?_
  by_cases h0:r=[]
  .subst h0
   rw[AwF]at ih;rw[Awv]at ih ⊢;refine Ah ?_;refine Aa ih ?_;rfl
  .have hz:Nat.beq r.length 0=Φ:=by
    cases r with
    |nil=>exact absurd rfl h0
    |cons x r=>rfl
   rw[hz];refine BR ?_;rw[Eo,FG WI];refine Ah ?_;rw[AP (n:=out.length+r.length) (b:=40) (by omega) (by omega)];refine Ah ?_;rw[show Awf (0+out.length*3) (Ao eP out).length=Δ from AK AU out (by omega)];refine Ah ?_;have e3:Av8 0 (κ (0+out.length*3) (Ao eP out))++Ao eP r=Ao eP (out++r):=by
    rw[ο,Bb AU out (by omega)];simp[Ao]
   rw[e3];rw[show (out++r).length=out.length+r.length from ε]at ih;refine Aa ih ?_;rfl
include C in
theorem Zv(a b:List Pt)(h:a.length+b.length<=1000000):D.ask (.fn 230) [.ls [[.ls (a.map eP)],[.ls (b.map eP)]]] []=Θ (.ls ((a++b).map eP),[]):=by
 have hf:([a,b]).flatten=a++b:=by simp
 have g0:=Anq Kf [a,b] (([a,b]).map eR) (by simp) _ 0 0 rfl (by simp) (by rw[ο,hf,ε];omega);rw[ο,hf,Awt]at g0;have gg:=C.grow (a++b).length (by rw[ε];omega);have g1:=Anr Kf [a,b] (by simp) _ 0 [] rfl (by simp) (by rw[ο,hf,ε];simp;omega);rw[ο,hf,Awv]at g1;refine AC Kf MM (AtW ..) ?_;refine Aa g0 ?_;simp only[Aj];refine Aa gg ?_;simp only[Aj];refine Aa g1 ?_;simp only[Aj];rw[show Awf (0+(a++b).length*3) (Ao eP (a++b)).length=Δ from AK AU (a++b) (by omega)];refine Ah ?_;rw[Bi AU (a++b) rfl];rfl
include Kt Ks Z C
theorem Am6{n m k:Nat}{a b:Tm}(ha:TmB n k a)(hb:TmB m k b)(hn:n+m<=M)(hk:k+1+(n+m)<=900000000):D.ask (.fn 185) [.agg (eT a),.agg (eT b)] []=Θ (.agg (eT (a.lf.add b.lf).tm),[]):=by
 have hM:=Ks.le;obtain⟨ap,ak⟩:=a;obtain⟨bp,bk⟩:=b;have l1:ap.length<=n:=ha.len;have l2:bp.length<=m:=hb.len;have gc:=Zv Kf C ap bp (by omega);have ga:=Z.add ak bk (ha.k.mono (by omega)) (hb.k.mono (by omega));have hT:TmB (n+m) (k+1) ⟨ap++bp,AQ (zv ak+zv bk)⟩:=by
  refine⟨by simp;omega,λp hp=>?_,?_⟩
  .rcases AwN.1 hp with h|h
   .exact(ha.ps p h).mono (by omega)
   .exact(hb.ps p h).mono (by omega)
  .exact(InB.add ha.k.inb hb.k.inb).lz
 have gp:=E6 Kt Ks Z C hT hn (by omega);have el:(⟨ap++bp,AQ (zv ak+zv bk)⟩:Tm).lf.pln=Lf.add (Tm.lf ⟨ap,ak⟩) (Tm.lf ⟨bp,bk⟩):=by
  unfold Lf.add Tm.lf;simp only[List.map_append,Bm]
 rw[el]at gp;refine AC Kf AlP (AtC ..) ?_;refine Aa gc ?_;simp only[Aj];refine Aa ga ?_;simp only[eZ,eN,Aj];refine Aa gp ?_;rfl
omit Kt Ks C in
theorem Aeh{k j:Nat}{x:Zi}(hx:Lz j x)(hx24:x.abs.length<24)(ps:List Pt)(hl:ps.length<=1000000)(hz:∀ p∈ps,Lz k p.z)(hk:k<=400000000)(hj:j<=400000000)(r0:Rw)(r1:Bool)(r2:Rw)(k1:Bool)(k2:Rw):∀(m i:Nat) (out:List Pt),ps.length-i=m->i<=ps.length->out.length<=i->
  D.ask (.lp 148 0) [.ptr 0 0,.ptr 1 0,.ptr 2 0,.ls (ps.map eP),iv (ps.length:Int),iv (i:Int)] [⟨eZ x,Δ,Φ⟩,⟨[.ls r0,bv r1,.ls r2],Δ,Φ⟩,⟨[.sl 3 0 out.length 3,bv k1,.ls k2],Δ,Φ⟩,Ky out]
   = Θ (.tup [iv 0,.ptr 1 0,.ptr 2 0],[.del,.set ⟨[.ls r0,bv r1,.ls r2],Δ,Φ⟩,.set ⟨[.sl 4 0 (out++(ps.drop i).map (Ri x)).length 3,bv k1,.ls k2],Δ,Φ⟩,.del,.set (Ky (out++(ps.drop i).map (Ri x)))]):=by
 intro m
 induction m with
 |zero=>
  intro i out hm hi ho;rw[Awb (by omega),Axb,AwF];refine AE Kf Ud (AbK ..) ?_;exact AA rfl
 |succ m ih=>
  intro i out hm hi ho;have h1:i<ps.length:=by omega
  have hzk:=hz ps[i] (Aws h1);have gm:=Z.mul ps[i].z x (hzk.mono (by omega)) (hx.mono (by omega)) (.inr hx24);rw[η h1,Awq];have ih:=ih (i+1) (out++[Ri x ps[i]]) (by omega) (by omega) (by simp;omega);rw[Awd,AwO,show (out++[Ri x ps[i]]).length=out.length+1 by simp]at ih;have hf:Ba (out.length+1) 40=Δ:=AP (by omega) (by omega);have hb1:Awf (0+out.length*3) (Ao eP out).length=Δ:=AK AU out (by omega);have e3:Av8 0 (κ (0+out.length*3) (Ao eP out))++[iv ps[i].v,bv (AQ (zv ps[i].z*zv x)).neg,eN (AQ (zv ps[i].z*zv x)).abs]=Ao eP (out++[Ri x ps[i]]):=by
   rw[ο,Bb AU out (by omega)];exact Bc eP out (Ri x ps[i])
  obtain⟨xn,xa⟩:=x;refine AE Kf Ud (AbK ..) ?_;refine AB ?_;rw[AI,Az (ξ h1)];simp only[eP,eN,Aj];refine Aa gm ?_;simp only[eZ,eN,Aj]at e3 ⊢;rw[hf];refine Ah ?_;rw[hb1];refine Ah ?_;rw[e3,BU (by omega)];refine Aa ih ?_;rfl
theorem Aei{n k j:Nat}{a:Tm}{x:Zi}(ha:TmB n k a)(hx:Lz j x)(hx24:x.abs.length<24)(hn:n<=M)(hj:j<=23)(hk:k+j+n<=400000000):D.ask (.fn 148) [.agg (eT a),.agg (eZ x)] []=Θ (.agg (eT (a.lf.scale (zv x)).tm),[]):=by
 have hM:=Ks.le;obtain⟨ap,ak⟩:=a;have l1:ap.length<=n:=ha.len;have gm:=Z.mul ak x (ha.k.mono (by omega)) (hx.mono (by omega)) (.inr hx24);have gl:=Aeh Kf Z hx hx24 ap (by omega) ha.ps (by omega) (by omega) [] Φ [] (AQ (zv ak*zv x)).neg ((AQ (zv ak*zv x)).abs.map eL) _ 0 [] rfl (by omega) (by simp);rw[ο,Awv]at gl;have hT:TmB n (k+j) ⟨ap.map (Ri x),AQ (zv ak*zv x)⟩:=by
  refine⟨by simpa using l1,λp hp=>?_,(InB.mul ha.k.inb hx.inb).lz⟩;rw[AwV]at hp;obtain⟨q,hq,rfl⟩:=hp;exact(InB.mul (ha.ps q hq).inb hx.inb).lz
 have gp:=E6 Kt Ks Z C hT hn (by omega);have el:(⟨ap.map (Ri x),AQ (zv ak*zv x)⟩:Tm).lf.pln=Lf.scale (Tm.lf ⟨ap,ak⟩) (zv x):=by
  unfold Lf.scale Tm.lf;simp only[AxE,Bm]
  congr 2
  refine List.map_congr_left λp _=>?_
  show ((p.v,zv (AQ (zv p.z*zv x))):Int × Int)=_
  rw[Bm];rfl
 rw[el]at gp;obtain⟨xn,xa⟩:=x;refine AC Kf Ud (Atg ..) ?_;refine Aa gm ?_;simp only[eZ,eN,Aj,Al];refine Aa gl ?_;simp only[Aj];rw[show Awf (0+(ap.map (Ri ⟨xn,xa⟩)).length*3) (Ao eP (ap.map (Ri ⟨xn,xa⟩))).length=Δ from AK AU _ (by omega)];refine Ah ?_;rw[Bi AU _ rfl];refine Aa gp ?_;rfl
theorem SG{n k:Nat}{a:Tm}(ha:TmB n k a)(hn:n<=M)(hk:k+1+n<=400000000):D.ask (.fn 68) [.agg (eT a)] []=Θ (.agg (eT (a.lf.scale (-1)).tm),[]):=by
 have hM:=Ks.le;have g1:=Z.of_ (-1) (by omega) (by omega);have hx:Lz 1 (AQ (-1)):=InB.lz (by unfold InB;decide);have g2:=Aei Kt Kf Ks Z C ha hx (by have:=hx.len;omega) hn (by omega) hk;rw[Bm]at g2;refine AC Kf AqN (e68 ..) ?_;refine Aa g1 ?_;simp only[eZ,eN,Aj];refine Aa g2 ?_;rfl
theorem Apw{n m k:Nat}{a b:Tm}(ha:TmB n k a)(hb:TmB m k b)(hn:n+m<=M)(hk:k+2+2*(n+m)<=400000000):D.ask (.fn 127) [.agg (eT a),.agg (eT b)] []=Θ (.agg (eT (a.lf.sub b.lf).tm),[]):=by
 have hM:=Ks.le;have g1:=SG Kt Kf Ks Z C hb (by omega) (by omega);have hn1:LB m (k+1+m) (b.lf.scale (-1)):=hb.lb.scale (by unfold InB;decide);have g2:=Am6 Kt Kf Ks Z C (ha.mono (π _) (show k<=k+1+m by omega)) hn1.tb hn (by omega);rw[Ek]at g2;refine AC Kf Alq (As3 ..) ?_;refine Aa g1 ?_;simp only[eT,eN,Aj];refine Aa g2 ?_;rfl
omit Ks C in
theorem Z2{z:Zi}(hz:Lz 1000000000 z):D.ask (.fn 125) [.agg (eZ z)] []=Θ (.agg (eT (Lf.num (zv z)).tm),[]):=by
 have g:=Fw Kt Z hz;refine AC Kf Alo (As1 ..) ?_;refine Aa g ?_;rfl
theorem Adc{n k:Nat}{t:Tm}(h:TmB n k t)(hn:n<=M)(hk:k+n<=900000000):D.ask (.fn 28) [.agg (eT t)] []=Θ (.agg (eT t.lf.pln.tm++[bv Φ]),[]):=by
 have g:=E6 Kt Ks Z C h hn hk;refine AC Kf AqC (e28 ..) ?_;refine Aa g ?_;rfl
end
section
open Go.RowKit
def AmA:MFn:=AN [] 170
def AlL:Hnt:=⟨[(62,(.agg BJ,[]))],[],[(4,BJ),(7,[.bool])]⟩
def ArO:MFn:=AN [] 98
def AqY:Hnt:=⟨[(170,(.agg Di,[]))],[],[(3,Di)]⟩
def ArN:MFn:=AN [] 95
def AqX:Hnt:=⟨[],[],[]⟩
def Amz:MFn:=AN [] 166
def AlK:Hnt:=⟨[],[],[(4,[.int .i64]),(9,[.ls]),(13,[.ls]),(15,[.ls])]⟩
def Al7:MFn:=AN [] 107
def Alj:Hnt:=⟨[(95,(.agg Bn,[])),(98,(.agg Bn,[])),(165,(.ls,[])),(166,(.ls,[]))],[],[(4,[.int .i64]),(11,Di),(18,[.int .i64]),(19,Bn)]⟩
def Yi:MFn:=AN [⟨19,(mB 456),[(3,6)],[],[(1,((mB 8),([],[])))]⟩] 165
def Uh:Hnt:=⟨[(107,(.agg Bn,[]))],[(0,[(1,([.sl 1 6],[.del,.row Δ]))])],[(10,Bn),(11,Bn),(13,Bn)]⟩
def Auf:MFn:=AN [] 49
def Auj:MFn:=AN [] 92
def Auk:MFn:=AN [] 94
def Aug:MFn:=AN [] 54
def Rm:List (Nat × MFn):=[(170,AmA),(98,ArO),(95,ArN),(166,Amz),(107,Al7),(165,Yi),(49,Auf),(92,Auj),(94,Auk),(54,Aug)]
variable (A:Ar) (D:Orc)
theorem Atu(x0_0:Rw)(x0_1:Bool)(x0_2:Rw)(x0_3:Bool):B3 A D Au AlL .n 170 AmA [δ [Ψ x0_0,bv x0_1,Ψ x0_2,bv x0_3]] [] =
 Ai D (φ 62) [δ [Ψ x0_0,bv x0_1,Ψ x0_2]] [] [.a,.L,.B,.L,.N,.E] λxs b xs1=>
 Θ ((δ [Ψ xs,bv b,Ψ xs1,bv x0_3],[])):=by kernel_rfl
theorem e98(x0_0:Rw)(x0_1:Bool)(x0_2:Rw)(x0_3:Bool):B3 A D Au AqY .n 98 ArO [δ [Ψ x0_0,bv x0_1,Ψ x0_2,bv x0_3]] [] =
 Ai D (φ 170) [δ [Ψ x0_0,bv x0_1,Ψ x0_2,bv x0_3]] [] [.a,.L,.B,.L,.B,.N,.E] λxs b xs1 b1=>
 Θ ((δ [iv 2,Ψ xs,bv b,Ψ xs1,bv b1,Ψ []],[])):=by kernel_rfl
theorem e95(x0:Bool):B3 A D Au AqX .n 95 ArN [bv x0] [] =
 br x0
 (Θ ((δ [iv 0,Ψ [],bv Φ,Ψ [],bv Φ,Ψ []],[])))
 (Θ ((δ [iv 1,Ψ [],bv Φ,Ψ [],bv Φ,Ψ []],[]))):=by kernel_rfl
theorem Att(x0_0:Int)(x0_1:Rw)(x0_2:Bool)(x0_3:Rw)(x0_4:Bool)(x0_5:Rw):B3 A D Au AlK .n 166 Amz [δ [iv x0_0,Ψ x0_1,bv x0_2,Ψ x0_3,bv x0_4,Ψ x0_5]] [] =
 br (A.eq x0_0 4)
 (Θ ((Ψ x0_5,[])))
 (br (A.eq x0_0 5)
 (Θ ((Ψ x0_5,[])))
 (br (A.eq x0_0 3)
 (unI (A.min (↑(AT x0_5)) 1) λi=>
 br (HY 0 i (AT x0_5)) (br (EG 6 x0_5) (Θ ((Ψ (HL (HT x0_5 i) 0),[]))) Ξ) Ξ)
 (Θ ((Ψ [],[]))))):=by kernel_rfl
theorem AsU(x0_0:Int)(x0_1:Rw)(x0_2:Bool)(x0_3:Rw)(x0_4:Bool)(x0_5:Rw):B3 A D Au Alj .n 107 Al7 [δ [iv x0_0,Ψ x0_1,bv x0_2,Ψ x0_3,bv x0_4,Ψ x0_5]] [] =
 br (A.eq x0_0 0)
 (Ai D (φ 95) [bv Δ] [] [.a,.I,.L,.B,.L,.B,.L,.N,.E] λn xs b xs1 b1 xs2=>
 Θ ((δ [iv n,Ψ xs,bv b,Ψ xs1,bv b1,Ψ xs2],[])))
 (br (A.eq x0_0 2)
 (Ai D (φ 98) [δ [Ψ x0_1,bv x0_2,Ψ x0_3,bv x0_4]] [] [.a,.I,.L,.B,.L,.B,.L,.N,.E] λn xs b xs1 b1 xs2=>
 Θ ((δ [iv n,Ψ xs,bv b,Ψ xs1,bv b1,Ψ xs2],[])))
 (br (A.eq x0_0 3)
 (Ai D (φ 166) [δ [iv x0_0,Ψ x0_1,bv x0_2,Ψ x0_3,bv x0_4,Ψ x0_5]] [] [.l,.E] λxs=>
 Ai D (φ 165) [Ψ xs] [] [.l,.E] λxs1=>
 Θ ((δ [iv x0_0,Ψ [],bv Φ,Ψ [],bv Φ,Ψ xs1],[])))
 (br (A.eq x0_0 4)
 (Ai D (φ 166) [δ [iv x0_0,Ψ x0_1,bv x0_2,Ψ x0_3,bv x0_4,Ψ x0_5]] [] [.l,.E] λxs=>
 Ai D (φ 165) [Ψ xs] [] [.l,.E] λxs1=>
 Θ ((δ [iv x0_0,Ψ [],bv Φ,Ψ [],bv Φ,Ψ xs1],[])))
 (br (A.eq x0_0 5)
 (Ai D (φ 166) [δ [iv x0_0,Ψ x0_1,bv x0_2,Ψ x0_3,bv x0_4,Ψ x0_5]] [] [.l,.E] λxs=>
 Ai D (φ 165) [Ψ xs] [] [.l,.E] λxs1=>
 Θ ((δ [iv x0_0,Ψ [],bv Φ,Ψ [],bv Φ,Ψ xs1],[])))
 (Ai D (φ 95) [bv Φ] [] [.a,.I,.L,.B,.L,.B,.L,.N,.E] λn xs b xs1 b1 xs2=>
 Θ ((δ [iv n,Ψ xs,bv b,Ψ xs1,bv b1,Ψ xs2],[]))))))):=by kernel_rfl
theorem Ats(x0:Rw):B3 A D Au Uh .n 165 Yi [Ψ x0] [] =
 Ai D (Awa 165 0) [υ 0 0 0 6,Ψ x0,iv ↑(AT x0),iv 0] [θ [] Δ Δ] [.t,.C,.x,.X,.Y] λc l o=>
 br (BA 1 c)
 (dk [.C,.q 1 6,.N,.D,.R,.X,.E] [.l l,.o o] λn cs1=>
 br ((0+n*6).ble cs1.length) (Θ ((Ψ (Bo n 6 (κ (n*6) cs1)),[]))) Ξ)
 (Ξ):=by kernel_rfl
theorem AbP(n3:Nat)(c3:Ab)(t6:Rw)(t7 t8:Int):Dc A D Au Uh .n 165 0 (A1 Yi 0).fst (A1 Yi 0).snd [υ 0 0 n3 6,Ψ t6,iv t7,iv t8] [{ cells:=c3,st:=Δ,ex:=Δ }] =
 br (A.lt t8 t7)
 (unI t8 λi=>
 Bw t6 i λcs=>
 dk [.I,.L,.B,.L,.B,.L,.N] [.l cs] λn xs b xs1 b1 xs2=>
 Ai D (φ 107) [δ [iv n,Ψ xs,bv b,Ψ xs1,bv b1,Ψ xs2]] [] [.a,.I,.L,.B,.L,.B,.L,.N,.E] λn1 xs3 b2 xs4 b3 xs5=>
 br (Ba (n3+1) 96) (br ((0+n3*6).ble c3.length) (AW D (Awa 165 0) [υ 0 0 (n3+1) 6,Ψ t6,iv t7,iv (A.add ω t8 1)] [θ (Av8 0 (κ (0+n3*6) c3)++[iv n1,Ψ xs3,bv b2,Ψ xs4,bv b3,Ψ xs5]) Δ Δ] λr1 o1=>
 AS 1 [3] (AH.mk [(3,θ (Av8 0 (κ (0+n3*6) c3)++[iv n1,Ψ xs3,bv b2,Ψ xs4,bv b3,Ψ xs5]) Δ Δ),(2,θ [iv n1,Ψ xs3,bv b2,Ψ xs4,bv b3,Ψ xs5] Δ Δ),(1,bk [iv n,Ψ xs,bv b,Ψ xs1,bv b1,Ψ xs2])] 4 Ξ) [0] r1 o1) Ξ) Ξ)
 (Θ ((Awe [iv 0,υ 1 0 n3 6],[BO.del,Awn (θ c3 Δ Δ)]))):=by kernel_rfl
end
theorem Dg(k:Int)(t:Tm)(e:Bool)(ks:List Fm):CB (.mk k t e ks)=if k=4\/k=5 then ks else if k=3 then ks.take 1 else []:=rfl
theorem Fo{k:Int}{t:Tm}{e:Bool}{ks:List Fm}{x:Fm}(hx:x∈CB (.mk k t e ks)):x∈ks:=by
 rw[Dg]at hx;split at hx
 .exact hx
 .split at hx
  .exact List.mem_of_mem_take hx
  .cases hx
theorem ZR(k:Int)(t:Tm)(e:Bool)(ks:List Fm):(CB (.mk k t e ks)).length<=ks.length:=by
 rw[Dg];split
 .exact π _
 .split
  .simp;omega
  .simp
theorem BF(x:Fm):(eF x).length=6:=by
 obtain⟨k,t,e,ks⟩:=x;rw[eF];rfl
inductive FB (n k:Nat):Fm->Prop
 |mk {kind:Int} {t:Tm} {e:Bool} {ks:List Fm} (ht:TmB n k t) (hl:ks.length<=1000000) (h:∀ x∈ks,FB n k x):FB n k (.mk kind t e ks)
inductive FC (n k:Nat):Fm->Prop
 |mk {kind:Int} {t:Tm} {e:Bool} {ks:List Fm} (ht:kind=2->TmB n k t) (hl:(CB (.mk kind t e ks)).length<=1000000) (h:∀ x∈CB (.mk kind t e ks),FC n k x):FC n k (.mk kind t e ks)
theorem LB.sub{n m k:Nat}{a b:Lf}(ha:LB n k a)(hb:LB m k b):LB (n+m) (2*k+2+2*(n+m)) (a.sub b):=by
 have h1:LB m (k+1+m) (b.scale (-1)):=hb.scale (by unfold InB;decide);exact(ha.add h1).mono (π _) (by omega)
theorem Ce{k:Int}{t:Tm}{e:Bool}{ks:List Fm}{x:Fm}(h:x∈ks):SizeOf.sizeOf x<SizeOf.sizeOf (Fm.mk k t e ks):=by
 have:=List.sizeOf_lt_of_mem h;simp only[Fm.mk.sizeOf_spec];omega
theorem FB.fc{n k:Nat}:∀(N:Nat) (x:Fm),SizeOf.sizeOf x<N->FB n k x->FC n k x:=by
 intro N
 induction N with
 |zero=>intro x h;omega
 |succ N ih=>
  intro x hN hx;obtain⟨ht,hl,h⟩:=hx;rename_i kd t e ks;exact .mk (λ_=>ht) (Awy (ZR kd t e ks) hl) λy hy=>ih y (by have:=Ce (k:=kd) (t:=t) (e:=e) (Fo hy);omega) (h y (Fo hy))
section
variable {D:Orc} {M:Nat} (Kt:Knows Au Ge D) (Kf:Knows Au Ls D) (Ks:SrtF D M) (Z:ZF D) (C:PartF D) (Ko:Knows Au Rm D)
include Ko
theorem D1(b:Bool):D.ask (.fn 95) [bv b] []=Θ (.agg (eF (Hz b)),[]):=by
 refine AC Ko AqX (e95 ..) ?_
 cases b<;>rfl
include Kt Ks Z C in
theorem Ze{n k:Nat}{t:Tm}(h:TmB n k t)(hn:n<=M)(hk:k+n<=900000000)(e:Bool):D.ask (.fn 98) [.agg [.ls (t.ps.map eP),bv t.k.neg,eN t.k.abs,bv e]] []=Θ (.agg (eF (Ea t.lf.pln e)),[]):=by
 have g:=E6 Kt Ks Z C h hn hk;obtain⟨ps,kz⟩:=t;have g2:D.ask (.fn 170) [.agg [.ls (ps.map eP),bv kz.neg,eN kz.abs,bv e]] []=Θ (.agg (eT (Tm.lf ⟨ps,kz⟩).pln.tm++[bv e]),[]):=by
  refine AC Ko AlL (Atu ..) ?_;refine Aa g ?_;rfl
 refine AC Ko AqY (e98 ..) ?_;refine Aa g2 ?_;rfl
theorem Sr(x:Fm):D.ask (.fn 166) [.agg (eF x)] []=Θ (.ls ((CB x).map eF),[]):=by
 obtain⟨k,t,e,ks⟩:=x;refine AC Ko AlK (Att ..) ?_;rw[AY];rw[Dg]
 by_cases h4:k=4
 .rw[Ac (.inl h4)]
  exact DP h4
 refine Ay ?_ h4
 by_cases h5:k=5
 .rw[Ac (.inr h5)]
  exact DP h5
 refine Ay ?_ h5;rw[Ad (by omega)]
 by_cases h3:k=3
 .rw[Ac h3]
  refine AG ?_ h3;rw[Al,Ar8,show min (ks.length:Int) 1=((min ks.length 1:Nat):Int) by omega,AI];rw[show HY 0 (min ks.length 1) ks.length=Δ by unfold HY;rw[AxW (Awz _),AxW (Nat.min_le_left ..)]];refine Ah ?_;rw[El BF];refine Ah ?_;rw[GZ,GG,ο,←List.map_take];have:ks.take (min ks.length 1)=ks.take 1:=by
   rw[List.take_eq_take_iff];omega
  rw[this]
 .rw[Ad h3]
  exact Ay rfl h3
theorem Zr(ks:List Fm)(hl:ks.length<=1000000)(g:∀ x∈ks,D.ask (.fn 107) [.agg (eF x)] []=Θ (.agg (eF (BI x)),[])):∀(m i:Nat) (out:List Fm),ks.length-i=m->i<=ks.length->out.length<=i->
  D.ask (.lp 165 0) [.sl 0 0 out.length 6,.ls (ks.map eF),iv (ks.length:Int),iv (i:Int)] [θ (Ao eF out) Δ Δ]=Θ (.tup [iv 0,.sl 1 0 (out++(ks.drop i).map BI).length 6],[.del,.set (θ (Ao eF (out++(ks.drop i).map BI)) Δ Δ)]):=by
 intro m
 induction m with
 |zero=>
  intro i out hm hi ho;rw[Awb (by omega),Axb,AwF];refine AE Ko Uh (AbP ..) ?_;exact AA rfl
 |succ m ih=>
  intro i out hm hi ho;have h1:i<ks.length:=by omega
  have gx:=g ks[i] (Aws h1);rw[η h1,Awq];have ih:=ih (i+1) (out++[BI ks[i]]) (by omega) (by omega) (by simp;omega);rw[Awd,AwO,show (out++[BI ks[i]]).length=out.length+1 by simp]at ih;have hf:Ba (out.length+1) 96=Δ:=AP (by omega) (by omega);have hb1:Awf (0+out.length*6) (Ao eF out).length=Δ:=AK BF out (by omega);have e3:Av8 0 (κ (0+out.length*6) (Ao eF out))++eF (BI ks[i])=Ao eF (out++[BI ks[i]]):=by
   rw[ο,Bb BF out (by omega)];exact Bc eF out _
  refine AE Ko Uh (AbP ..) ?_;refine AB ?_;rw[AI,Az (ξ h1)];revert gx ih e3;generalize BI ks[i]=y;generalize ks[i]=x;obtain⟨xk,xt,xe,xs⟩:=x;obtain⟨yk,yt,ye,ys⟩:=y;intro gx ih e3;simp only[eF,eN,Aj]at gx e3 ⊢;refine Aa gx ?_;simp only[Aj];rw[hf];refine Ah ?_;rw[hb1];refine Ah ?_;rw[e3,BU (by omega)];refine Aa ih ?_;rfl
theorem LJ{ks:List Fm}(hl:ks.length<=1000000)(g:∀ x∈ks,D.ask (.fn 107) [.agg (eF x)] []=Θ (.agg (eF (BI x)),[])):D.ask (.fn 165) [.ls (ks.map eF)] []=Θ (.ls ((ks.map BI).map eF),[]):=by
 have gl:=Zr Ko ks hl g _ 0 [] rfl (by omega) (by simp);rw[ο,Awv]at gl;refine AC Ko Uh (Ats ..) ?_;rw[Al];refine Aa gl ?_;simp only[Aj];rw[show Awf (0+(ks.map BI).length*6) (Ao eF (ks.map BI)).length=Δ from AK BF _ (by omega)];refine Ah ?_;rw[Bi BF _ rfl]
include Kt Ks Z C in
theorem LH{n k:Nat}(hn:n<=M)(hk:k+n<=900000000):∀(N:Nat) (x:Fm),SizeOf.sizeOf x<N->FC n k x->D.ask (.fn 107) [.agg (eF x)] []=Θ (.agg (eF (BI x)),[]):=by
 intro N
 induction N with
 |zero=>intro x h;omega
 |succ N ih=>
  intro x hN hx;obtain⟨ht,hl,h⟩:=hx;rename_i kd t e ks;refine AC Ko Alj (AsU ..) ?_;rw[BI]
  by_cases h0:kd=0
  .rw[Ac h0]
   refine AG ?_ h0;refine Aa (D1 Ko Δ) ?_;rfl
  rw[Ad h0];refine Ay ?_ h0
  by_cases h2:kd=2
  .rw[Ac h2]
   refine AG ?_ h2;refine Aa (Ze Kt Ks Z C Ko (ht h2) hn hk e) ?_;rfl
  rw[Ad h2];refine Ay ?_ h2
  by_cases h3:kd=3
  .rw[Ac h3,Il]
   refine AG ?_ h3;have hk:=Sr Ko (.mk kd t e ks);have gc:=LJ Ko hl λx hx=>ih x (by have:=Ce (k:=kd) (t:=t) (e:=e) (Fo hx);omega) (h x hx)
   simp only[eF,eN,Aj]at hk ⊢;refine Aa hk ?_;simp only[Aj];refine Aa gc ?_;rw[Dg];rw[Ad (by omega),Ac h3,h3];unfold kF;rw[eF,AY];rfl
  rw[Ad h3];refine Ay ?_ h3
  by_cases h4:kd=4
  .rw[Ac (.inl h4),EW]
   refine AG ?_ h4;have hk:=Sr Ko (.mk kd t e ks);have gc:=LJ Ko hl λx hx=>ih x (by have:=Ce (k:=kd) (t:=t) (e:=e) (Fo hx);omega) (h x hx)
   simp only[eF,eN,Aj]at hk ⊢;refine Aa hk ?_;simp only[Aj];refine Aa gc ?_;rw[Dg];rw[Ac (.inl h4)];unfold kF;rw[eF,AY];rfl
  refine Ay ?_ h4
  by_cases h5:kd=5
  .rw[Ac (.inr h5),EW]
   refine AG ?_ h5;have hk:=Sr Ko (.mk kd t e ks);have gc:=LJ Ko hl λx hx=>ih x (by have:=Ce (k:=kd) (t:=t) (e:=e) (Fo hx);omega) (h x hx)
   simp only[eF,eN,Aj]at hk ⊢;refine Aa hk ?_;simp only[Aj];refine Aa gc ?_;rw[Dg];rw[Ac (.inr h5)];unfold kF;rw[eF,AY];rfl
  rw[Ad (by omega)];refine Ay ?_ h5;refine Aa (D1 Ko Φ) ?_;rfl
include Kt Ks Z C in
theorem Abr{n k:Nat}(hn:n<=M)(hk:k+n<=900000000)(N:Nat)(x:Fm)(hN:SizeOf.sizeOf x<N)(h:FB n k x):D.ask (.fn 107) [.agg (eF x)] []=Θ (.agg (eF (BI x)),[]):=LH Kt Ks Z C Ko hn hk N x hN (FB.fc N x hN h)
include Kt Kf Ks Z C
end
section
open Go.RowKit
def Agv:MFn:=AN [⟨36,(mB 118),[],[2,4,5],[(1,((mB 48),([],[2])))]⟩] 77
def AcR:Hnt:=⟨[(122,(.agg AL,[]))],[(0,[(1,([.ptr 1 0,.ptr 2 0],[.del,.box AL,.box AL]))])],[(10,[.ls]),(16,[.ls]),(18,Cj),(20,[.int .i64]),(27,AL),(29,[.ls]),(31,Cj),(33,AL),(35,AL)]⟩
def Aui:MFn:=AN [⟨27,(mB 118),[],[2,4,5],[(1,((mB 48),([],[2])))]⟩] 87
def Aud:MFn:=AN [] 31
def Auc:MFn:=AN [⟨26,(mB 133),[],[],[(0,((mB 64),([],[]))),(1,([],([],[])))]⟩] 29
def Aue:MFn:=AN [⟨65,(mB 38),[],[2],[(0,((mB 16),([],[2]))),(2,([],([],[2])))]⟩,⟨65,(mB 70),[],[2],[(0,((mB 16),([],[2]))),(4,([],([],[2])))]⟩] 37
def IP:List (Nat × MFn):=[(77,Agv),(87,Aui),(31,Aud),(29,Auc),(37,Aue)]
variable (A:Ar) (D:Orc)
theorem e77(x0_0:Rw)(x0_1:Bool)(x0_2:Rw)(x1:Int):B3 A D Au AcR .n 77 Agv [δ [Ψ x0_0,bv x0_1,Ψ x0_2],iv x1] [] =
 Ai D (Awa 77 0) [iv x1,χ 0 0,χ 1 0,χ 2 0,iv 0] [bk [Ψ x0_0,bv x0_1,Ψ x0_2],bk [bv Φ,Ψ []],bk [bv Φ,Ψ []]] [.t,.C,.x,.X,.Y] λc l o=>
 br (BA 1 c)
 (dk [.P 1 0,.P 2 0,.N,.D,.T,.B,.L,.N,.T,.B,.L,.N,.E] [.l l,.o o] λ_ _ b1 xs1=>
 Θ ((δ [bv b1,Ψ xs1],[])))
 (Ξ):=by kernel_rfl
theorem Ak8(t1:Int)(b2_0:Rw)(b2_1:Bool)(b2_2:Rw)(b4_0:Bool)(b4_1:Rw)(b5_0:Bool)(b5_1:Rw)(t6:Int):Dc A D Au AcR .n 77 0 (A1 Agv 0).fst (A1 Agv 0).snd [iv t1,χ 0 0,χ 1 0,χ 2 0,iv t6] [bk [Ψ b2_0,bv b2_1,Ψ b2_2],bk [bv b4_0,Ψ b4_1],bk [bv b5_0,Ψ b5_1]] =
 br (A.lt t6 ↑(AT b2_0))
 (unI t6 λi=>
 Bw b2_0 i λcs=>
 dk [.I,.B,.L,.N] [.l cs] λn _ _=>
 br (A.eq n t1)
 (br (A.le 0 t1)
 (unI t6 λi1=>
 Bw b2_0 i1 λcs1=>
 dk [.I,.B,.L,.N] [.l cs1] λ_ b1 xs1=>
 Ai D (φ 122) [δ [bv b5_0,Ψ b5_1],δ [bv b1,Ψ xs1]] [] [.a,.B,.L,.N,.E] λb2 xs2=>
 AW D (Awa 77 0) [iv t1,χ 0 0,χ 1 0,χ 2 0,iv (A.add ω t6 1)] [bk [Ψ b2_0,bv b2_1,Ψ b2_2],bk [bv b4_0,Ψ b4_1],bk [bv b2,Ψ xs2]] λr1 o1=>
 AS 3 [0,1,2] (AH.mk [(2,bk [bv b2,Ψ xs2]),(1,bk [bv b4_0,Ψ b4_1]),(0,bk [Ψ b2_0,bv b2_1,Ψ b2_2])] 3 Ξ) [0,1,2] r1 o1)
 (AW D (Awa 77 0) [iv t1,χ 0 0,χ 1 0,χ 2 0,iv (A.add ω t6 1)] [bk [Ψ b2_0,bv b2_1,Ψ b2_2],bk [bv b4_0,Ψ b4_1],bk [bv b5_0,Ψ b5_1]] λr o=>
 AS 3 [0,1,2] (AH.mk [(2,bk [bv b5_0,Ψ b5_1]),(1,bk [bv b4_0,Ψ b4_1]),(0,bk [Ψ b2_0,bv b2_1,Ψ b2_2])] 3 Ξ) [0,1,2] r o))
 (AW D (Awa 77 0) [iv t1,χ 0 0,χ 1 0,χ 2 0,iv (A.add ω t6 1)] [bk [Ψ b2_0,bv b2_1,Ψ b2_2],bk [bv b4_0,Ψ b4_1],bk [bv b5_0,Ψ b5_1]] λr o=>
 AS 3 [0,1,2] (AH.mk [(2,bk [bv b5_0,Ψ b5_1]),(1,bk [bv b4_0,Ψ b4_1]),(0,bk [Ψ b2_0,bv b2_1,Ψ b2_2])] 3 Ξ) [0,1,2] r o))
 (Θ ((Awe [iv 0,χ 1 0,χ 2 0],[BO.del,Awn (bk [bv b4_0,Ψ b4_1]),Awn (bk [bv b5_0,Ψ b5_1])]))):=by kernel_rfl
end
theorem Aek(n:Int):Cb n=0 ↔ n=0:=by
 unfold Cb
 repeat' split
 all_goals omega
section
variable {D:Orc} (Kh:Knows Au IP D) (F:RF D)
include Kh F
theorem AfF{n k:Nat}{ps:List Pt}{kz:Zi}(ht:TmB n k ⟨ps,kz⟩)(hn:n<=1000000)(hk:k+n<=400000000)(v:Int)(y0:Bool)(y1:Rw):∀(m i:Nat) (acc:Int),ps.length-i=m->i<=ps.length->InB (k+i) acc->
  D.ask (.lp 77 0) [iv v,.ptr 0 0,.ptr 1 0,.ptr 2 0,iv (i:Int)] [⟨[.ls (ps.map eP),bv kz.neg,eN kz.abs],Δ,Φ⟩,⟨[bv y0,.ls y1],Δ,Φ⟩,⟨eZ (AQ acc),Δ,Φ⟩]
   = Θ (.tup [iv 0,.ptr 1 0,.ptr 2 0],[.del,.set ⟨[bv y0,.ls y1],Δ,Φ⟩,.set ⟨eZ (AQ (acc+if 0<=v then BE v ((ps.drop i).map pv) else 0)),Δ,Φ⟩]):=by
 have hlen:ps.length<=n:=ht.len;intro m
 induction m with
 |zero=>
  intro i acc hm hi ha;rw[Awb (by omega)];have e0:acc+(if 0<=v then BE v (([]:List Pt).map pv) else 0)=acc:=by
   rw[Axb,BE];split<;>omega
  rw[e0];refine AE Kh AcR (Ak8 ..) ?_;rw[Al];exact AA rfl
 |succ m ih=>
  intro i acc hm hi ha;have h1:i<ps.length:=by omega
  have hz:=ht.ps ps[i] (Aws h1);rw[η h1,Awq,BE];have hn1:∀ kk,Bw (ps.map eP) i kk=kk (eP ps[i]):=λkk=>Az (ξ h1) kk
  have ga:=F.add (AQ acc) ps[i].z (ha.lz.mono (by omega)) (hz.mono (by omega));rw[Bm]at ga;have ih1:=ih (i+1) acc (by omega) (by omega) (ha.mono (by omega));have ih2:=ih (i+1) (acc+zv ps[i].z) (by omega) (by omega) (by
   show InB (k+i+1) _
   exact InB.add ha (hz.inb.mono (by omega)))
  refine AE Kh AcR (Ak8 ..) ?_;rw[Al];refine AB ?_;rw[AI,hn1];simp only[eP,eN,Aj]
  by_cases hv:ps[i].v=v
  .refine AG ?_ hv
   by_cases h0:0<=v
   .refine Cs ?_ h0
    rw[AI,hn1];simp only[eP,eN,Aj];refine Aa ga ?_;simp only[eZ,eN,Aj];rw[BU (by omega)];refine Aa ih2 ?_;rw[Ac h0,Ac h0,Ac (show (pv ps[i]).1=v from hv),Int.add_assoc];rfl
   .refine CN ?_ h0
    rw[BU (by omega)];refine Aa ih1 ?_;rw[Ad h0,Ad h0];rfl
  .refine Ay ?_ hv
   rw[BU (by omega)];refine Aa ih1 ?_;rw[Ad (show ¬(pv ps[i]).1=v from hv),AzQ];rfl
theorem Nu{n k:Nat}{t:Tm}(ht:TmB n k t)(hn:n<=1000000)(hk:k+n<=400000000)(v:Int):D.ask (.fn 77) [.agg (eT t),iv v] []=Θ (.agg (eZ (AQ (if 0<=v then BE v t.lf.ps else 0))),[]):=by
 obtain⟨ps,kz⟩:=t;have g:=AfF Kh F ht hn hk v Φ [] _ 0 0 rfl (by omega) (InB.zero _);rw[ο,AzQ]at g;have e0:eZ (AQ 0)=[bv Φ,.ls []]:=by rw[PS];rfl
 rw[e0]at g;refine AC Kh AcR (e77 ..) ?_;refine Aa g ?_;rfl
def Abo(x:Fm):ABlk:=θ (eF x) Δ Φ
end
