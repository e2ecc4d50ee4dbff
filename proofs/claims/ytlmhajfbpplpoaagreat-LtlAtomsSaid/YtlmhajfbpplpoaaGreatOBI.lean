/- Numbers as limbs of 32 b -/
import Derived.Test.YtlmhajfbpplpoaaGreatOBB
set_option linter.all false
open Bool renaming and_eq_true->ε,and_eq_true_iff->Ark,true_and->ApP
open Int renaming add_mul->Asa,mul_assoc->AsS,natAbs_mul->AsK,natAbs_neg->Aq9,natCast_mul->ArE
open List renaming all_cons->ArN,append_assoc->ApZ,cons_append->AqN,drop->Apx,drop_append->ArW,drop_drop->Ars,drop_eq_getElem_cons->χ,drop_eq_nil_of_le->Apz,drop_zero->π,filter_cons_of_neg->Ar5,filter_cons_of_pos->Ar6,foldl_cons->Arf,getElem?_cons_succ->ApV,getElem?_eq_getElem->Φ,getElem?_eq_none->Aqg,getElem?_set_ne->Aqt,getElem?_set_self->AqA,length->AsB,length_append->υ,length_cons->Apw,length_eq_zero_iff->Ap9,length_set->Ap0,length_singleton->Aqb,length_take->ApQ,map_cons->ApS,map_take->ArP,mem_append->Ap1,mem_cons->ApC,mem_cons_of_mem->ApM,mem_cons_self->ApK,mem_filter->Aro,mem_map->AqH,mem_of_mem_drop->Aqu,mem_replicate->Ast,mem_singleton->Ap4,nil_append->ApU,pairwise_cons->Aqo,pairwise_singleton->Ar8,replicate->Aru,set_eq_take_append_cons_drop->Aq7,tail_drop->Ari,take->ο,take_length->AqG,take_succ_eq_append_getElem->Aqy
open Nat renaming add_mul->Aqf,add_sub_cancel->ArL,add_zero->Aqh,ble->ApA,ble_eq_true_of_le->Aqr,le_refl->ω,min_eq_left->AqE,mod_eq_of_lt->ApR,mod_lt->Aq1,mod_one->AsZ,mul_add->Ary,mul_assoc->AqP,mul_comm->Ar3,mul_le_mul_left->ArJ,mul_one->Asd,pow_le_pow_right->AqT,pow_pos->As0,pow_succ->AqI,strongRecOn->AqF,zero_add->ApN
namespace Go.Proofs.YtlmhajfbpplpoaaGreat
open ABlk renaming mk->Δ
open Go.RowKit
def Ag:List Nat->Nat
 |[]=>0
 |x::r=>x+4294967296*Ag r
def Limbs(l:List Nat):Prop:=∀ x∈l,x<4294967296
def AN(n:Nat):List Nat:=if n=0 then [] else(n % 4294967296)::AN (n / 4294967296)
termination_by n
decreasing_by omega
theorem Es:AN 0=[]:=by rw[AN];rfl
theorem Hz{n:Nat}(h:n≠0):AN n=(n % 4294967296)::AN (n / 4294967296):=by rw[AN,if_neg h]
theorem AA:∀(n:Nat),Limbs (AN n):=by
 intro n
 induction n using AqF with
 |ind n ih=>
  by_cases h:n=0
  .subst h;rw[Es];intro x hx;cases hx
  .rw[Hz h]
   intro x hx;rcases ApC.1 hx with rfl|hx
   .exact Aq1 _ (by omega)
   .exact ih (n / 4294967296) (by omega) x hx
theorem AP:∀(n:Nat),Ag (AN n)=n:=by
 intro n
 induction n using AqF with
 |ind n ih=>
  by_cases h:n=0
  .subst h;rw[Es];rfl
  .rw[Hz h,Ag,ih (n / 4294967296) (by omega)]
   omega
def CV:List Nat->Nat
 |[]=>0
 |x::r=>if CV r=0/\x=0 then 0 else CV r+1
theorem DO:∀ l:List Nat,CV l<=l.length
 |[]=>ω _
 |x::r=>by
  have:=DO r;unfold CV;rw[Apw];split<;>omega
theorem Limbs.cons{x:Nat}{r:List Nat}(h:Limbs (x::r)):x<4294967296/\Limbs r:=⟨h x (ApK ..),λy hy=>h y (ApM _ hy)⟩
theorem BM:Limbs []:=λ_ h=>by cases h
theorem BC{x:Nat}{r:List Nat}(h:x<4294967296)(h2:Limbs r):Limbs (x::r):=λy hy=>by
 rcases ApC.1 hy with rfl|hy
 .exact h
 .exact h2 y hy
theorem PK{a b:List Nat}(h:Limbs a)(h2:Limbs b):Limbs (a++b):=λx hx=>by
 rcases Ap1.1 hx with hx|hx
 .exact h x hx
 .exact h2 x hx
theorem Limbs.take{l:List Nat}(h:Limbs l)(n:Nat):Limbs (l.take n):=λx hx=>h x (List.mem_of_mem_take hx)
theorem Limbs.drop{l:List Nat}(h:Limbs l)(n:Nat):Limbs (l.drop n):=λx hx=>h x (Aqu hx)
theorem Limbs.get{l:List Nat}(h:Limbs l){i:Nat}(hi:i<l.length):l[i]<4294967296:=h _ (List.getElem_mem hi)
theorem AcM:∀{l:List Nat},CV l=0->Ag l=0
 |[],_=>rfl
 |x::r,h=>by
  unfold CV at h;split at h
  .rename_i h2
   rw[Ag,AcM h2.1,h2.2]
  .omega
theorem AcQ:∀{l:List Nat},Ag l=0->CV l=0
 |[],_=>rfl
 |x::r,h=>by
  rw[Ag]at h;unfold CV;rw[if_pos ⟨AcQ (by omega),by omega⟩]
theorem KF:∀{l:List Nat},Limbs l->l.take (CV l)=AN (Ag l)
 |[],_=>by rw[Ag,Es];rfl
 |x::r,h=>by
  obtain⟨h1,h2⟩:=h.cons;have ih:=KF h2;unfold CV;split
  .rename_i h3
   rw[List.take_zero,Ag,AcM h3.1,h3.2,Es]
  .rename_i h3
   have h0:Ag (x::r)≠0:=by
    intro h0;rw[Ag]at h0;exact h3 ⟨AcQ (by omega),by omega⟩
   rw[List.take_succ_cons,Hz h0,Ag];have e1:(x+4294967296*Ag r) % 4294967296=x:=by omega
   have e2:(x+4294967296*Ag r) / 4294967296=Ag r:=by omega
   rw[e1,e2,ih]
theorem Ff:∀(a b:List Nat),Ag (a++b)=Ag a+4294967296 ^ a.length*Ag b
 |[],b=>by simp[Ag]
 |x::r,b=>by
  rw[AqN,Ag,Ff r b,Ag,Apw,AqI,Ary,←AqP,Ar3 4294967296 (4294967296 ^ r.length)];omega
theorem CL:∀{l:List Nat},Limbs l->Ag l<4294967296 ^ l.length
 |[],_=>by simp[Ag]
 |x::r,h=>by
  obtain⟨h1,h2⟩:=h.cons;have:=CL h2;rw[Ag,Apw,AqI];omega
theorem Hy(l:List Nat)(h:Limbs l):(AN (Ag l)).length=CV l:=by
 rw[←KF h,ApQ];have:=DO l;omega
theorem Bw{n k:Nat}(h:n<4294967296 ^ k):(AN n).length<=k:=by
 induction k generalizing n with
 |zero=>
  have:n=0:=by simpa using h
  subst this;rw[Es];exact ω _
 |succ k ih=>
  by_cases h0:n=0
  .subst h0;rw[Es];exact Nat.zero_le _
  .rw[Hz h0,Apw]
   have:n / 4294967296<4294967296 ^ k:=by
    rw[Nat.div_lt_iff_lt_mul (by omega)];rw[AqI]at h;exact h
   have:=ih this;omega
theorem SR{n k:Nat}(h:4294967296 ^ k<=n):k<(AN n).length:=by
 by_cases h2:k<(AN n).length
 .exact h2
 .have h3:=CL (AA n)
  rw[AP]at h3;have h4:4294967296 ^ (AN n).length<=4294967296 ^ k:=AqT (by omega) (by omega);omega
theorem Qk:∀{l:List Nat},0<CV l->∃ x,l[CV l-1]? = some x/\x≠0
 |[],h=>by simp[CV]at h
 |y::r,h=>by
  by_cases h1:CV r=0
  .have h2:y≠0:=by
    intro h2;unfold CV at h;rw[if_pos ⟨h1,h2⟩]at h;omega
   refine⟨y,?_,h2⟩;unfold CV;rw[if_neg (λe=>h2 e.2),h1];rfl
  .obtain⟨x,h3,h4⟩:=Qk (l:=r) (by omega)
   refine⟨x,?_,h4⟩;unfold CV;rw[if_neg (λe=>h1 e.1)];have:CV r+1-1=(CV r-1)+1:=by omega
   rw[this,ApV,h3]
theorem RE:∀{l:List Nat} {i x:Nat},l[i]? = some x->x≠0->i<CV l
 |[],i,x,h,_=>by simp at h
 |y::r,0,x,h,h2=>by
  have h:y=x:=by simpa using h
  unfold CV;rw[if_neg (λe=>h2 (by rw[←h];exact e.2))];omega
 |y::r,i+1,x,h,h2=>by
  rw[ApV]at h;have:=RE h h2;unfold CV;rw[if_neg (λe=>by omega)];omega
theorem Qj{l:List Nat}{n:Nat}(h:CV l<=n+1)(h2:l[n]? = some 0):CV l<=n:=by
 by_cases h3:CV l=n+1
 .obtain⟨x,h4,h5⟩:=Qk (l:=l) (by omega)
  rw[h3,ArL,h2]at h4;injection h4 with h4
  exact absurd h4.symm h5
 .omega
def eL(n:Nat):List AV:=[.v (.int .u32 (n:Int))]
def eN(l:List Nat):AV:=.ls (l.map eL)
theorem AT(x:Nat):(eL x).length=1:=rfl
def KP:Nat->List Nat->List Nat->List Nat
 |c,[],_=>[c]
 |c,x::a,b=>((x+b.headD 0+c) % 4294967296)::KP ((x+b.headD 0+c) / 4294967296) a b.tail
theorem EY{b:List Nat}(h:Limbs b):b.headD 0<4294967296:=by
 cases b with
 |nil=>simp
 |cons y b=>exact h.cons.1
theorem Limbs.tail{b:List Nat}(h:Limbs b):Limbs b.tail:=by
 cases b with
 |nil=>exact h
 |cons y b=>exact h.cons.2
theorem IK(b:List Nat):Ag b=b.headD 0+4294967296*Ag b.tail:=by
 cases b<;>rfl
theorem LL:∀(a b:List Nat) (c:Nat),b.length<=a.length->Ag (KP c a b)=c+Ag a+Ag b
 |[],b,c,h=>by
  obtain rfl:b=[]:=Ap9.1 (by simpa using h);simp[KP,Ag]
 |x::a,b,c,h=>by
  have ih:=LL a b.tail ((x+b.headD 0+c) / 4294967296) (by simp at h ⊢;omega);rw[KP,Ag,ih,Ag,IK b];omega
theorem Jd:∀(a b:List Nat) (c:Nat),Limbs a->Limbs b->c<=1->Limbs (KP c a b)
 |[],b,c,_,_,hc=>BC (by omega) BM
 |x::a,b,c,ha,hb,hc=>by
  have h1:=EY hb;have h2:=ha.cons;exact BC (Aq1 _ (by omega)) (Jd a b.tail _ h2.2 hb.tail (by omega))
def Mx:Nat->Nat->List Nat->List Nat->List Nat
 |0,_,_,_=>[]
 |k+1,c,a,b=>((a.headD 0+b.headD 0+c) % 4294967296)::Mx k ((a.headD 0+b.headD 0+c) / 4294967296) a.tail b.tail
theorem Qn:∀(k c:Nat) (a b:List Nat),Ag (Mx k c a b)=(c+Ag a+Ag b) % 4294967296 ^ k
 |0,c,a,b=>by simp[Mx,Ag,AsZ]
 |k+1,c,a,b=>by
  have ih:=Qn k ((a.headD 0+b.headD 0+c) / 4294967296) a.tail b.tail;rw[Mx,Ag,ih,IK a,IK b,AqI,Ar3 (4294967296 ^ k) 4294967296,Nat.mod_mul];have e1:(c+(a.headD 0+4294967296*Ag a.tail)+(b.headD 0+4294967296*Ag b.tail)) % 4294967296=(a.headD 0+b.headD 0+c) % 4294967296:=by omega
  have e2:(c+(a.headD 0+4294967296*Ag a.tail)+(b.headD 0+4294967296*Ag b.tail)) / 4294967296=(a.headD 0+b.headD 0+c) / 4294967296+Ag a.tail+Ag b.tail:=by omega
  rw[e1,e2]
theorem M5:∀(k c:Nat) (a b:List Nat),Limbs (Mx k c a b)
 |0,_,_,_=>BM
 |k+1,c,a,b=>BC (Aq1 _ (by omega)) (M5 k _ _ _)
def GU:Nat->List Nat->List Nat->List Nat
 |_,[],_=>[]
 |c,x::a,b=>(if x<b.headD 0+c then x+4294967296-(b.headD 0+c) else x-(b.headD 0+c))::GU (if x<b.headD 0+c then 1 else 0) a b.tail
def RD:Nat->List Nat->List Nat->Nat
 |c,[],_=>c
 |c,x::a,b=>RD (if x<b.headD 0+c then 1 else 0) a b.tail
theorem WU:∀(a b:List Nat) (c:Nat),c<=1->RD c a b<=1
 |[],_,_,h=>h
 |x::a,b,c,h=>WU a b.tail _ (by split<;>omega)
theorem Qp:∀(a b:List Nat) (c:Nat),Limbs a->Limbs b->c<=1->b.length<=a.length->Ag (GU c a b)+Ag b+c=Ag a+4294967296 ^ a.length*RD c a b
 |[],b,c,_,_,_,h=>by
  obtain rfl:b=[]:=Ap9.1 (by simpa using h);simp[GU,RD,Ag]
 |x::a,b,c,ha,hb,hc,h=>by
  have h1:=EY hb;have h2:=ha.cons;rw[GU,RD,Ag,Ag,IK b,Apw,AqI];have ih:=Qp a b.tail (if x<b.headD 0+c then 1 else 0) h2.2 hb.tail (by split<;>omega) (by simp at h ⊢;omega);rw[Ar3 (4294967296 ^ a.length) 4294967296,AqP];revert ih;generalize 4294967296 ^ a.length*RD (if x<b.headD 0+c then 1 else 0) a b.tail=z;generalize Ag (GU (if x<b.headD 0+c then 1 else 0) a b.tail)=s;intro ih;split at ih
  .rename_i h3
   rw[if_pos h3];omega
  .rename_i h3
   rw[if_neg h3];omega
theorem GV:∀(a b:List Nat) (c:Nat),Limbs a->Limbs b->c<=1->Limbs (GU c a b)
 |[],_,_,_,_,_=>BM
 |x::a,b,c,ha,hb,hc=>by
  have h1:=EY hb;have h2:=ha.cons;refine BC ?_ (GV a b.tail _ h2.2 hb.tail (by split<;>omega));split<;>omega
theorem KC:∀(a b:List Nat) (c:Nat),(GU c a b).length=a.length
 |[],_,_=>rfl
 |x::a,b,c=>by rw[GU,Apw,KC a,Apw]
theorem TR{a b:List Nat}(ha:Limbs a)(hb:Limbs b)(h:b.length<=a.length)(hv:Ag b<=Ag a):Ag (GU 0 a b)=Ag a-Ag b:=by
 have h1:=Qp a b 0 ha hb (by omega) h;have h2:=CL (GV a b 0 ha hb (by omega));rw[KC]at h2;have h3:=WU a b 0 (by omega);have h4:=CL ha;rcases Nat.lt_or_ge (RD 0 a b) 1 with h5|h5
 .rw[show RD 0 a b=0 by omega]at h1
  omega
 .rw[show RD 0 a b=1 by omega]at h1
  omega
def N0:Nat->Nat->List Nat->List Nat->List Nat
 |_,c,[],o=>c::o.tail
 |x,c,y::b,o=>((x*y+o.headD 0+c) % 4294967296)::N0 x ((x*y+o.headD 0+c) / 4294967296) b o.tail
theorem Qo:∀(x:Nat) (b o:List Nat) (c:Nat),(o.drop b.length).headD 0=0->Ag (N0 x c b o)=x*Ag b+Ag o+c
 |x,[],o,c,h=>by
  have h:o.headD 0=0:=h;rw[N0,Ag,Ag,IK o,h];omega
 |x,y::b,o,c,h=>by
  have h2:(o.tail.drop b.length).headD 0=0:=by
   rw[Apw]at h
   cases o with
   |nil=>simp
   |cons z o=>exact h
  have ih:=Qo x b o.tail ((x*y+o.headD 0+c) / 4294967296) h2;have e:x*(y+4294967296*Ag b)=x*y+4294967296*(x*Ag b):=by
   rw[Ary,←AqP,Ar3 x 4294967296,AqP]
  rw[N0,Ag,ih,Ag,IK o,e];omega
theorem N2{x y:Nat}(hx:x<4294967296)(hy:y<4294967296):x*y<=18446744065119617025:=by
 have:=Nat.mul_le_mul (show x<=4294967295 by omega) (show y<=4294967295 by omega);omega
theorem N1:∀(x:Nat) (b o:List Nat) (c:Nat),x<4294967296->Limbs b->Limbs o->c<4294967296->Limbs (N0 x c b o)
 |x,[],o,c,_,_,ho,hc=>BC hc ho.tail
 |x,y::b,o,c,hx,hb,ho,hc=>by
  have h1:=EY ho;have h2:=hb.cons;have h3:=N2 hx h2.1;exact BC (Aq1 _ (by omega)) (N1 x b o.tail _ hx h2.2 ho.tail (by omega))
def DJ:Nat->Nat->List Nat->List Nat
 |_,c,[]=>[c]
 |m,c,x::a=>((x*m+c) % 4294967296)::DJ m ((x*m+c) / 4294967296) a
theorem Ij:∀(m:Nat) (a:List Nat) (c:Nat),Ag (DJ m c a)=Ag a*m+c
 |m,[],c=>by simp[DJ,Ag]
 |m,x::a,c=>by
  rw[DJ,Ag,Ij m a,Ag,Aqf,AqP];omega
theorem GS:∀(m:Nat) (a:List Nat) (c:Nat),m<4294967296->Limbs a->c<4294967296->Limbs (DJ m c a)
 |m,[],c,_,_,hc=>BC hc BM
 |m,x::a,c,hm,ha,hc=>by
  have h2:=ha.cons;have h3:=N2 h2.1 hm;exact BC (Aq1 _ (by omega)) (GS m a _ hm h2.2 (by omega))
def Do(a b:Nat):Int:=if a<b then -1 else if b<a then 1 else 0
theorem RZ{a b:List Nat}(ha:Limbs a)(hb:Limbs b)(h:a.length=b.length)(x y:Nat):Do (Ag (a++[x])) (Ag (b++[y]))=if x<y then -1 else if y<x then 1 else Do (Ag a) (Ag b):=by
 rw[Ff,Ff,←h];have h1:=CL ha;have h2:=CL hb;rw[←h]at h2;simp only[Ag,Nat.mul_zero,Aqh];revert h1 h2;generalize 4294967296 ^ a.length=k;generalize Ag a=p;generalize Ag b=q;intro h1 h2
 by_cases h3:x<y
 .rw[if_pos h3]
  have:k*(x+1)<=k*y:=ArJ _ h3;rw[Ary]at this;unfold Do;rw[if_pos (by omega)]
 .rw[if_neg h3]
  by_cases h4:y<x
  .rw[if_pos h4]
   have:k*(y+1)<=k*x:=ArJ _ h4;rw[Ary]at this;unfold Do;rw[if_neg (by omega),if_pos (by omega)]
  .rw[if_neg h4]
   obtain rfl:x=y:=by omega
   unfold Do
   by_cases h5:p<q
   .rw[if_pos (by omega),if_pos h5]
   .rw[if_neg (by omega),if_neg h5]
    by_cases h6:q<p
    .rw[if_pos (by omega),if_pos h6]
    .rw[if_neg (by omega),if_neg h6]
structure Zi where
 neg:Bool
 abs:List Nat
def DU(neg:Bool)(n:Nat):Int:=if neg then -(n:Int) else n
def zv(z:Zi):Int:=DU z.neg (Ag z.abs)
def AF(n:Int):Zi:=⟨decide (n<0),AN n.natAbs⟩
def eZ(z:Zi):List AV:=[bv z.neg,eN z.abs]
theorem Afu(n:Int):DU (decide (n<0)) n.natAbs=n:=by
 unfold DU
 by_cases h:n<0
 .rw[decide_eq_true h,if_pos rfl];omega
 .rw[decide_eq_false h,if_neg (by simp)];omega
theorem Ay(n:Int):zv (AF n)=n:=by
 unfold zv AF;rw[AP];exact Afu n
theorem W6(neg:Bool)(v:Nat):AF (DU neg v)=⟨neg&&decide (0<v),AN v⟩:=by
 unfold AF DU
 cases neg with
 |false=>
  rw[if_neg (by simp),Bool.false_and,decide_eq_false (by omega)];rfl
 |true=>
  rw[if_pos rfl,ApP,Aq9,Int.natAbs_natCast]
  congr 1
  by_cases h:0<v
  .rw[decide_eq_true h,decide_eq_true (by omega)]
  .rw[decide_eq_false h,decide_eq_false (by omega)]
theorem LM:AF 0=⟨false,[]⟩:=by
 unfold AF;rw[show (0:Int).natAbs=0 from rfl,Es];rfl
structure Lz (k:Nat) (z:Zi):Prop where
 lim:Limbs z.abs
 len:z.abs.length<=k
theorem Lz.mono{k m:Nat}{z:Zi}(h:Lz k z)(hm:k<=m):Lz m z:=⟨h.lim,by have:=h.len;omega⟩
def InB(k:Nat)(n:Int):Prop:=n.natAbs<4294967296 ^ k
theorem InB.lz{k:Nat}{n:Int}(h:InB k n):Lz k (AF n):=⟨AA _,Bw h⟩
theorem Lz.inb{k:Nat}{z:Zi}(h:Lz k z):InB k (zv z):=by
 unfold InB zv;have h1:=CL h.lim;have h2:4294967296 ^ z.abs.length<=4294967296 ^ k:=AqT (by omega) h.len;have h3:(DU z.neg (Ag z.abs)).natAbs=Ag z.abs:=by
  unfold DU;split
  .rw[Aq9];rfl
  .rfl
 omega
theorem InB.mono{k m:Nat}{n:Int}(h:InB k n)(hm:k<=m):InB m n:=by
 unfold InB at *;have h2:4294967296 ^ k<=4294967296 ^ m:=AqT (by omega) hm;omega
theorem InB.add{k:Nat}{a b:Int}(ha:InB k a)(hb:InB k b):InB (k+1) (a+b):=by
 unfold InB at *;have:=Int.natAbs_add_le a b;rw[AqI];omega
theorem InB.neg{k:Nat}{a:Int}(ha:InB k a):InB k (-a):=by
 unfold InB at *;rw[Aq9];exact ha
theorem InB.mul{k m:Nat}{a b:Int}(ha:InB k a)(hb:InB m b):InB (k+m) (a*b):=by
 unfold InB at *;rw[AsK,Nat.pow_add];have h1:a.natAbs*b.natAbs<=a.natAbs*4294967296 ^ m:=ArJ _ (Nat.le_of_lt hb);have h2:a.natAbs*4294967296 ^ m<4294967296 ^ k*4294967296 ^ m:=Nat.mul_lt_mul_of_pos_right ha (As0 (by omega));omega
theorem InB.zero(k:Nat):InB k 0:=by
 unfold InB;exact As0 (by omega)
theorem InB.one{k:Nat}(h:1<=k):InB k 1:=by
 have:InB 1 1:=by unfold InB;decide
 exact this.mono h
def FJ(a b:Int):Int:=if a<b then -1 else if b<a then 1 else 0
def Cw(n:Int):Int:=if n<0 then -1 else if 0<n then 1 else 0
theorem Ac1(z:Zi):zv z<0 ↔ z.neg=true/\0<Ag z.abs:=by
 obtain⟨n,l⟩:=z
 cases n with
 |true=>
  show (-(Ag l:Int)<0) ↔ (true=true/\0<Ag l)
  exact⟨λh=>⟨rfl,by omega⟩,λh=>by have:=h.2;omega⟩
 |false=>
  show ((Ag l:Int)<0) ↔ (false=true/\0<Ag l)
  exact⟨λh=>by omega,λh=>by cases h.1⟩
theorem W7(z:Zi):zv z=0 ↔ Ag z.abs=0:=by
 unfold zv DU;split<;>omega
theorem EB{n:Nat}:0<(AN n).length ↔ 0<n:=by
 constructor
 .intro h
  by_cases h0:n=0
  .subst h0;rw[Es]at h;simp at h
  .omega
 .intro h
  rw[Hz (by omega)];simp
def AU(v:Int):List (Int × Int)->Int
 |[]=>0
 |p::r=>(if p.1=v then p.2 else 0)+AU v r
theorem Gw{v:Int}:∀{l:List (Int × Int)},(∀ p∈l,p.1≠v)->AU v l=0
 |[],_=>rfl
 |p::r,h=>by
  rw[AU,if_neg (h p (ApK ..)),Gw λq hq=>h q (ApM _ hq)];rfl
theorem Np{v:Int}{a b:List (Int × Int)}(h:a.Perm b):AU v a=AU v b:=by
 induction h with
 |nil=>rfl
 |cons x _ ih=>rw[AU,AU,ih]
 |swap x y l=>rw[AU,AU,AU,AU];omega
 |trans _ _ ih1 ih2=>rw[ih1,ih2]
theorem KY{v:Int}(hv:0<=v):∀ l:List (Int × Int),AU v (l.filter λp=>decide (0<=p.1))=AU v l
 |[]=>rfl
 |p::r=>by
  have ih:=KY hv r
  by_cases h:0<=p.1
  .rw[Ar6 (by simpa using h),AU,AU,ih]
  .rw[Ar5 (by simpa using h),AU,ih,if_neg (by omega)]
   omega
structure Pln (l:List (Int × Int)):Prop where
 asc:l.Pairwise λa b=>a.1<b.1
 pos:∀ p∈l,0<=p.1
 nz:∀ p∈l,p.2≠0
theorem WF:Pln []:=⟨.nil,by simp,by simp⟩
theorem Pln.tail{p:Int × Int}{r:List (Int × Int)}(h:Pln (p::r)):Pln r:=⟨(Aqo.1 h.asc).2,λq hq=>h.pos q (ApM _ hq),λq hq=>h.nz q (ApM _ hq)⟩
theorem Pln.head{p:Int × Int}{r:List (Int × Int)}(h:Pln (p::r)):AU p.1 (p::r)=p.2:=by
 rw[AU,if_pos rfl,Gw λq hq=>by have:=(Aqo.1 h.asc).1 q hq;omega];omega
theorem Pln.below{p:Int × Int}{r:List (Int × Int)}(h:Pln (p::r)){v:Int}(hv:v<p.1):AU v (p::r)=0:=by
 refine Gw λq hq=>?_
 rcases ApC.1 hq with rfl|hq
 .omega
 .have:=(Aqo.1 h.asc).1 q hq
  omega
theorem Pln.ext:∀{a b:List (Int × Int)},Pln a->Pln b->(∀ v,AU v a=AU v b)->a=b
 |[],[],_,_,_=>rfl
 |[],q::s,_,hb,h=>by
  have h1:=hb.head;rw[←h q.1]at h1;exact absurd h1.symm (hb.nz q (ApK ..))
 |p::r,[],ha,_,h=>by
  have h1:=ha.head;rw[h p.1]at h1;exact absurd h1.symm (ha.nz p (ApK ..))
 |p::r,q::s,ha,hb,h=>by
  have h1:=ha.head;have h2:=hb.head;have n1:=ha.nz p (ApK ..);have n2:=hb.nz q (ApK ..);have e:p.1=q.1:=by
   rcases Int.lt_trichotomy p.1 q.1 with h3|h3|h3
   .rw[h p.1,hb.below h3]at h1
    exact absurd h1.symm n1
   .exact h3
   .rw[←h q.1,ha.below h3]at h2
    exact absurd h2.symm n2
  have e2:p.2=q.2:=by rw[←h1,←h2,h p.1,e]
  have ep:p=q:=Prod.ext e e2;rw[ep,Pln.ext ha.tail hb.tail λv=>by
   have:=h v;rw[AU,AU,ep]at this;omega]
def Hr(v c:Int):List (Int × Int)->List (Int × Int)
 |[]=>if c=0 then [] else [(v,c)]
 |p::r=>if v<p.1 then(if c=0 then p::r else(v,c)::p::r) else if p.1<v then p::Hr v c r else if p.2+c=0 then r else(v,p.2+c)::r
theorem Lg(v c u:Int):∀ l:List (Int × Int),AU u (Hr v c l)=(if v=u then c else 0)+AU u l
 |[]=>by
  unfold Hr;split
  .rename_i h;simp[AU,h]
  .simp[AU]
 |p::r=>by
  have ih:=Lg v c u r;unfold Hr;split
  .split
   .rename_i h;rw[h];simp
   .rfl
  .split
   .rw[AU,ih,AU];omega
   .have e:p.1=v:=by omega
    split
    .rename_i h
     rw[AU,e];split<;>omega
    .rw[AU,AU,e]
     split<;>omega
theorem SL{v c:Int}:∀{l:List (Int × Int)} {q:Int × Int},q∈Hr v c l->q.1=v\/q∈l
 |[],q,h=>by
  unfold Hr at h;split at h
  .exact .inr h
  .rw[Ap4.1 h];exact .inl rfl
 |p::r,q,h=>by
  unfold Hr at h;split at h
  .split at h
   .exact .inr h
   .rcases ApC.1 h with h|h
    .rw[h];exact .inl rfl
    .exact .inr h
  .split at h
   .rcases ApC.1 h with h|h
    .rw[h];exact .inr (ApK ..)
    .rcases SL h with h|h
     .exact .inl h
     .exact .inr (ApM _ h)
   .split at h
    .exact .inr (ApM _ h)
    .rcases ApC.1 h with h|h
     .rw[h];exact .inl rfl
     .exact .inr (ApM _ h)
theorem SM{v c:Int}(hv:0<=v):∀{l:List (Int × Int)},Pln l->Pln (Hr v c l)
 |[],_=>by
  unfold Hr;split
  .exact WF
  .rename_i h
   exact⟨Ar8 _ _,by simpa using hv,by simpa using h⟩
 |p::r,h=>by
  have ih:=SM (c:=c) hv h.tail;have hp:=Aqo.1 h.asc;unfold Hr;split
  .rename_i h1
   split
   .exact h
   .rename_i h2
    refine⟨Aqo.2 ⟨λq hq=>?_,h.asc⟩,λq hq=>?_,λq hq=>?_⟩
    .rcases ApC.1 hq with rfl|hq
     .exact h1
     .have:=hp.1 q hq;simp only;omega
    .rcases ApC.1 hq with rfl|hq
     .exact hv
     .exact h.pos q hq
    .rcases ApC.1 hq with rfl|hq
     .exact h2
     .exact h.nz q hq
  .split
   .rename_i h1 h2
    refine⟨Aqo.2 ⟨λq hq=>?_,ih.asc⟩,λq hq=>?_,λq hq=>?_⟩
    .rcases SL hq with e|hq
     .rw[e];exact h2
     .exact hp.1 q hq
    .rcases ApC.1 hq with rfl|hq
     .exact h.pos _ (ApK ..)
     .exact ih.pos q hq
    .rcases ApC.1 hq with rfl|hq
     .exact h.nz _ (ApK ..)
     .exact ih.nz q hq
   .rename_i h1 h2
    split
    .exact h.tail
    .rename_i h3
     refine⟨Aqo.2 ⟨λq hq=>?_,hp.2⟩,λq hq=>?_,λq hq=>?_⟩
     .have:=hp.1 q hq;simp only;omega
     .rcases ApC.1 hq with rfl|hq
      .exact hv
      .exact h.tail.pos q hq
     .rcases ApC.1 hq with rfl|hq
      .exact h3
      .exact h.tail.nz q hq
def DS:List (Int × Int)->List (Int × Int)
 |[]=>[]
 |p::r=>if 0<=p.1 then Hr p.1 p.2 (DS r) else DS r
theorem EM:∀ l:List (Int × Int),Pln (DS l)
 |[]=>WF
 |p::r=>by
  unfold DS;split
  .rename_i h;exact SM h (EM r)
  .exact EM r
theorem Jy(v:Int):∀ l:List (Int × Int),AU v (DS l)=if 0<=v then AU v l else 0
 |[]=>by simp[DS,AU]
 |p::r=>by
  have ih:=Jy v r;unfold DS
  by_cases h:0<=p.1
  .by_cases hv:0<=v
   .rw[if_pos h,Lg,ih,AU,if_pos hv,if_pos hv]
   .rw[if_pos h,Lg,ih,if_neg hv,if_neg hv,if_neg (by omega)]
    rfl
  .by_cases hv:0<=v
   .rw[if_neg h,ih,AU,if_pos hv,if_pos hv,if_neg (show ¬ p.1=v by omega)]
    omega
   .rw[if_neg h,ih,if_neg hv,if_neg hv]
theorem Te{l r:List (Int × Int)}(h:Pln r)(hc:∀ v,0<=v->AU v r=AU v l):r=DS l:=by
 refine Pln.ext h (EM l) λv=>?_
 rw[Jy]
 by_cases hv:0<=v
 .rw[if_pos hv,hc v hv]
 .rw[if_neg hv]
  refine Gw λp hp e=>?_
  have:=h.pos p hp;omega
theorem Vi{l:List (Int × Int)}(h:Pln l):DS l=l:=(Te h λ_ _=>rfl).symm
theorem P2:∀ l:List (Int × Int),(DS l).length<=l.length
 |[]=>ω _
 |p::r=>by
  have ih:=P2 r;have ins:∀ l:List (Int × Int),(Hr p.1 p.2 l).length<=l.length+1:=λl=>by
   induction l with
   |nil=>unfold Hr;split<;>simp
   |cons q s ih=>
    unfold Hr;split
    .split<;>simp
    .split
     .simpa using ih
     .split
      .simp;omega
      .simp
  unfold DS;split
  .have:=ins (DS r)
   rw[Apw];omega
  .rw[Apw]
   omega
section
variable {α:Type} (key:α->Int)
def kf(l:List α)(p:Nat):Int:=match l[p]? with
 |some x=>key x
 |none=>0
theorem FN{l:List α}{p:Nat}(h:p<l.length):kf key l p=key l[p]:=by
 unfold kf;rw[Φ h]
def C6(l:List α)(i j:Nat):List α:=match l[i]?,l[j]? with
 |some x,some y=>(l.set i y).set j x
 |_,_=>l
theorem DM{l:List α}{i j:Nat}(hi:i<l.length)(hj:j<l.length):C6 l i j=(l.set i l[j]).set j l[i]:=by
 unfold C6;rw[Φ hi,Φ hj]
theorem IJ(l:List α)(i j:Nat):(C6 l i j).length=l.length:=by
 unfold C6;split<;>simp
theorem V0{l:List α}{i j:Nat}(hi:i<l.length)(hj:j<l.length)(p:Nat):kf key (C6 l i j) p=if p=j then kf key l i else if p=i then kf key l j else kf key l p:=by
 rw[DM hi hj];unfold kf
 by_cases h1:p=j
 .subst h1
  rw[if_pos rfl,AqA (by simpa using hj),Φ hi]
 .rw[if_neg h1,Aqt (λe=>h1 e.symm)]
  by_cases h2:p=i
  .subst h2
   rw[if_pos rfl,AqA hi,Φ hj]
  .rw[if_neg h2,Aqt (λe=>h2 e.symm)]
theorem GW(l:List α)(i j:Nat):(C6 l i j).Perm l:=by
 by_cases hi:i<l.length
 .by_cases hj:j<l.length
  .rw[DM hi hj]
   have:=Array.swap_perm (xs:=l.toArray) (i:=i) (j:=j) (by simpa using hi) (by simpa using hj);have h2:=this.toList;simpa[Array.swap]using h2
  .unfold C6
   rw[Aqg (show l.length<=j by omega)];split
   .rename_i h;cases h
   .exact List.Perm.refl _
 .unfold C6
  rw[Aqg (show l.length<=i by omega)]
theorem YJ{l:List α}{i j p:Nat}(h1:p≠i)(h2:p≠j):(C6 l i j)[p]? = l[p]?:=by
 unfold C6;split
 .rw[Aqt (λe=>h2 e.symm),Aqt (λe=>h1 e.symm)]
 .rfl
def Srt(l:List α)(a b:Nat):Prop:=∀ p q,a<=p->p<q->q<b->kf key l p<=kf key l q
def W8(l:List α)(a i j:Nat):Prop:=∀ p q,a<=p->p<q->q<=i->q≠j->kf key l p<=kf key l q
def Same0(l r:List α)(a b:Nat):Prop:=∀ p,(p<a\/b<=p)->r[p]? = l[p]?
theorem C3(l:List α)(a b:Nat):Same0 l l a b:=λ_ _=>rfl
theorem Same0.trans{l r s:List α}{a b:Nat}(h1:Same0 l r a b)(h2:Same0 r s a b):Same0 l s a b:=λp hp=>(h2 p hp).trans (h1 p hp)
theorem Same0.wide{l r:List α}{a b c d:Nat}(h1:Same0 l r a b)(hc:c<=a)(hd:b<=d):Same0 l r c d:=λp hp=>h1 p (by omega)
theorem Same0.kf{l r:List α}{a b p:Nat}(h:Same0 l r a b)(hp:p<a\/b<=p):kf key r p=kf key l p:=by
 unfold Go.Proofs.YtlmhajfbpplpoaaGreat.kf;rw[h p hp]
theorem YK{l:List α}{i j a b:Nat}(h1:a<=i)(h2:i<b)(h3:a<=j)(h4:j<b):Same0 l (C6 l i j) a b:=λp hp=>YJ (by omega) (by omega)
theorem YH{l:List α}{a i j:Nat}(hi:i<l.length)(ha:a<j)(hj:j<=i)(h:W8 key l a i j)(hlt:kf key l j<kf key l (j-1)):W8 key (C6 l j (j-1)) a i (j-1):=by
 intro p q h1 h2 h3 h4;rw[V0 key (by omega) (by omega),V0 key (by omega) (by omega)]
 by_cases q1:q=j
 .subst q1
  rw[if_neg (show ¬ q=q-1 by omega),if_pos rfl]
  by_cases p1:p=q-1
  .rw[if_pos p1];omega
  .rw[if_neg p1,if_neg (by omega)]
   exact h p (q-1) h1 (by omega) (by omega) (by omega)
 .rw[if_neg h4,if_neg q1]
  by_cases p1:p=j-1
  .rw[if_pos p1]
   exact h j q (by omega) (by omega) h3 q1
  .rw[if_neg p1]
   by_cases p2:p=j
   .rw[if_pos p2]
    exact h (j-1) q (by omega) (by omega) h3 q1
   .rw[if_neg p2]
    exact h p q h1 h2 h3 q1
theorem Tz{l:List α}{a i j:Nat}(hj:j<=i)(h:W8 key l a i j)(he:j=a\/kf key l (j-1)<=kf key l j):Srt key l a (i+1):=by
 intro p q h1 h2 h3
 by_cases hq:q=j
 .subst hq
  rcases he with he|he
  .omega
  .by_cases hp:p=q-1
   .rw[hp];exact he
   .have:=h p (q-1) h1 (by omega) (by omega) (by omega)
    omega
 .exact h p q h1 h2 (by omega) hq
theorem Vw{l:List α}{a i:Nat}(h:Srt key l a i):W8 key l a i i:=λp q h1 h2 h3 h4=>h p q h1 h2 (by omega)
theorem Ry{l:List α}(h:Srt key l 0 l.length):l.Pairwise λx y=>key x<=key y:=by
 rw[List.pairwise_iff_getElem];intro i j hi hj hij;have:=h i j (by omega) hij hj
 rwa [FN key hi,FN key hj]at this
theorem AfB(l:List α)(a:Nat):Srt key l a (a+1):=λp q h1 h2 h3=>by omega
theorem AfA(l:List α)(a:Nat):Srt key l a a:=λp q h1 h2 h3=>by omega
end
structure Pt where
 v:Int
 z:Zi
def eP(p:Pt):List AV:=[iv p.v,bv p.z.neg,eN p.z.abs]
theorem Az(p:Pt):(eP p).length=3:=rfl
section
variable {α:Type} {e:α->List AV} {w:Nat} (he:∀ x,(e x).length=w)
include he
theorem WP(l:List α):∀(i:Nat) (h:i<l.length),(Ap e l).drop (i*w)=e l[i]++(Ap e l).drop (i*w+w):=by
 induction l with
 |nil=>intro i h;cases h
 |cons x r ih=>
  intro i h;have hx:=he x
  cases i with
  |zero=>
   rw[Nat.zero_mul,π,ApN]
   show e x++Ap e r=e x++(e x++Ap e r).drop w
   rw[←hx,List.drop_left]
  |succ i=>
   have:=ih i (by simpa using h);have e1:∀ n,(Ap e (x::r)).drop (w+n)=(Ap e r).drop n:=λn=>by
    show (e x++Ap e r).drop (w+n)=_
    rw[←hx,ArW];simp
   rw[show (i+1)*w=w+i*w by rw[Aqf];omega,e1,this,show w+i*w+w=w+(i*w+w) by omega,e1];rfl
theorem Bn(l:List α)(i:Nat)(h:i<l.length)(k:List AV->KR):IE (Ap e l) (0+i*w) w k=k (e l[i]):=by
 have hw:i*w+w<=l.length*w:=by
  rw[←Nat.succ_mul];exact Nat.mul_le_mul_right w h
 unfold IE;have:ApA (0+i*w+w) (Ap e l).length=true:=by rw[Bq he];simp;omega
 rw[this]
 show k (((Ap e l).drop (0+i*w)).take w)=_
 rw[ApN,WP he l i h,List.take_left' (he _)]
theorem CJ(l:List α)(i:Nat)(h:i<l.length)(x:α):AZ (Ap e l) (0+i*w) (e x)=Ap e (l.set i x):=by
 unfold AZ;rw[he x,ApN];have e1:=WP he l i h;have e2:∀(l:List α) (i:Nat),i<=l.length->(Ap e l).take (i*w)=Ap e (l.take i):=λl=>by
  induction l with
  |nil=>intro i _;simp[Ap]
  |cons y r ih=>
   intro i hi
   cases i with
   |zero=>simp[Ap]
   |succ i=>
    rw[show (i+1)*w=w+i*w by rw[Aqf];omega]
    show (e y++Ap e r).take (w+i*w)=e y++Ap e (r.take i)
    rw[←he y,List.take_append,List.take_of_length_le (by omega),show (e y).length+i*(e y).length-(e y).length=i*(e y).length by omega,he y,ih i (by simpa using hi)]
 have e3:∀(l:List α) (i:Nat),i<=l.length->(Ap e l).drop (i*w)=Ap e (l.drop i):=λl=>by
  induction l with
  |nil=>intro i _;simp[Ap]
  |cons y r ih=>
   intro i hi
   cases i with
   |zero=>simp[Ap]
   |succ i=>
    rw[show (i+1)*w=w+i*w by rw[Aqf];omega]
    show (e y++Ap e r).drop (w+i*w)=Ap e (r.drop i)
    rw[←he y,ArW,List.drop_of_length_le (by omega),show (e y).length+i*(e y).length-(e y).length=i*(e y).length by omega,he y,ih i (by simpa using hi),ApU]
 rw[e2 l i (by omega),show i*w+w=(i+1)*w by rw[Aqf];omega,e3 l (i+1) (by omega),Aq7,if_pos h];simp[Ap]
end
theorem Fq{a b:Int}:FJ a b<0 ↔ a<b:=by
 unfold FJ;split
 .omega
 .split<;>omega
theorem TA{j:Nat}(h:j<4611686018427387904):Af.sub .i64 ((j+1:Nat):Int) 1=(j:Int):=by
 rw[Gb (by omega) (by omega)];omega
theorem A0{a b:Nat}(h:a<b):Nat.blt a b=true:=by simpa using h
section
variable {D:Orc} (K:Knows Al Fb D)
include K
theorem SN(x:Int):D.ask (.fn 207) [iv x] []=some (bv false,[]):=by
 refine K.fn' Ag1 _ rfl ((AnS ..).trans ?_);exact Av rfl rfl
theorem QS(x y:Int):D.ask (.fn 154) [iv x,iv y] []=some (iv (FJ x y),[]):=by
 refine K.fn' AgK _ rfl ((Anq ..).trans ?_);refine Ab (SN K x) ?_;simp only[ND,DK,Aa];refine Ab (SN K y) ?_;simp only[ND,DK,Aa];unfold FJ
 by_cases h:x<y
 .rw[if_pos h]
  exact Ai h rfl
 .rw[if_neg h]
  refine Ah h ?_
  by_cases h2:y<x
  .rw[if_pos h2]
   exact Ai h2 rfl
  .rw[if_neg h2]
   exact Ah h2 rfl
theorem Hj(p q:Pt):D.ask (.fn 153) [.agg (eP p),.agg (eP q)] []=some (iv (FJ p.v q.v),[]):=by
 refine K.fn' AgJ _ rfl ((Anp ..).trans ?_);refine Ab (QS K p.v q.v) ?_;rfl
def Fu:AV:=.fn (.func 153) [] []
theorem Ajo(a i:Nat)(b:Int):∀(m j:Nat) (l:List Pt),j-a=m->a<=j->j<=i->i<l.length->l.length<=1000000000->W8 Pt.v l a i j->
  ∃ r:List Pt,D.ask (.lp 242 1) [.sl 0 0 l.length 3,iv (a:Int),iv b,Fu,iv (i:Int),iv (j:Int)] [Δ (Ap eP l) true true]
   = some (.tup [iv 2,.sl 0 0 l.length 3,iv (a:Int),iv b,Fu,iv (i:Int)],[.set (Δ (Ap eP r) true true)])
   ∧ r.length=l.length/\r.Perm l/\Srt Pt.v r a (i+1)/\Same0 l r a (i+1):=by
 intro m
 induction m with
 |zero=>
  intro j l hm ha hj hi hl hs;obtain rfl:j=a:=by omega
  refine⟨l,?_,rfl,List.Perm.refl _,Tz Pt.v hj hs (.inl rfl),C3 _ _ _⟩;refine K.lp' Hp _ rfl (by kernel_rfl) ((Uu ..).trans ?_);exact Ah (by omega) rfl
 |succ m ih=>
  intro j l hm ha hj hi hl hs;obtain⟨k,rfl⟩:∃ k,j=k+1:=⟨j-1,by omega⟩;have h1:k+1<l.length:=by omega
  have h0:k<l.length:=by omega
  have kf1:kf Pt.v l (k+1)=l[k+1].v:=FN Pt.v h1;have kf0:kf Pt.v l k=l[k].v:=FN Pt.v h0
  by_cases hlt:l[k+1].v<l[k].v
  .have hs2:W8 Pt.v (C6 l (k+1) k) a i k:=YH (j:=k+1) Pt.v hi (by omega) hj hs (by rw[ArL,kf1,kf0];exact hlt)
   have hlen:=IJ l (k+1) k;obtain⟨r,g,hr,hp,ho,hsm⟩:=ih k (C6 l (k+1) k) (by omega) (by omega) (by omega) (by omega) (by omega) hs2;rw[hlen]at g hr;refine⟨r,?_,hr,hp.trans (GW _ _ _),ho,(YK (by omega) (by omega) (by omega) (by omega)).trans hsm⟩;refine K.lp' Hp _ rfl (by kernel_rfl) ((Uu ..).trans ?_);refine Ai (by omega) ?_;rw[TA (by omega),Aw,A0 h1];refine Ac ?_;refine(Bn Az l (k+1) h1 _).trans ?_;simp only[eP,eN,ND,DK,Aa];rw[Aw,A0 h0];refine Ac ?_;refine(Bn Az l k h0 _).trans ?_;simp only[eP,eN,ND,DK,Aa];refine Ab (Hj K l[k+1] l[k]) ?_;simp only[ND,DK,Aa];refine Ai (Fq.2 hlt) ?_;rw[Aw,A0 h0];refine Ac ?_;refine(Bn Az l k h0 _).trans ?_;simp only[eP,eN,ND,DK,Aa];rw[Aw,A0 h1];refine Ac ?_;refine(Bn Az l (k+1) h1 _).trans ?_;simp only[eP,eN,ND,DK,Aa];rw[Aw,A0 h1];refine Ac ?_;have s1:=CJ Az l (k+1) h1 l[k];have s2:=CJ Az (l.set (k+1) l[k]) k (by rw[Ap0];exact h0) l[k+1];rw[←DM h1 h0]at s2;simp only[eP,eN]at s1 s2;rw[show ApA (0+(k+1)*3+3) (Ap eP l).length=true by rw[Bq Az];simp;omega];refine Ac ?_;rw[Aw,A0 h0];refine Ac ?_;rw[s1,s2];rw[show ApA (0+k*3+3) (Ap eP (l.set (k+1) l[k])).length=true by rw[Bq Az,Ap0];simp;omega];refine Ac ?_;refine Ab g ?_;rfl
  .refine⟨l,?_,rfl,List.Perm.refl _,Tz Pt.v hj hs (.inr ?_),C3 _ _ _⟩
   .skip
    refine K.lp' Hp _ rfl (by kernel_rfl) ((Uu ..).trans ?_);refine Ai (by omega) ?_;rw[TA (by omega),Aw,A0 h1];refine Ac ?_;refine(Bn Az l (k+1) h1 _).trans ?_;simp only[eP,eN,ND,DK,Aa];rw[Aw,A0 h0];refine Ac ?_;refine(Bn Az l k h0 _).trans ?_;simp only[eP,eN,ND,DK,Aa];refine Ab (Hj K l[k+1] l[k]) ?_;simp only[ND,DK,Aa];exact Ah (λh=>hlt (Fq.1 h)) rfl
   .rw[ArL,kf1,kf0]
    omega
theorem Aek(a b:Nat):∀(m i:Nat) (l:List Pt),b-i=m->a<i->i<=b->b<=l.length->l.length<=1000000000->Srt Pt.v l a i->
  ∃ r:List Pt,D.ask (.lp 242 0) [.sl 0 0 l.length 3,iv (a:Int),iv (b:Int),Fu,iv (i:Int)] [Δ (Ap eP l) true true]
   = some (.tup [iv 0,.sl 0 0 l.length 3],[.set (Δ (Ap eP r) true true)])
   ∧ r.length=l.length/\r.Perm l/\Srt Pt.v r a b/\Same0 l r a b:=by
 intro m
 induction m with
 |zero=>
  intro i l hm ha hi hb hl hs;obtain rfl:i=b:=by omega
  refine⟨l,?_,rfl,List.Perm.refl _,hs,C3 _ _ _⟩;refine K.lp' Hp _ rfl (by kernel_rfl) ((Ut ..).trans ?_);exact Ah (by omega) rfl
 |succ m ih=>
  intro i l hm ha hi hb hl hs;obtain⟨r,g,hr,hp,ho,hsm⟩:=Ajo K a i (b:Int) _ i l rfl (by omega) (ω _) (by omega) hl (Vw Pt.v hs);obtain⟨r2,g2,hr2,hp2,ho2,hsm2⟩:=ih (i+1) r (by omega) (by omega) (by omega) (by omega) (by omega) ho;rw[hr]at g2;refine⟨r2,?_,by omega,hp2.trans hp,ho2,(hsm.wide (ω _) (by omega)).trans hsm2⟩;refine K.lp' Hp _ rfl (by kernel_rfl) ((Ut ..).trans ?_);refine Ai (by omega) ?_;refine Ab g ?_;simp only[Fu,ND,DK,Aa];refine Ac ?_;rw[A8 (by omega)];refine Ab g2 ?_;rfl
theorem Aa2{a b:Nat}{l:List Pt}(hab:a<=b)(hb:b<=l.length)(hl:l.length<=1000000000) :
  ∃ r:List Pt,D.ask (.fn 242) [.sl 0 0 l.length 3,iv (a:Int),iv (b:Int),Fu] [Δ (Ap eP l) true true]=some (.tup [],[.set (Δ (Ap eP r) true true)])
   ∧ r.length=l.length/\r.Perm l/\Srt Pt.v r a b/\Same0 l r a b:=by
 by_cases h:a<b
 .obtain⟨r,g,hr⟩:=Aek K a b _ (a+1) l rfl (by omega) (by omega) hb hl (AfB Pt.v l a)
  refine⟨r,?_,hr⟩;refine K.fn' Hp _ rfl ((AkQ ..).trans ?_);rw[A8 (by omega)];refine Ab g ?_;rfl
 .obtain rfl:a=b:=by omega
  have g:D.ask (.lp 242 0) [.sl 0 0 l.length 3,iv (a:Int),iv (a:Int),Fu,iv ((a+1:Nat):Int)] [Δ (Ap eP l) true true]=some (.tup [iv 0,.sl 0 0 l.length 3],[.set (Δ (Ap eP l) true true)]):=by
   refine K.lp' Hp _ rfl (by kernel_rfl) ((Ut ..).trans ?_);exact Ah (by omega) rfl
  refine⟨l,?_,rfl,List.Perm.refl _,AfA Pt.v l a,C3 _ _ _⟩;refine K.fn' Hp _ rfl ((AkQ ..).trans ?_);rw[A8 (by omega)];refine Ab g ?_;rfl
end
structure Tm where
 ps:List Pt
 k:Zi
def eT(t:Tm):List AV:=[.ls (t.ps.map eP),bv t.k.neg,eN t.k.abs]
structure Lf where
 ps:List (Int × Int)
 k:Int
def pv(p:Pt):Int × Int:=(p.v,zv p.z)
def Bc(p:Int × Int):Pt:=⟨p.1,AF p.2⟩
def Tm.lf(t:Tm):Lf:=⟨t.ps.map pv,zv t.k⟩
def Lf.tm(l:Lf):Tm:=⟨l.ps.map Bc,AF l.k⟩
def Lf.pln(l:Lf):Lf:=⟨DS l.ps,l.k⟩
theorem Afc(p:Int × Int):pv (Bc p)=p:=by
 unfold pv Bc;rw[Ay]
theorem DN(l:Lf):l.tm.lf=l:=by
 obtain⟨ps,k⟩:=l;unfold Lf.tm Tm.lf;simp only[List.map_map,Ay];rw[show (pv ∘ Bc)=id from funext Afc,List.map_id]
theorem Afb(l:Lf):l.pln.pln=l.pln:=by
 unfold Lf.pln;rw[Vi (EM _)]
structure TmB (n k:Nat) (t:Tm):Prop where
 len:t.ps.length<=n
 ps:∀ p∈t.ps,Lz k p.z
 k:Lz k t.k
structure LB (n k:Nat) (l:Lf):Prop where
 len:l.ps.length<=n
 ps:∀ p∈l.ps,InB k p.2
 k:InB k l.k
theorem TmB.lb{n k:Nat}{t:Tm}(h:TmB n k t):LB n k t.lf:=by
 refine⟨by simpa[Tm.lf]using h.len,λp hp=>?_,h.k.inb⟩;simp only[Tm.lf,AqH]at hp;obtain⟨q,hq,rfl⟩:=hp;exact(h.ps q hq).inb
theorem LB.tb{n k:Nat}{l:Lf}(h:LB n k l):TmB n k l.tm:=by
 refine⟨by simpa[Lf.tm]using h.len,λp hp=>?_,h.k.lz⟩;simp only[Lf.tm,AqH]at hp;obtain⟨q,hq,rfl⟩:=hp;exact(h.ps q hq).lz
theorem LB.mono{n k m j:Nat}{l:Lf}(h:LB n k l)(hn:n<=m)(hk:k<=j):LB m j l:=⟨by have:=h.len;omega,λp hp=>(h.ps p hp).mono hk,h.k.mono hk⟩
theorem TmB.mono{n k m j:Nat}{t:Tm}(h:TmB n k t)(hn:n<=m)(hk:k<=j):TmB m j t:=⟨by have:=h.len;omega,λp hp=>(h.ps p hp).mono hk,h.k.mono hk⟩
theorem Ir{k:Nat}(v:Int):∀ l:List (Int × Int),(∀ p∈l,InB k p.2)->InB (k+l.length) (AU v l)
 |[],_=>InB.zero _
 |p::r,h=>by
  have h1:=Ir v r λq hq=>h q (ApM _ hq)
  have h2:=h p (ApK ..);rw[AU,Apw,←Nat.add_assoc];refine InB.add ?_ h1;split
  .exact h2.mono (by omega)
  .exact InB.zero _
theorem Pln.mem:∀{l:List (Int × Int)},Pln l->∀ p∈l,AU p.1 l=p.2
 |q::r,h,p,hp=>by
  rcases ApC.1 hp with rfl|hp
  .exact h.head
  .rw[AU,if_neg (by have:=(Aqo.1 h.asc).1 p hp;omega),h.tail.mem p hp]
   omega
theorem LB.pln{n k:Nat}{l:Lf}(h:LB n k l):LB n (k+n) l.pln:=by
 have hl:=P2 l.ps;refine⟨by have:=h.len;simp only[Lf.pln];omega,λp hp=>?_,h.k.mono (by omega)⟩;have h1:=(EM l.ps).mem p hp;rw[Jy,if_pos ((EM l.ps).pos p hp)]at h1;rw[←h1];exact(Ir p.1 l.ps h.ps).mono (by have:=h.len;omega)
def Lf.add(a b:Lf):Lf:=Lf.pln ⟨a.ps++b.ps,a.k+b.k⟩
def Lf.scale(a:Lf)(n:Int):Lf:=Lf.pln ⟨a.ps.map λp=>(p.1,p.2*n),a.k*n⟩
def Lf.sub(a b:Lf):Lf:=a.add (b.scale (-1))
def Lf.num(k:Int):Lf:=⟨[],k⟩
theorem LB.app{n k m j:Nat}{a b:Lf}(ha:LB n k a)(hb:LB m j b):LB (n+m) (k+j+1) ⟨a.ps++b.ps,a.k+b.k⟩:=by
 refine⟨by have:=ha.len;have:=hb.len;simp only[υ];omega,λp hp=>?_,InB.add (ha.k.mono (by omega)) (hb.k.mono (by omega))⟩;rcases Ap1.1 hp with h|h
 .exact(ha.ps p h).mono (by omega)
 .exact(hb.ps p h).mono (by omega)
theorem LB.mul{n k j:Nat}{a:Lf}{x:Int}(ha:LB n k a)(hx:InB j x):LB n (k+j) ⟨a.ps.map λp=>(p.1,p.2*x),a.k*x⟩:=by
 refine⟨by simpa using ha.len,λp hp=>?_,InB.mul ha.k hx⟩;simp only[AqH]at hp;obtain⟨q,hq,rfl⟩:=hp;exact InB.mul (ha.ps q hq) hx
theorem LB.add{n k m j:Nat}{a b:Lf}(ha:LB n k a)(hb:LB m j b):LB (n+m) (k+j+1+(n+m)) (a.add b):=(ha.app hb).pln
theorem LB.scale{n k j:Nat}{a:Lf}{x:Int}(ha:LB n k a)(hx:InB j x):LB n (k+j+n) (a.scale x):=(ha.mul hx).pln
def DL(f:Int->Int):List (Int × Int)->Int
 |[]=>0
 |p::r=>p.2*f p.1+DL f r
def Lf.val(f:Int->Int)(l:Lf):Int:=DL f l.ps+l.k
theorem Oy(f:Int->Int):∀ a b,DL f (a++b)=DL f a+DL f b
 |[],b=>by simp[DL]
 |p::r,b=>by rw[AqN,DL,DL,Oy f r b];omega
theorem Oz(f:Int->Int)(n:Int):∀ a:List (Int × Int),DL f (a.map λp=>(p.1,p.2*n))=DL f a*n
 |[]=>by simp[DL]
 |p::r=>by
  rw[ApS,DL,DL,Oz f n r,Asa,AsS,AsS,Int.mul_comm n]
theorem Qc(f:Int->Int)(v c:Int):∀ l,DL f (Hr v c l)=c*f v+DL f l
 |[]=>by
  unfold Hr;split
  .rename_i h;simp[DL,h]
  .simp[DL]
 |p::r=>by
  have ih:=Qc f v c r;unfold Hr;split
  .split
   .rename_i h;rw[h];simp
   .rfl
  .split
   .rw[DL,ih,DL];omega
   .have e:p.1=v:=by omega
    split
    .rename_i h
     rw[DL,e,←Int.add_assoc,←Asa,Int.add_comm c,h];simp
    .show (p.2+c)*f v+DL f r=c*f v+(p.2*f p.1+DL f r)
     rw[e,Asa];omega
theorem TF{f:Int->Int}(hf:∀ v,v<0->f v=0):∀ l,DL f (DS l)=DL f l
 |[]=>rfl
 |p::r=>by
  have ih:=TF hf r;unfold DS;split
  .rw[Qc,ih,DL]
  .rename_i h
   rw[ih,DL,hf p.1 (by omega)];simp
theorem RJ{f:Int->Int}(hf:∀ v,v<0->f v=0)(l:Lf):l.pln.val f=l.val f:=by
 unfold Lf.pln Lf.val;rw[TF hf]
theorem AfP{f:Int->Int}(hf:∀ v,v<0->f v=0)(a b:Lf):(a.add b).val f=a.val f+b.val f:=by
 unfold Lf.add;rw[RJ hf];unfold Lf.val;simp only[Oy];omega
theorem Y0{f:Int->Int}(hf:∀ v,v<0->f v=0)(a:Lf)(n:Int):(a.scale n).val f=a.val f*n:=by
 unfold Lf.scale;rw[RJ hf];unfold Lf.val;simp only[Oz,Asa]
theorem M2{f:Int->Int}(hf:∀ v,v<0->f v=0)(a b:Lf):(a.sub b).val f=a.val f-b.val f:=by
 unfold Lf.sub;rw[AfP hf,Y0 hf];omega
def CK(vals:List Int)(v:Int):Int:=if v<0 then 0 else vals.getD v.toNat 0
theorem TQ(vals:List Int)(v:Int)(h:v<0):CK vals v=0:=if_pos h
inductive Fm where
 |mk (kind:Int) (t:Tm) (eq:Bool) (kids:List Fm)
mutual
def eF:Fm->List AV
 |.mk k t e ks=>[iv k,.ls (t.ps.map eP),bv t.k.neg,eN t.k.abs,bv e,.ls (eFs ks)]
def eFs:List Fm->List (List AV)
 |[]=>[]
 |x::r=>eF x::eFs r
end
theorem CW:∀ l,eFs l=l.map eF
 |[]=>rfl
 |x::r=>by simp[eFs,CW r]
def Fm.kind:Fm->Int
 |.mk k _ _ _=>k
def Fm.tm:Fm->Tm
 |.mk _ t _ _=>t
def Fm.eq:Fm->Bool
 |.mk _ _ e _=>e
def Fm.kids:Fm->List Fm
 |.mk _ _ _ ks=>ks
def Y8:Tm:=⟨[],⟨false,[]⟩⟩
def OR:Lf:=⟨[],0⟩
theorem U1:OR.tm=Y8:=by
 unfold Lf.tm OR Y8;rw[LM];rfl
def kF(k:Int)(ks:List Fm):Fm:=.mk k Y8 false ks
def MI(b:Bool):Fm:=kF (if b then 0 else 1) []
def DR(l:Lf)(e:Bool):Fm:=.mk 2 l.tm e []
def I2:Fm->List Fm
 |.mk k _ _ ks=>if k=4\/k=5 then ks else if k=3 then ks.take 1 else []
mutual
def BK:Fm->Fm
 |.mk k t e ks=>if k=0 then MI true else if k=2 then DR t.lf.pln e else if k=3 then kF 3 (MP ks) else if k=4\/k=5 then kF k (Ip ks) else MI false
def MP:List Fm->List Fm
 |[]=>[]
 |x::_=>[BK x]
def Ip:List Fm->List Fm
 |[]=>[]
 |x::r=>BK x::Ip r
end
theorem Hk:∀ l,Ip l=l.map BK
 |[]=>rfl
 |x::r=>by simp[Ip,Hk r]
theorem RX:∀ l,MP l=(l.take 1).map BK
 |[]=>rfl
 |x::r=>by simp[MP]
def Vl(v:Int)(e:Bool):Bool:=decide (v=0)||(!e&&decide (0<v))
mutual
def Df(f:Int->Int):Fm->Bool
 |.mk k t e ks=>if k=0 then true else if k=2 then Vl (t.lf.val f) e else if k=3 then NM f ks else if k=4 then GC f ks else if k=5 then GD f ks else false
def NM(f:Int->Int):List Fm->Bool
 |[]=>false
 |x::_=>!Df f x
def GC(f:Int->Int):List Fm->Bool
 |[]=>true
 |x::r=>Df f x&&GC f r
def GD(f:Int->Int):List Fm->Bool
 |[]=>false
 |x::r=>Df f x||GD f r
end
theorem La(f:Int->Int)(b:Bool):Df f (MI b)=b:=by
 cases b<;>rfl
theorem D1(f:Int->Int)(l:Lf)(e:Bool):Df f (DR l e)=Vl (l.val f) e:=by
 unfold DR;rw[Df,if_neg (by decide),if_pos rfl,DN]
def OZ(op:Int)(l r:Lf):Fm:=
 if op=0 then DR (l.sub r) true
 else if op=1 then kF 3 [DR (l.sub r) true]
 else if op=2 then DR ((r.sub l).sub (.num 1)) false
 else if op=3 then DR (r.sub l) false
 else if op=4 then DR ((l.sub r).sub (.num 1)) false
 else if op=5 then DR (l.sub r) false
 else MI false
def VP(op a b:Int):Bool:=
 if op=0 then decide (a=b) else if op=1 then decide (a≠b) else if op=2 then decide (a<b) else if op=3 then decide (a<=b) else if op=4 then decide (b<a) else if op=5 then decide (b<=a) else false
theorem AfR(f:Int->Int)(k:Int):(Lf.num k).val f=k:=by
 show 0+k=k
 omega
theorem Gc(v:Int)(e:Bool):Vl v e=true ↔ v=0\/e=false/\0<v:=by
 unfold Vl
 cases e<;>simp
theorem XQ{f:Int->Int}(hf:∀ v,v<0->f v=0)(op:Int)(l r:Lf):Df f (OZ op l r)=VP op (l.val f) (r.val f):=by
 have e1:=M2 hf l r;have e2:=M2 hf r l;have e3:=M2 hf (r.sub l) (.num 1);have e4:=M2 hf (l.sub r) (.num 1);rw[AfR]at e3 e4;rw[Bool.eq_iff_iff];unfold OZ VP;split
 .rw[D1,Gc,decide_eq_true_iff];simp;omega
 split
 .unfold kF
  rw[Df,if_neg (by decide),if_neg (by decide),if_pos rfl,NM,Bool.not_eq_true',←Bool.not_eq_true,D1,Gc,decide_eq_true_iff];simp;omega
 split
 .rw[D1,Gc,decide_eq_true_iff];simp;omega
 split
 .rw[D1,Gc,decide_eq_true_iff];simp;omega
 split
 .rw[D1,Gc,decide_eq_true_iff];simp;omega
 split
 .rw[D1,Gc,decide_eq_true_iff];simp;omega
 rw[La]
mutual
inductive CanF:Fm->Prop
 |tru (b:Bool):CanF (MI b)
 |atom (l:Lf) (e:Bool) (h:l.pln=l):CanF (DR l e)
 |no (x:Fm) (h:CanF x):CanF (kF 3 [x])
 |and (l:List Fm) (h:CanFs l):CanF (kF 4 l)
 |or (l:List Fm) (h:CanFs l):CanF (kF 5 l)
 |no0:CanF (kF 3 [])
inductive CanFs:List Fm->Prop
 |nil:CanFs []
 |cons {x:Fm} {r:List Fm} (h:CanF x) (hr:CanFs r):CanFs (x::r)
end
mutual
theorem CanF.clone:∀{x:Fm},CanF x->BK x=x
 |_,.tru b=>by cases b<;>rfl
 |_,.atom l e h=>by
  unfold DR;rw[BK,if_neg (by decide),if_pos rfl,DN,h];rfl
 |_,.no x h=>by
  unfold kF;rw[BK,if_neg (by decide),if_neg (by decide),if_pos rfl,MP,h.clone];rfl
 |_,.and l h=>by
  unfold kF;rw[BK,if_neg (by decide),if_neg (by decide),if_neg (by decide),if_pos (.inl rfl),h.clone];rfl
 |_,.or l h=>by
  unfold kF;rw[BK,if_neg (by decide),if_neg (by decide),if_neg (by decide),if_pos (.inr rfl),h.clone];rfl
 |_,.no0=>rfl
theorem CanFs.clone:∀{l:List Fm},CanFs l->Ip l=l
 |_,.nil=>rfl
 |_,.cons h hr=>by rw[Ip,h.clone,hr.clone]
end
theorem Dm(l r:Lf):(l.sub r).pln=l.sub r:=Afb _
theorem ZE(op:Int)(l r:Lf):CanF (OZ op l r):=by
 unfold OZ
 repeat' split
 .exact .atom _ _ (Dm _ _)
 .exact .no _ (.atom _ _ (Dm _ _))
 .exact .atom _ _ (Dm _ _)
 .exact .atom _ _ (Dm _ _)
 .exact .atom _ _ (Dm _ _)
 .exact .atom _ _ (Dm _ _)
 .exact .tru _
def or2(a b:Int):Int:=if a=0 then b else a
theorem Oa{a b:Int}:or2 a b=0 ↔ a=0/\b=0:=by
 unfold or2;split<;>simp_all
theorem Iq{a b:Int}:FJ a b=0 ↔ a=b:=by
 unfold FJ;split
 .omega
 .split<;>omega
def Ps(p q:Int × Int):Int:=or2 (FJ p.1 q.1) (FJ p.2 q.2)
theorem No{p q:Int × Int}:Ps p q=0 ↔ p=q:=by
 unfold Ps;rw[Oa,Iq,Iq,Prod.ext_iff]
def JS:List (Int × Int)->List (Int × Int)->Option Int
 |[],_=>none
 |_::_,[]=>some 1
 |p::a,q::b=>if Ps p q=0 then JS a b else some (Ps p q)
def RY(a b:List (Int × Int)):Int:=match JS a b with
 |some n=>n
 |none=>if a.length<b.length then -1 else 0
theorem VQ:∀{a b:List (Int × Int)} {n:Int},JS a b=some n->n≠0
 |[],_,_,h=>by cases h
 |_::_,[],n,h=>by
  rw[JS]at h;injection h with h
  omega
 |p::a,q::b,n,h=>by
  rw[JS]at h;split at h
  .exact VQ h
  .rename_i h0
   injection h with h
   rw[←h];exact h0
theorem Po:∀{a b:List (Int × Int)},JS a b=none->¬ a.length<b.length->a=b
 |[],b,_,h=>by
  cases b with
  |nil=>rfl
  |cons _ _=>simp at h
 |_::_,[],h,_=>by cases h
 |p::a,q::b,h,hl=>by
  rw[JS]at h;split at h
  .rename_i h0
   rw[No.1 h0,Po h (by simpa using hl)]
  .cases h
theorem Pq:∀ a:List (Int × Int),JS a a=none
 |[]=>rfl
 |p::a=>by rw[JS,if_pos (No.2 rfl),Pq a]
theorem Um{a b:List (Int × Int)}:RY a b=0 ↔ a=b:=by
 unfold RY;constructor
 .intro h
  cases e:JS a b with
  |some n=>
   rw[e]at h;exact absurd h (VQ e)
  |none=>
   rw[e]at h;refine Po e λhl=>?_
   simp only[if_pos hl]at h;omega
 .rintro rfl
  rw[Pq];simp
def Xu(a b:Lf):Int:=or2 (RY a.ps b.ps) (FJ a.k b.k)
theorem Xv{a b:Lf}:Xu a b=0 ↔ a=b:=by
 obtain⟨p,k⟩:=a;obtain⟨q,j⟩:=b;unfold Xu;rw[Oa,Um,Iq];simp
def WJ(e:Bool):Int:=if e then 1 else 0
def QR(a b:Lf)(e f:Bool):Int:=or2 (Xu a b) (FJ (WJ e) (WJ f))
theorem Pn{a b:Lf}{e f:Bool}:QR a b e f=0 ↔ a=b/\e=f:=by
 unfold QR;rw[Oa,Xv,Iq]
 cases e<;>cases f<;>simp[WJ]
mutual
def VV:Fm->Fm->Bool
 |.mk k t e ks,.mk j u f js=>decide (k=j)&&(!decide (k=2)||decide (QR t.lf.pln u.lf.pln e f=0))&&decide (ks.length=js.length)&&IS ks js
def IS:List Fm->List Fm->Bool
 |[],_=>true
 |_::_,[]=>false
 |x::a,y::b=>VV x y&&IS a b
end
theorem UA(k j:Int)(t u:Tm)(e f:Bool)(ks js:List Fm):VV (.mk k t e ks) (.mk j u f js)=(decide (k=j)&&(!decide (k=2)||decide (QR t.lf.pln u.lf.pln e f=0))&&decide (ks.length=js.length)&&IS ks js):=by
 rw[VV]
theorem K5(x y:Fm)(a b:List Fm):IS (x::a) (y::b)=(VV x y&&IS a b):=by rw[IS]
mutual
theorem R4:∀ x:Fm,VV x x=true
 |.mk k t e ks=>by
  rw[UA,Pw ks,Pn.2 ⟨rfl,rfl⟩];simp
theorem Pw:∀ l:List Fm,IS l l=true
 |[]=>by rw[IS]
 |x::r=>by rw[K5,R4 x,Pw r];rfl
end
theorem CanFs.mem:∀{l:List Fm},CanFs l->∀ x∈l,CanF x
 |_::_,.cons h hr,x,hx=>by
  rcases ApC.1 hx with rfl|hx
  .exact h
  .exact hr.mem x hx
theorem CanF.kids{x:Fm}(h:CanF x):∀ y∈x.kids,CanF y:=by
 cases h with
 |tru b=>intro y hy;cases b<;>cases hy
 |atom l e h=>intro y hy;cases hy
 |no x h=>intro y hy;rcases Ap4.1 hy with rfl;exact h
 |and l h=>exact h.mem
 |or l h=>exact h.mem
 |no0=>intro y hy;cases hy
theorem CanF.head{x:Fm}(h:CanF x):(x.kind=2/\x.kids=[]/\∃ l:Lf,l.pln=l/\x.tm=l.tm)\/(x.kind≠2/\x.tm=Y8/\x.eq=false):=by
 cases h with
 |tru b=>exact .inr ⟨by cases b<;>decide,rfl,rfl⟩
 |atom l e h=>exact .inl ⟨rfl,rfl,l,h,rfl⟩
 |no x h=>exact .inr ⟨by show (3:Int)≠2;decide,rfl,rfl⟩
 |and l h=>exact .inr ⟨by show (4:Int)≠2;decide,rfl,rfl⟩
 |or l h=>exact .inr ⟨by show (5:Int)≠2;decide,rfl,rfl⟩
 |no0=>exact .inr ⟨by show (3:Int)≠2;decide,rfl,rfl⟩
theorem AdW:∀ n:Nat,(∀ x y:Fm,SizeOf.sizeOf x<n->CanF x->CanF y->VV x y=true->x=y)/\(∀ a b:List Fm,SizeOf.sizeOf a<n->(∀ x∈a,CanF x)->(∀ x∈b,CanF x)->a.length=b.length->IS a b=true->a=b):=by
 intro n
 induction n with
 |zero=>exact⟨λx y h=>by omega,λa b h=>by omega⟩
 |succ n ih=>
  refine⟨λx y hn hx hy h=>?_,λa b hn ha hb hl h=>?_⟩
  .have kx:=hx.kids
   have ky:=hy.kids;have dx:=hx.head;have dy:=hy.head;obtain⟨k,t,e,ks⟩:=x;obtain⟨j,u,f,js⟩:=y;rw[UA]at h;simp only[ε,decide_eq_true_eq]at h;obtain⟨⟨⟨rfl,h2⟩,hl⟩,hs⟩:=h;have e1:=ih.2 ks js (by simp only[Fm.mk.sizeOf_spec]at hn;omega) kx ky hl hs;simp only[Fm.kind,Fm.kids,Fm.tm,Fm.eq]at dx dy;subst e1;rcases dx with⟨d0,_,l,hp,rfl⟩|⟨d0,rfl,rfl⟩
   .rcases dy with⟨_,_,m,hq,rfl⟩|⟨d1,_⟩
    .subst d0
     rw[DN,DN,hp,hq]at h2;have:=Pn.1 (by simpa using h2);rw[this.1,this.2]
    .exact absurd d0 d1
   .rcases dy with⟨d1,_⟩|⟨_,rfl,rfl⟩
    .exact absurd d1 d0
    .rfl
  .cases a with
   |nil=>cases b with
    |nil=>rfl
    |cons _ _=>cases hl
   |cons x a=>cases b with
    |nil=>cases hl
    |cons y b=>
     rw[K5,ε]at h;have hz:SizeOf.sizeOf (x::a)=1+SizeOf.sizeOf x+SizeOf.sizeOf a:=rfl;rw[ih.1 x y (by omega) (ha x (ApK ..)) (hb y (ApK ..)) h.1,ih.2 a b (by omega) (λz hz=>ha z (ApM _ hz)) (λz hz=>hb z (ApM _ hz)) (by simpa using hl) h.2]
theorem AdX{x y:Fm}(hx:CanF x)(hy:CanF y):VV x y=true ↔ x=y:=⟨(AdW _).1 x y (Nat.lt_succ_self _) hx hy,by rintro rfl;exact R4 x⟩
def FM:List (Int × Int)->Int × Int->List (Int × Int)
 |[],p=>if p.1<0 then [] else [p]
 |q::r,p=>if p.1<0 then q::r else if q.1=p.1 then(q.1,q.2+p.2)::r else p::q::r
theorem FX(p:Int × Int):FM [] p=if p.1<0 then [] else [p]:=rfl
theorem EL(q:Int × Int)(r:List (Int × Int))(p:Int × Int):FM (q::r) p=if p.1<0 then q::r else if q.1=p.1 then(q.1,q.2+p.2)::r else p::q::r:=rfl
structure GrpI (s t:List (Int × Int)):Prop where
 desc:s.Pairwise λa b=>b.1<a.1
 pos:∀ q∈s,0<=q.1
 up:∀ q∈s,∀ p∈t,0<=p.1->q.1<=p.1
theorem XK(v:Int)(hv:0<=v):∀(s:List (Int × Int)) (p:Int × Int),AU v (FM s p)=AU v s+(if p.1=v then p.2 else 0)
 |[],p=>by
  rw[FX];split
  .rw[if_neg (by omega)];simp[AU]
  .simp[AU]
 |q::r,p=>by
  rw[EL];split
  .rw[if_neg (by omega)];omega
  .split
   .rename_i h
    rw[AU,AU];simp only[h];split<;>omega
   .rw[AU]
    omega
theorem AaK{s t:List (Int × Int)}{p:Int × Int}(h:GrpI s (p::t))(ht:∀ x∈t,p.1<=x.1):GrpI (FM s p) t:=by
 have ut:∀ q∈s,∀ x∈t,0<=x.1->q.1<=x.1:=λq hq x hx=>h.up q hq x (ApM _ hx)
 cases s with
 |nil=>
  rw[FX];split
  .exact⟨.nil,by simp,by simp⟩
  .exact⟨Ar8 _ _,by simp;omega,λq hq x hx _=>by rw[Ap4.1 hq];exact ht x hx⟩
 |cons q r=>
  have hd:=Aqo.1 h.desc;rw[EL];split
  .exact⟨h.desc,h.pos,ut⟩
  .rename_i hp
   split
   .refine⟨Aqo.2 ⟨λx hx=>hd.1 x hx,hd.2⟩,λx hx=>?_,λx hx y hy hy0=>?_⟩
    .rcases ApC.1 hx with rfl|hx
     .exact h.pos q (ApK ..)
     .exact h.pos x (ApM _ hx)
    .rcases ApC.1 hx with rfl|hx
     .exact ut q (ApK ..) y hy hy0
     .exact ut x (ApM _ hx) y hy hy0
   .rename_i hne
    have hq:=h.up q (ApK ..) p (ApK ..) (by omega);refine⟨Aqo.2 ⟨λx hx=>?_,h.desc⟩,λx hx=>?_,λx hx y hy hy0=>?_⟩
    .rcases ApC.1 hx with rfl|hx
     .omega
     .have:=hd.1 x hx;omega
    .rcases ApC.1 hx with rfl|hx
     .omega
     .exact h.pos x hx
    .rcases ApC.1 hx with rfl|hx
     .exact ht y hy
     .exact ut x hx y hy hy0
theorem VY:∀(t s:List (Int × Int)),t.Pairwise (λa b=>a.1<=b.1)->GrpI s t->GrpI (t.foldl FM s) []/\∀ v,0<=v->AU v (t.foldl FM s)=AU v s+AU v t
 |[],s,_,h=>⟨h,λv _=>by simp[AU]⟩
 |p::t,s,ht,h=>by
  have hp:=Aqo.1 ht;obtain⟨g1,g2⟩:=VY t (FM s p) hp.2 (AaK h hp.1);refine⟨g1,λv hv=>?_⟩;rw[Arf,g2 v hv,XK v hv,AU];omega
theorem R0(v:Int):∀ l:List (Int × Int),AU v (l.filter λp=>!decide (p.2=0))=AU v l
 |[]=>rfl
 |p::r=>by
  have ih:=R0 v r
  by_cases h:p.2=0
  .rw[Ar5 (by simp[h]),ih,AU,h]
   simp
  .rw[Ar6 (by simp[h]),AU,AU,ih]
theorem Aea{t l:List (Int × Int)}(ht:t.Pairwise λa b=>a.1<=b.1)(hp:t.Perm l):((t.foldl FM []).reverse).filter (λp=>!decide (p.2=0))=DS l:=by
 obtain⟨g1,g2⟩:=VY t [] ht ⟨.nil,by simp,by simp⟩;refine Te ⟨?_,λp h=>?_,λp h=>?_⟩ λv hv=>?_
 .refine List.Pairwise.filter _ ?_
  rw[List.pairwise_reverse];exact g1.desc
 .have:=(Aro.1 h).1
  exact g1.pos p (List.mem_reverse.1 this)
 .simpa using (Aro.1 h).2
 .rw[R0,Np (List.reverse_perm _),g2 v hv,Np hp]
  simp[AU]
theorem Sf{k:Nat}{s:List (Int × Int)}{p:Int × Int}(hs:∀ q∈s,InB k q.2)(hp:InB k p.2):∀ q∈FM s p,InB (k+1) q.2:=by
 cases s with
 |nil=>
  rw[FX];split
  .simp
  .intro q hq
   rw[Ap4.1 hq];exact hp.mono (by omega)
 |cons q r=>
  rw[EL];have hq:=hs q (ApK ..);have hr:∀ x∈r,InB (k+1) x.2:=λx hx=>(hs x (ApM _ hx)).mono (by omega)
  split
  .intro x hx
   rcases ApC.1 hx with rfl|hx
   .exact hq.mono (by omega)
   .exact hr x hx
  .split
   .intro x hx
    rcases ApC.1 hx with rfl|hx
    .exact InB.add hq hp
    .exact hr x hx
   .intro x hx
    rcases ApC.1 hx with rfl|hx
    .exact hp.mono (by omega)
    .rcases ApC.1 hx with rfl|hx
     .exact hq.mono (by omega)
     .exact hr x hx
theorem Sg(s:List (Int × Int))(p:Int × Int):(FM s p).length<=s.length+1:=by
 cases s with
 |nil=>rw[FX];split<;>simp
 |cons q r=>
  rw[EL];split
  .simp
  .split<;>simp
theorem E6(x:Nat):Af.conv .u32 (x:Int)=((x % 4294967296:Nat):Int):=by
 show IntKind.u32.wrap (x:Int)=_
 rw[IntKind.wrap_u32];omega
theorem Bz{x:Nat}(h:x<4294967296):Af.conv .u32 (x:Int)=(x:Int):=by rw[E6,ApR h]
theorem BR{x:Nat}(h:x<18446744073709551616):Af.conv .u64 (x:Int)=(x:Int):=by
 show IntKind.u64.wrap (x:Int)=_
 rw[IntKind.wrap_u64];omega
theorem CY{x y:Nat}(h:x+y<18446744073709551616):Af.add .u64 (x:Int) (y:Int)=((x+y:Nat):Int):=by
 show IntKind.u64.wrap ((x:Int)+(y:Int))=_
 rw[IntKind.wrap_u64];omega
theorem GN{x y:Nat}(h:y<=x)(h2:x<18446744073709551616):Af.sub .u64 (x:Int) (y:Int)=((x-y:Nat):Int):=by
 show IntKind.u64.wrap ((x:Int)-(y:Int))=_
 rw[IntKind.wrap_u64];omega
theorem Rk{x y:Nat}(h:x*y<18446744073709551616):Af.mul .u64 (x:Int) (y:Int)=((x*y:Nat):Int):=by
 show IntKind.u64.wrap ((x:Int)*(y:Int))=_
 rw[IntKind.wrap_u64,←ArE];omega
theorem Kk(x:Nat):Af.shr .u64 (x:Int) 32=((x / 4294967296:Nat):Int):=by
 show Int.fdiv (x:Int) (2 ^ 32)=_
 have:(2 ^ 32:Int)=((4294967296:Nat):Int):=by decide
 rw[this,Int.fdiv_eq_ediv_of_nonneg _ (by omega)];rfl
theorem FD(x y:Nat):Af.add .u32 (x:Int) (y:Int)=(((x+y) % 4294967296:Nat):Int):=by
 show IntKind.u32.wrap ((x:Int)+(y:Int))=_
 rw[IntKind.wrap_u32];omega
theorem Cx(x y:Nat):Af.mul .u32 (x:Int) (y:Int)=(((x*y) % 4294967296:Nat):Int):=by
 show IntKind.u32.wrap ((x:Int)*(y:Int))=_
 rw[IntKind.wrap_u32,←ArE];omega
theorem AmG{i j:Nat}(h:j<=i)(h2:i<4611686018427387904):Af.sub .i64 (i:Int) (j:Int)=((i-j:Nat):Int):=by
 rw[Gb (by omega) (by omega)];omega
theorem AiF{i j:Nat}(h2:i+j<4611686018427387904):Af.add .i64 (i:Int) (j:Int)=((i+j:Nat):Int):=by
 rw[G7 (by omega) (by omega)];omega
theorem Fh(kd:IntKind)(n:Int)(r:List AV)(k:Int->List AV->KR):Nk kd (.v (.int kd n)::r) k=k n r:=by simp[Nk]
theorem RI(kd:IntKind)(n:Int)(k:Int->KR):Jb kd (.v (.int kd n)) k=k n:=by simp[Jb]
theorem Xz(n:Nat)(k:Int->List AV->KR)(r:List AV):Nk .u32 (.v (.int .u32 (n:Int))::r) k=k n r:=rfl
theorem W4(l:List Nat):Gp 1 (l.map eL)=true:=IM AT l
theorem AjU(l:List Nat):J9 (IP (l.map eL))=true:=by rw[EU];exact Kb (λ_=>rfl) l
theorem Ae3(l:List Nat):AW (IP (l.map eL))=true:=by
 rw[EU]
 induction l with
 |nil=>rfl
 |cons x r ih=>exact ih
theorem TK(l:List Nat)(n:Nat):I0 (I9 (l.map eL) n) 0=(l.take n).map eL:=by
 rw[KE,JT,π,ArP]
theorem Hi:∀(a b:List Nat) (c:Nat),(KP c a b).length=a.length+1
 |[],_,_=>rfl
 |x::a,b,c=>by rw[KP,Apw,Hi a,Apw]
theorem Nn{a b:Nat}(h:(AN a).length<(AN b).length):a<b:=by
 by_cases h2:a<b
 .exact h2
 .have h3:AA b=AA b:=rfl
  have h4:0<(AN b).length:=by omega
  have hb:4294967296 ^ ((AN b).length-1)<=b:=by
   by_cases h5:4294967296 ^ ((AN b).length-1)<=b
   .exact h5
   .have:=Bw (n:=b) (k:=(AN b).length-1) (by omega)
    omega
  have h6:=SR (n:=a) (k:=(AN b).length-1) (by omega);omega
def Cu(l:List Nat):Prop:=l.length<=1000000000
theorem GK{l:List Nat}(h:Limbs l)(h2:Cu l):Cu (AN (Ag l)):=by
 unfold Cu at *;rw[Hy l h];have:=DO l;omega
structure CloneF (D:Orc):Prop where
 nat:∀ l:List Nat,Cu l->D.ask (.fn 240) [eN l] []=some (.sl 0 0 l.length 1,[.set (Δ (Ap eL l) true true)])
theorem Xr{l:List Nat}(h:Cu l):Fk 1 (B8 1 4) [eN l] []=some (.sl 0 0 l.length 1,[.set (Δ (Ap eL l) true true)]):=by
 unfold Fk B8 eN;have h4:ApA (AQ (l.map eL)*4) 140737488355328=true:=by
  rw[Ao];unfold Cu at h;simp;omega
 simp only[W4,AjU,Ae3,h4,Bool.and_true,if_true,Option.map_some];rw[Ao,EU]
section
variable {D:Orc} (K:Knows Al KD D)
include K
theorem AfM(l:List Nat)(hl:Cu l):∀(n:Nat),n<=l.length->CV l<=n->D.ask (.lp 204 0) [eN l,iv (n:Int)] []=some (.tup [iv 0,eN l,iv (CV l:Int)],[]):=by
 intro n;have hl':=hl;unfold Cu at hl'
 induction n with
 |zero=>
  intro _ ht;refine K.lp' Sw _ rfl (by kernel_rfl) ((Z5 ..).trans ?_);refine Ah (by omega) ?_;rw[show CV l=0 by omega];rfl
 |succ n ih=>
  intro hn ht;refine K.lp' Sw _ rfl (by kernel_rfl) ((Z5 ..).trans ?_);refine Ai (by omega) ?_;rw[show Af.sub .i64 ((n+1:Nat):Int) 1=(n:Int) from (AmG (i:=n+1) (j:=1) (by omega) (by omega)).trans (by simp)];rw[Aw,Au (Φ (show n<l.length by omega))];simp only[eL,Xz,ND,DK,Aa]
  by_cases h0:l[n]=0
  .refine Av (by rw[h0];rfl) ?_
   refine Ab (ih (by omega) (Qj ht (by rw[Φ (show n<l.length by omega),h0]))) ?_;rfl
  .refine Am (by omega) ?_
   have:=RE (Φ (show n<l.length by omega)) h0;rw[show CV l=n+1 by omega];rfl
theorem EF{l:List Nat}(hl:Cu l)(h:Limbs l):D.ask (.fn 204) [eN l] []=some (eN (AN (Ag l)),[]):=by
 refine K.fn' Sw _ rfl ((AnP ..).trans ?_);rw[Ao];refine Ab (AfM K l hl _ (ω _) (DO l)) ?_;simp only[eN,ND,DK,Aa];rw[Aw,Ao,W4,TK,KF h];rw[show J1 0 (CV l) l.length=true by unfold J1;rw[show ApA 0 (CV l)=true by simp];simpa using DO l];rfl
variable (C:CloneF D)
include C
theorem Gr{l:List Nat}(hl:Cu l)(h:Limbs l):D.ask (.fn 200) [eN l] []=some (eN (AN (Ag l)),[]):=by
 refine K.fn' AgZ _ rfl ((AnN ..).trans ?_);refine Ab (EF K hl h) ?_;simp only[eN,ND,DK,Aa];have g:=C.nat _ (GK h hl);unfold eN at g;refine Ab g ?_;simp only[ND,DK,Aa];rw[AS AT _ (by omega)];refine Ac ?_;rw[Cf AT _ rfl]
theorem Af4(n:Nat)(h:n<18446744073709551616):D.ask (.fn 146) [.v (.int .u64 (n:Int))] []=some (eN (AN n),[]):=by
 refine K.fn' AgG _ rfl ((Anj ..).trans ?_);refine Ah (by decide) ?_;rw[E6,Kk,E6];have hl:Limbs [n % 4294967296,n / 4294967296 % 4294967296]:=BC (Aq1 _ (by omega)) (BC (Aq1 _ (by omega)) BM);have g:=Gr K C (l:=[n % 4294967296,n / 4294967296 % 4294967296]) (by unfold Cu;simp) hl;rw[show Ag [n % 4294967296,n / 4294967296 % 4294967296]=n by simp only[Ag];omega]at g;refine Ab g ?_;rfl
omit C in
theorem Aiz(a b:List Nat)(ha:Limbs a)(hb:Limbs b)(hab:a.length=b.length)(hs:Cu a):∀(n:Nat),n<=a.length->D.ask (.lp 205 0) [eN a,eN b,iv ((n:Int)-1)] []
  = some (if Do (Ag (a.take n)) (Ag (b.take n))=0 then .tup [iv 1] else .tup [bv true,iv (Do (Ag (a.take n)) (Ag (b.take n)))],[]):=by
 intro n;unfold Cu at hs
 induction n with
 |zero=>
  intro _;refine K.lp' Sx _ rfl (by kernel_rfl) ((Z6 ..).trans ?_);refine Cv (by omega) ?_;rfl
 |succ n ih=>
  intro hn;refine K.lp' Sx _ rfl (by kernel_rfl) ((Z6 ..).trans ?_);rw[show (((n+1:Nat):Int)-1)=(n:Int) by omega];refine Cn (by omega) ?_;have h1:n<a.length:=by omega
  have h2:n<b.length:=by omega
  have e1:a.take (n+1)=a.take n++[a[n]]:=by rw[Aqy h1]
  have e2:b.take (n+1)=b.take n++[b[n]]:=by rw[Aqy h2]
  rw[e1,e2,RZ (ha.take n) (hb.take n) (by simp;omega)];simp only[Aw,Au (Φ h1),Au (Φ h2),eL,Xz,ND,DK,Aa]
  by_cases h3:a[n]<b[n]
  .refine Ai (by omega) ?_
   rw[if_pos h3];rfl
  .refine Ah (by omega) ?_
   rw[if_neg h3]
   by_cases h4:b[n]<a[n]
   .refine Ai (by omega) ?_
    rw[if_pos h4];rfl
   .refine Ah (by omega) ?_
    rw[if_neg h4];rw[show Af.sub .i64 (n:Int) 1=(n:Int)-1 from Gb (by omega) (by omega)];refine Ab (ih (by omega)) ?_
    by_cases h5:Do (Ag (a.take n)) (Ag (b.take n))=0
    .rw[if_pos h5];rfl
    .rw[if_neg h5];rfl
omit C in
theorem T5{a b:List Nat}(hsa:Cu a)(ha:Limbs a)(hsb:Cu b)(hb:Limbs b):D.ask (.fn 205) [eN a,eN b] []=some (iv (Do (Ag a) (Ag b)),[]):=by
 have s1:=GK ha hsa;have s2:=GK hb hsb;unfold Cu at s1 s2;refine K.fn' Sx _ rfl ((AnQ ..).trans ?_);refine Ab (EF K hsa ha) ?_;simp only[eN,ND,DK,Aa];refine Ab (EF K hsb hb) ?_;simp only[eN,ND,DK,Aa,Ao];generalize Ag a=x at *;generalize Ag b=y at *
 by_cases h1:(AN x).length<(AN y).length
 .refine Ai (by omega) ?_
  have:=Nn h1;unfold Do;rw[if_pos this]
 .refine Ah (by omega) ?_
  by_cases h2:(AN y).length<(AN x).length
  .refine Ai (by omega) ?_
   have:=Nn h2;unfold Do;rw[if_neg (by omega),if_pos this]
  .refine Ah (by omega) ?_
   have hx:(AN x).length=(AN y).length:=by omega
   have g:=Aiz K (AN x) (AN y) (AA x) (AA y) hx s1 (AN x).length (ω _);rw[AqG,hx,AqG,AP,AP]at g;rw[show Af.sub .i64 ((AN x).length:Int) 1=((AN x).length:Int)-1 from Gb (by omega) (by omega),hx];refine Ab g ?_
   by_cases h5:Do x y=0
   .rw[if_pos h5,h5];rfl
   .rw[if_neg h5];rfl
omit C in
theorem Zd(b:List Nat)(hb:Limbs b)(a:List Nat)(ha:Limbs a)(hs:Cu a):∀(k i:Nat) (out:List Nat) (c:Nat),a.length-i=k->i<=a.length->b.length<=a.length->c<=1->out.length+k<=2000000000->
  ∃(o:List Nat) (c':Nat),D.ask (.lp 149 0) [eN b,.sl 0 0 out.length 1,.v (.int .u64 (c:Int)),eN a,iv (a.length:Int),iv (i:Int)] [Δ (Ap eL out) true true]
   = some (.tup [iv 0,.sl 1 0 o.length 1,.v (.int .u64 (c':Int))],[.del,.set (Δ (Ap eL o) true true)])/\c'<=1/\o++[c']=out++KP c (a.drop i) (b.drop i):=by
 intro k;unfold Cu at hs
 induction k with
 |zero=>
  intro i out c hi hle hba hc ho;refine⟨out,c,?_,hc,?_⟩
  .refine K.lp' Sp _ rfl (by kernel_rfl) ((ZU ..).trans ?_)
   refine Ah (by omega) ?_;rfl
  .rw[show a.drop i=[] from Apz (by omega)]
   rfl
 |succ k ih=>
  intro i out c hi hle hba hc ho;have hlt:i<a.length:=by omega
  have hx:=ha.get hlt;have hbd:=EY (hb.drop i);have hdt:(b.drop i).tail=b.drop (i+1):=by rw[Ari]
  rw[show a.drop i=a[i]::a.drop (i+1) from χ hlt];obtain⟨o,c',h1,h2,h3⟩:=ih (i+1) (out++[(a[i]+(b.drop i).headD 0+c) % 4294967296]) ((a[i]+(b.drop i).headD 0+c) / 4294967296) (by omega) (by omega) hba (by omega) (by simp;omega);refine⟨o,c',?_,h2,?_⟩
  .refine K.lp' Sp _ rfl (by kernel_rfl) ((ZU ..).trans ?_)
   refine Ai (by omega) ?_;rw[Aw,Au (Φ hlt)];have hf:Bf (out.length+1) 4=true:=AJ (by omega) (by omega);have hb1:ApA (0+out.length*1) (Ap eL out).length=true:=AS AT out (by omega);have e3:∀ s:Nat,Apx 0 (ο (0+out.length*1) (Ap eL out))++[.v (.int .u32 (s:Int))]=Ap eL (out++[s]):=λs=>by
    rw[π,A4 AT out (by omega)];exact A6 eL out s
   rw[υ,Aqb]at h1;simp only[eL,Xz,ND,DK,Aa,Ao];rw[A8 (by omega)]
   by_cases hib:i<b.length
   .have hd:(b.drop i).headD 0=b[i]:=by rw[χ hib];rfl
    rw[hd]at h1 hbd;refine Ai (by omega) ?_;rw[Aw,Au (Φ hib)];simp only[eL,Xz,ND,DK,Aa];rw[BR (by omega),BR (by omega),CY (by omega),CY (by omega),E6,Kk,hf,hb1,e3];rw[show a[i]+c+b[i]=a[i]+b[i]+c by omega];refine Ac ?_;refine Ac ?_;refine Ah (by decide) ?_;refine Ab h1 ?_;rfl
   .have hd:(b.drop i).headD 0=0:=by rw[Apz (by omega)];rfl
    rw[hd]at h1;refine Ah (by omega) ?_;rw[BR (by omega),CY (by omega),E6,Kk,hf,hb1,e3];rw[show a[i]+c=a[i]+0+c by omega];refine Ac ?_;refine Ac ?_;refine Ah (by decide) ?_;refine Ab h1 ?_;rfl
  .rw[h3,KP,hdt,ApZ]
   rfl
theorem Aiy{a b:List Nat}(hsa:a.length<=999999999)(ha:Limbs a)(hsb:b.length<=999999999)(hb:Limbs b):D.ask (.fn 149) [eN a,eN b] []=some (eN (AN (Ag a+Ag b)),[]):=by
 have s1:=GK ha (by unfold Cu;omega);have s2:=GK hb (by unfold Cu;omega);have t1:(AN (Ag a)).length<=999999999:=by rw[Hy a ha];have:=DO a;omega
 have t2:(AN (Ag b)).length<=999999999:=by rw[Hy b hb];have:=DO b;omega
 refine K.fn' Sp _ rfl ((Anm ..).trans ?_);refine Ab (EF K (by unfold Cu;omega) ha) ?_;simp only[eN,ND,DK,Aa];refine Ab (EF K (by unfold Cu;omega) hb) ?_;simp only[eN,ND,DK,Aa,Ao];generalize Ag a=x at *;generalize Ag b=y at *
 by_cases h1:(AN x).length<(AN y).length
 .refine Ai (by omega) ?_
  have hl:Limbs (KP 0 (AN y) (AN x)):=Jd _ _ _ (AA _) (AA _) (by omega);obtain⟨o,c',g,hc,ho⟩:=Zd K (AN x) (AA x) (AN y) (AA y) s2 (AN y).length 0 [] 0 (by omega) (by omega) (by omega) (by omega) (by unfold Cu at s2;simp;omega);rw[ApU,π,π]at ho;have hol:o.length=(AN y).length:=by
   have:=congrArg AsB ho;rw[υ,Hi]at this;simpa using this
  have hsx:=s2;unfold Cu at hsx;rw[show Af.add .i64 ((AN y).length:Int) 1=(((AN y).length+1:Nat):Int) from A8 (by omega),Aw];rw[AJ (n:=(AN y).length+1) (b:=4) (by omega) (by omega)];refine Ac ?_;refine Ab g ?_;simp only[Fh,ND,DK,Aa];rw[Bz (by omega)];have e3:Apx 0 (ο (0+o.length*1) (Ap eL o))++[.v (.int .u32 (c':Int))]=Ap eL (o++[c']):=by
   rw[π,A4 AT o (by omega)];exact A6 eL o c'
  rw[AJ (n:=o.length+1) (b:=4) (by omega) (by omega),AS AT o (by omega),e3,AS AT (o++[c']) (by simp)];refine Ac ?_;refine Ac ?_;refine Ac ?_;rw[π,A4 AT (o++[c']) (by simp),show Bp (o.length+1) 1 (Ap eL (o++[c']))=(o++[c']).map eL from by have:=CQ AT (o++[c']);rwa [υ]at this];rw[ho];have gt:=Gr K C (l:=KP 0 (AN y) (AN x)) (by unfold Cu;rw[Hi];omega) hl;rw[LL _ _ _ (by omega),AP,AP]at gt;refine Ab gt ?_;rw[show 0+y+x=x+y by omega];rfl
 .refine Ah (by omega) ?_
  have hl:Limbs (KP 0 (AN x) (AN y)):=Jd _ _ _ (AA _) (AA _) (by omega);obtain⟨o,c',g,hc,ho⟩:=Zd K (AN y) (AA y) (AN x) (AA x) s1 (AN x).length 0 [] 0 (by omega) (by omega) (by omega) (by omega) (by unfold Cu at s1;simp;omega);rw[ApU,π,π]at ho;have hol:o.length=(AN x).length:=by
   have:=congrArg AsB ho;rw[υ,Hi]at this;simpa using this
  have hsx:=s1;unfold Cu at hsx;rw[show Af.add .i64 ((AN x).length:Int) 1=(((AN x).length+1:Nat):Int) from A8 (by omega),Aw];rw[AJ (n:=(AN x).length+1) (b:=4) (by omega) (by omega)];refine Ac ?_;refine Ab g ?_;simp only[Fh,ND,DK,Aa];rw[Bz (by omega)];have e3:Apx 0 (ο (0+o.length*1) (Ap eL o))++[.v (.int .u32 (c':Int))]=Ap eL (o++[c']):=by
   rw[π,A4 AT o (by omega)];exact A6 eL o c'
  rw[AJ (n:=o.length+1) (b:=4) (by omega) (by omega),AS AT o (by omega),e3,AS AT (o++[c']) (by simp)];refine Ac ?_;refine Ac ?_;refine Ac ?_;rw[π,A4 AT (o++[c']) (by simp),show Bp (o.length+1) 1 (Ap eL (o++[c']))=(o++[c']).map eL from by have:=CQ AT (o++[c']);rwa [υ]at this];rw[ho];have gt:=Gr K C (l:=KP 0 (AN x) (AN y)) (by unfold Cu;rw[Hi];omega) hl;rw[LL _ _ _ (by omega),AP,AP]at gt;refine Ab gt ?_;rw[show 0+x+y=x+y by omega];rfl
omit C in
theorem AiD(b:List Nat)(hb:Limbs b)(a:List Nat)(ha:Limbs a)(hs:Cu a):∀(k i:Nat) (out:List Nat) (c:Nat),a.length-i=k->i<=a.length->c<=1->out.length+k<=2000000000->
  D.ask (.lp 150 0) [eN b,.sl 0 0 out.length 1,.v (.int .u64 (c:Int)),eN a,iv (a.length:Int),iv (i:Int)] [Δ (Ap eL out) true true]
   = some (.tup [iv 0,.sl 1 0 (out++GU c (a.drop i) (b.drop i)).length 1],[.del,.set (Δ (Ap eL (out++GU c (a.drop i) (b.drop i))) true true)]):=by
 intro k;unfold Cu at hs
 induction k with
 |zero=>
  intro i out c hi hle hc ho;refine K.lp' Sq _ rfl (by kernel_rfl) ((ZV ..).trans ?_);refine Ah (by omega) ?_;rw[show a.drop i=[] from Apz (by omega)];simp only[GU,List.append_nil]
  all_goals rfl
 |succ k ih=>
  intro i out c hi hle hc ho;have hlt:i<a.length:=by omega
  have hx:=ha.get hlt;have hbd:=EY (hb.drop i);have hdt:(b.drop i).tail=b.drop (i+1):=by rw[Ari]
  rw[show a.drop i=a[i]::a.drop (i+1) from χ hlt,GU,hdt];have h1:=ih (i+1) (out++[if a[i]<(b.drop i).headD 0+c then a[i]+4294967296-((b.drop i).headD 0+c) else a[i]-((b.drop i).headD 0+c)]) (if a[i]<(b.drop i).headD 0+c then 1 else 0) (by omega) (by omega) (by split<;>omega) (by simp;omega);rw[ApZ,υ,Aqb]at h1;refine K.lp' Sq _ rfl (by kernel_rfl) ((ZV ..).trans ?_);refine Ai (by omega) ?_;rw[Aw,Au (Φ hlt)];have hf:Bf (out.length+1) 4=true:=AJ (by omega) (by omega);have hb1:ApA (0+out.length*1) (Ap eL out).length=true:=AS AT out (by omega);have e3:∀ s:Nat,Apx 0 (ο (0+out.length*1) (Ap eL out))++[.v (.int .u32 (s:Int))]=Ap eL (out++[s]):=λs=>by
   rw[π,A4 AT out (by omega)];exact A6 eL out s
  simp only[eL,Xz,ND,DK,Aa,Ao];rw[A8 (by omega)]
  by_cases hib:i<b.length
  .have hd:(b.drop i).headD 0=b[i]:=by rw[χ hib];rfl
   rw[hd]at h1 hbd;rw[hd];refine Ai (by omega) ?_;rw[Aw,Au (Φ hib)];simp only[eL,Xz,ND,DK,Aa];rw[BR (show a[i]<_ by omega),BR (show b[i]<_ by omega),CY (by omega)]
   by_cases hlt2:a[i]<b[i]+c
   .refine Ai (by omega) ?_
    rw[if_pos hlt2,if_pos hlt2]at h1;rw[if_pos hlt2,if_pos hlt2];rw[show (4294967296:Int)=((4294967296:Nat):Int) from rfl,CY (by omega),show c+b[i]=b[i]+c by omega,GN (by omega) (by omega),Bz (by omega),hf,hb1,e3];refine Ac ?_;refine Ac ?_;refine Ab h1 ?_;rfl
   .refine Ah (by omega) ?_
    rw[if_neg hlt2,if_neg hlt2]at h1;rw[if_neg hlt2,if_neg hlt2];rw[show c+b[i]=b[i]+c by omega,GN (by omega) (by omega),Bz (by omega),hf,hb1,e3];refine Ac ?_;refine Ac ?_;refine Ab h1 ?_;rfl
  .have hd:(b.drop i).headD 0=0:=by rw[Apz (by omega)];rfl
   rw[hd]at h1;rw[hd];refine Ah (by omega) ?_;rw[BR (show a[i]<_ by omega)];rw[ApN]at h1;simp only[show (0:Nat)+c=c by omega]
   by_cases hlt2:a[i]<c
   .refine Ai (by omega) ?_
    rw[if_pos hlt2,if_pos hlt2]at h1;rw[if_pos hlt2,if_pos hlt2];rw[show (4294967296:Int)=((4294967296:Nat):Int) from rfl,CY (by omega),GN (by omega) (by omega),Bz (by omega),hf,hb1,e3];refine Ac ?_;refine Ac ?_;refine Ab h1 ?_;rfl
   .refine Ah (by omega) ?_
    rw[if_neg hlt2,if_neg hlt2]at h1;rw[if_neg hlt2,if_neg hlt2];rw[GN (by omega) (by omega),Bz (by omega),hf,hb1,e3];refine Ac ?_;refine Ac ?_;refine Ab h1 ?_;rfl
def Ns(x y:Nat):AV:=if y<=x then .tup [eN (AN (x-y)),bv true] else .tup [eN [],bv false]
theorem Zh{a b:List Nat}(hsa:Cu a)(ha:Limbs a)(hsb:Cu b)(hb:Limbs b):D.ask (.fn 150) [eN a,eN b] []=some (Ns (Ag a) (Ag b),[]):=by
 have s1:=GK ha hsa;have s2:=GK hb hsb;refine K.fn' Sq _ rfl ((Ann ..).trans ?_);refine Ab (EF K hsa ha) ?_;simp only[eN,ND,DK,Aa];refine Ab (EF K hsb hb) ?_;simp only[eN,ND,DK,Aa,Ao];have gc:=T5 K s1 (AA _) s2 (AA _);rw[AP,AP]at gc;refine Ab gc ?_;simp only[ND,DK,Aa];generalize Ag a=x at *;generalize Ag b=y at *;unfold Ns;unfold Cu at s1 s2
 by_cases h1:x<y
 .rw[show Do x y=-1 by unfold Do;rw[if_pos h1]]
  refine Ai (by decide) ?_;rw[if_neg (by omega)];rfl
 .refine Ah (by unfold Do;rw[if_neg h1];split<;>omega) ?_
  rw[if_pos (by omega)];have hle:(AN y).length<=(AN x).length:=by
   by_cases h:(AN x).length<(AN y).length
   .have:=Nn h;omega
   .omega
  rw[AJ (n:=(AN x).length) (b:=4) (by omega) (by omega)];refine Ac ?_;have g:=AiD K (AN y) (AA y) (AN x) (AA x) s1 (AN x).length 0 [] 0 (by omega) (by omega) (by omega) (by simp;omega);refine Ab g ?_;simp only[ND,DK,Aa,π,ApU];rw[AS AT _ (by omega)];refine Ac ?_;rw[Cf AT _ rfl];have gt:=Gr K C (l:=GU 0 (AN x) (AN y)) (by unfold Cu;rw[KC];exact s1) (GV _ _ _ (AA _) (AA _) (by omega));rw[TR (AA _) (AA _) hle (by rw[AP,AP];omega),AP,AP]at gt;refine Ab gt ?_;rfl
end
def eC(n:Nat):AV:=.v (.int .u32 (n:Int))
theorem GQ:∀ l:List Nat,Ap eL l=l.map eC
 |[]=>rfl
 |x::r=>by
  have ih:=GQ r;unfold Ap at ih ⊢;rw[List.flatMap_cons,ih];rfl
theorem P9(l:List Nat)(i v:Nat)(h:i<l.length):AZ (Ap eL l) (0+i*1) [.v (.int .u32 (v:Int))]=Ap eL (l.set i v):=by
 rw[GQ,GQ,Aq7,if_pos h];unfold AZ;simp only[ApN,Asd,List.map_append,ApS,ArP,List.map_drop,Aqb];rw[ApZ];rfl
theorem AbX(l:List Nat)(i:Nat)(h:i<l.length)(k:List AV->KR):IE (Ap eL l) (0+i*1) 1 k=k [.v (.int .u32 (l[i]:Int))]:=by
 have hx:(Ap eL l)[i]? = some (.v (.int .u32 (l[i]:Int))):=by
  rw[GQ,List.getElem?_map,Φ h];rfl
 obtain⟨hl,hx⟩:=List.getElem?_eq_some_iff.1 hx;unfold IE;have:ApA (0+i*1+1) (Ap eL l).length=true:=by simp;omega
 rw[this];simp only[ApN,Asd];rw[χ hl,hx];rfl
theorem Ac0(n:Nat):Cj [.v (.int .u32 0)] (n*1)=Ap eL (Aru n 0):=by
 rw[GQ,Asd];unfold Cj;rw[List.map_replicate];refine List.ext_getElem (by simp) λi h1 h2=>?_
 simp[AsZ,eC]
theorem PT:∀(x:Nat) (b o:List Nat) (c:Nat),(N0 x c b o).drop (b.length+1)=o.drop (b.length+1)
 |x,[],o,c=>by
  rw[N0]
  cases o<;>simp
 |x,y::b,o,c=>by
  rw[N0,Apw,List.drop_succ_cons,PT x b o.tail]
  cases o with
  |nil=>simp
  |cons z o=>rfl
def Hh(j:Nat)(l:List Nat):Prop:=∀ y∈l.drop j,y=0
theorem Y6{j:Nat}{l:List Nat}(h:Hh j l):(l.drop j).headD 0=0:=by
 unfold Hh at h
 cases e:l.drop j with
 |nil=>rfl
 |cons z r=>
  rw[e]at h;exact h z (ApK ..)
theorem Bv{a b:Nat}(h:a<b):Nat.blt a b=true:=by simpa using h
section
variable {D:Orc} (K:Knows Al KD D)
include K
theorem Yy(a b:List Nat)(hb:Limbs b)(i:Nat)(hi:i<a.length)(hsz:a.length+b.length<=1000000000)(x:Nat)(hx:x<4294967296):∀(m k:Nat) (out:List Nat) (c:Nat),b.length-k=m->k<=b.length->Limbs out->c<4294967296->out.length=a.length+b.length->
  ∃(o:List Nat) (c':Nat),D.ask (.lp 282 1) [eN b,.sl 0 0 out.length 1,iv (i:Int),.v (.int .u32 (x:Int)),.v (.int .u64 (c:Int)),eN a,iv (a.length:Int),iv (i:Int),eN b,iv (b.length:Int),iv (k:Int)] [Δ (Ap eL out) true true]
   = some (.tup [iv 2,eN b,.sl 1 0 out.length 1,iv (i:Int),.v (.int .u64 (c':Int)),eN a,iv (a.length:Int),iv (i:Int)],[.del,.set (Δ (Ap eL o) true true)])
   ∧ c'<4294967296/\Limbs o/\o.length=out.length/\o.set (i+b.length) c'=out.take (i+k)++N0 x c (b.drop k) (out.drop (i+k)):=by
 intro m
 induction m with
 |zero=>
  intro k out c hm hk ho hc hlen;obtain rfl:k=b.length:=by omega
  refine⟨out,c,?_,hc,ho,rfl,?_⟩
  .refine K.lp' LZ _ rfl (by kernel_rfl) ((Aal ..).trans ?_)
   refine Ah (by omega) ?_;rfl
  .rw[List.drop_length,N0,Aq7,if_pos (by omega),Ari]
 |succ m ih=>
  intro k out c hm hk ho hc hlen;have hlt:k<b.length:=by omega
  have hik:i+k<out.length:=by omega
  have hy:=hb.get hlt;have hz:=ho.get hik;have hp:=N2 hx hy;have hd:(out.drop (i+k)).headD 0=out[i+k]:=by rw[χ hik];rfl
  obtain⟨o,c',h1,h2,h3,h4,h5⟩:=ih (k+1) (out.set (i+k) ((x*b[k]+out[i+k]+c) % 4294967296)) ((x*b[k]+out[i+k]+c) / 4294967296) (by omega) (by omega)
   (λz hz'=>by
    rcases List.mem_or_eq_of_mem_set hz' with h|h
    .exact ho z h
    .rw[h];exact Aq1 _ (by omega)) (by omega) (by rw[Ap0];exact hlen)
  rw[Ap0]at h1 h4;refine⟨o,c',?_,h2,h3,h4,?_⟩
  .refine K.lp' LZ _ rfl (by kernel_rfl) ((Aal ..).trans ?_)
   refine Ai (by omega) ?_;rw[Aw,Au (Φ hlt)];simp only[eL,Fh,ND,DK,Aa];rw[AiF (by omega),Aw,Bv hik];refine Ac ?_;refine(AbX out _ hik _).trans ?_;simp only[Fh,ND,DK,Aa];rw[Aw,Bv hik];refine Ac ?_;rw[show ApA (0+(i+k)*1+1) (Ap eL out).length=true by rw[Bq AT];simp;omega];refine Ac ?_;refine Ah (by decide) ?_;rw[BR (show x<_ by omega),BR (show b[k]<_ by omega),BR (show out[i+k]<_ by omega),Rk (by omega),CY (by omega),CY (by omega),E6,Kk,P9 _ _ _ hik,A8 (by omega)];refine Ab h1 ?_;rfl
  .rw[h5,χ hlt,N0,hd]
   have e1:ο (i+(k+1)) (out.set (i+k) ((x*b[k]+out[i+k]+c) % 4294967296))=out.take (i+k)++[(x*b[k]+out[i+k]+c) % 4294967296]:=by
    rw[show i+(k+1)=i+k+1 by omega,Aqy (by rw[Ap0];exact hik),List.getElem_set_self,List.take_set_of_le (ω _)]
   have e2:Apx (i+(k+1)) (out.set (i+k) ((x*b[k]+out[i+k]+c) % 4294967296))=(out.drop (i+k)).tail:=by
    rw[List.drop_set_of_lt (by omega),Ari];rfl
   rw[e1,e2,ApZ];rfl
theorem Yz(a b:List Nat)(ha:Limbs a)(hb:Limbs b)(hsz:a.length+b.length<=1000000000):∀(m i:Nat) (out:List Nat),a.length-i=m->i<=a.length->Limbs out->out.length=a.length+b.length->Hh (i+b.length) out->
  ∃ o:List Nat,D.ask (.lp 282 0) [eN b,.sl 0 0 out.length 1,eN a,iv (a.length:Int),iv (i:Int)] [Δ (Ap eL out) true true]=some (.tup [iv 0,.sl 1 0 o.length 1],[.del,.set (Δ (Ap eL o) true true)])
   ∧ Limbs o/\o.length=out.length/\Ag o=Ag out+4294967296 ^ i*Ag (a.drop i)*Ag b:=by
 intro m
 induction m with
 |zero=>
  intro i out hm hi ho hlen hz;refine⟨out,?_,ho,rfl,?_⟩
  .refine K.lp' LZ _ rfl (by kernel_rfl) ((Aak ..).trans ?_)
   refine Ah (by omega) ?_;rfl
  .rw[show a.drop i=[] from Apz (by omega)]
   simp[Ag]
 |succ m ih=>
  intro i out hm hi ho hlen hz;have hlt:i<a.length:=by omega
  have hx:=ha.get hlt;obtain⟨o,c',g1,g2,g3,g4,g5⟩:=Yy K a b hb i hlt hsz a[i] hx b.length 0 out 0 (by omega) (by omega) ho (by omega) hlen;rw[Aqh,π]at g5;have hdl:(out.drop i).length=a.length+b.length-i:=by rw[List.length_drop];omega
  have hlm:Limbs (o.set (i+b.length) c'):=by
   rw[g5];exact PK (ho.take i) (N1 _ _ _ _ hx hb (ho.drop i) (by omega))
  have hhead:((out.drop i).drop b.length).headD 0=0:=by
   rw[Ars];exact Y6 hz
  have hv:Ag (o.set (i+b.length) c')=Ag out+4294967296 ^ i*(a[i]*Ag b):=by
   rw[g5,Ff,Qo _ _ _ _ hhead];have e:Ag out=Ag (out.take i)+4294967296 ^ i*Ag (out.drop i):=by
    have:=Ff (out.take i) (out.drop i);rw[List.take_append_drop,ApQ,AqE (by omega)]at this;exact this
   rw[e,ApQ,AqE (by omega),Aqh,Ary];omega
  have hz2:Hh (i+1+b.length) (o.set (i+b.length) c'):=by
   unfold Hh;rw[g5,ArW,Apz (by rw[ApQ];omega),ApU,ApQ,AqE (by omega),show i+1+b.length-i=b.length+1 by omega,PT,Ars];intro y hy;exact hz y (by
    have:Apx (i+(b.length+1)) out=Apx 1 (Apx (i+b.length) out):=by rw[Ars];rfl
    rw[this]at hy;exact Aqu hy)
  obtain⟨o2,k1,k2,k3,k4⟩:=ih (i+1) (o.set (i+b.length) c') (by omega) (by omega) hlm (by rw[Ap0,g4,hlen]) hz2;rw[Ap0,g4]at k1 k3;refine⟨o2,?_,k2,k3,?_⟩
  .refine K.lp' LZ _ rfl (by kernel_rfl) ((Aak ..).trans ?_)
   refine Ai (by omega) ?_;rw[Aw,Au (Φ hlt)];simp only[eL,Fh,Ao,ND,DK,Aa];refine Ab g1 ?_;simp only[eN,Fh,Ao,ND,DK,Aa];rw[AiF (by omega),Aw,Bv (by omega)];refine Ac ?_;rw[show ApA (0+(i+b.length)*1+1) (Ap eL o).length=true by rw[Bq AT];simp;omega];refine Ac ?_;rw[Bz g2,P9 _ _ _ (by omega),A8 (by omega)];refine Ab k1 ?_;rfl
  .rw[k4,hv,χ hlt,Ag,AqI]
   have e1:4294967296 ^ i*(a[i]+4294967296*Ag (Apx (i+1) a))*Ag b=4294967296 ^ i*(a[i]*Ag b)+4294967296 ^ i*4294967296*Ag (Apx (i+1) a)*Ag b:=by
    rw[Ary,Aqf,AqP _ a[i],AqP (4294967296 ^ i) 4294967296]
   rw[e1];omega
variable (C:CloneF D)
include C
theorem YA{a b:List Nat}(ha:Limbs a)(hb:Limbs b)(hsz:a.length+b.length<=1000000000):D.ask (.fn 282) [eN a,eN b] []=some (eN (AN (Ag a*Ag b)),[]):=by
 obtain⟨o,k1,k2,k3,k4⟩:=Yz K a b ha hb hsz a.length 0 (Aru (a.length+b.length) 0) (by omega) (by omega) (λx hx=>by rw[(Ast.1 hx).2];omega) (by simp) (λy hy=>(Ast.1 (Aqu hy)).2);rw[List.length_replicate]at k1 k3;have hz:∀ n,Ag (Aru n 0)=0:=λn=>by
  induction n with
  |zero=>rfl
  |succ n ih=>rw[List.replicate_succ,Ag,ih]
 rw[hz,π,Nat.pow_zero,Nat.one_mul,ApN]at k4;refine K.fn' LZ _ rfl ((Aol ..).trans ?_);rw[Ao,Ao,AiF (by omega)];simp only[Aw];rw[show ApA (a.length+b.length) (a.length+b.length)=true by simp,AJ (n:=a.length+b.length) (b:=4) (by omega) (by omega),Ac0];refine Ac ?_;refine Ac ?_;refine Ab k1 ?_;simp only[ND,DK,Aa];rw[AS AT _ (by omega)];refine Ac ?_;rw[Cf AT _ rfl];have gt:=Gr K C (l:=o) (by unfold Cu;omega) k2;rw[k4]at gt;refine Ab gt ?_;rfl
theorem AiC{a b:List Nat}(hsa:a.length<=400000000)(ha:Limbs a)(hsb:b.length<=400000000)(hb:Limbs b)(h24:a.length<24\/b.length<24):D.ask (.fn 275) [eN a,eN b] []=some (eN (AN (Ag a*Ag b)),[]):=by
 have t1:(AN (Ag a)).length<=a.length:=by rw[Hy a ha];exact DO a
 have t2:(AN (Ag b)).length<=b.length:=by rw[Hy b hb];exact DO b
 refine K.fn' Ahf _ rfl ((Aoh ..).trans ?_);refine Ab (EF K (by unfold Cu;omega) ha) ?_;simp only[eN,ND,DK,Aa];refine Ab (EF K (by unfold Cu;omega) hb) ?_;simp only[eN,ND,DK,Aa,Ao];have g:=YA K C (AA (Ag a)) (AA (Ag b)) (by omega);rw[AP,AP]at g
 by_cases h1:(AN (Ag a)).length<24
 .refine Ai (by omega) ?_
  refine Ab g ?_;rfl
 .refine Ah (by omega) ?_
  refine Ai (by omega) ?_;refine Ab g ?_;rfl
end
section
variable {D:Orc} (K:Knows Al KD D) (Z:Knows Al Qh D) (C:CloneF D)
include K Z C
theorem Fp(neg:Bool){a:List Nat}(ha:Limbs a)(hs:Cu a):D.ask (.fn 145) [bv neg,eN a] []=some (.agg (eZ (AF (DU neg (Ag a)))),[]):=by
 refine Z.fn' AgF _ rfl ((Ani ..).trans ?_);refine Ab (Gr K C hs ha) ?_;simp only[eN,ND,DK,Aa,Ao];rw[W6];unfold eZ eN
 cases neg with
 |false=>rfl
 |true=>
  refine Ac ?_;refine Ac ?_;refine Ac ?_;have hp:=@EB (Ag a)
  by_cases h:0<Ag a
  .refine Ai (by have:=hp.2 h;omega) ?_
   rw[decide_eq_true h];rfl
  .refine Ah (by intro e;exact h (hp.1 (by omega))) ?_
   rw[decide_eq_false h];rfl
theorem ZC{z:Zi}(hz:Lz 1000000000 z):D.ask (.fn 209) [.agg (eZ z)] []=some (.agg (eZ (AF (zv z))),[]):=by
 refine Z.fn' Ag2 _ rfl ((AnU ..).trans ?_);refine Ab (Fp K Z C z.neg hz.lim hz.len) ?_;rfl
theorem Af1{z:Zi}(hz:Lz 1000000000 z):D.ask (.fn 86) [.agg (eZ z)] []=some (.agg (eZ (AF (-zv z))),[]):=by
 have e:-zv z=DU (!z.neg) (Ag z.abs):=by
  unfold zv DU
  cases z.neg<;>simp
 rw[e];refine Z.fn' Ale _ rfl ((e86 ..).trans ?_);rw[AbU];have g:=λb=>Fp K Z C b hz.lim hz.len
 cases z.neg with
 |false=>
  refine Ac ?_;refine Ab (g true) ?_;rfl
 |true=>
  refine A1 ?_;refine Ab (g false) ?_;rfl
theorem OO{z:Zi}(hz:Lz 1000000000 z):D.ask (.fn 158) [.agg (eZ z)] []=some (iv (Cw (zv z)),[]):=by
 refine Z.fn' AgN _ rfl ((Ant ..).trans ?_);refine Ab (ZC K Z C hz) ?_;simp only[eZ,eN,ND,DK,Aa,Ao];unfold AF Cw
 by_cases h:zv z<0
 .rw[if_pos h,decide_eq_true h]
  rfl
 .rw[if_neg h,decide_eq_false h]
  refine A1 ?_;have hp:=@EB (zv z).natAbs
  by_cases h2:0<zv z
  .rw[if_pos h2]
   refine Ai (by have:=hp.2 (by omega);dsimp only;omega) ?_;rfl
  .rw[if_neg h2]
   refine Ah (by dsimp only;intro e;have:=hp.1 (by omega);omega) ?_;rfl
theorem Akj(n:Int)(h1:-9223372036854775808<=n)(h2:n<9223372036854775808):D.ask (.fn 84) [iv n] []=some (.agg (eZ (AF n)),[]):=by
 refine Z.fn' Alc _ rfl ((e84 ..).trans ?_);have hl:∀ m:Nat,m<18446744073709551616->(AN m).length<=2:=λm h=>Bw (by omega)
 by_cases h:n<0
 .refine Ai h ?_
  have e1:Af.add .i64 n 1=n+1:=G7 (by omega) (by omega);have e2:Af.sub .i64 0 (n+1)=((n.natAbs-1:Nat):Int):=by rw[Gb (by omega) (by omega)];omega
  rw[e1,e2,BR (by omega),show (1:Int)=((1:Nat):Int) from rfl,CY (by omega),show n.natAbs-1+1=n.natAbs by omega];refine Ab (Af4 K C n.natAbs (by omega)) ?_;simp only[eN,ND,DK,Aa];have g:=Fp K Z C true (AA n.natAbs) (by unfold Cu;have:=hl n.natAbs (by omega);omega);rw[AP,show DU true n.natAbs=n by unfold DU;rw[if_pos rfl];omega]at g;refine Ab g ?_;rfl
 .refine Ah h ?_
  obtain⟨m,rfl⟩:=Int.eq_ofNat_of_zero_le (show 0<=n by omega);rw[BR (by omega)];refine Ab (Af4 K C m (by omega)) ?_;simp only[eN,ND,DK,Aa];have g:=Fp K Z C false (AA m) (by unfold Cu;have:=hl m (by omega);omega);rw[AP,show DU false m=(m:Int) from rfl]at g;refine Ab g ?_;rfl
theorem AfZ{a b:Zi}(ha:Lz 1000000000 a)(hb:Lz 1000000000 b):D.ask (.fn 285) [.agg (eZ a),.agg (eZ b)] []=some (iv (FJ (zv a) (zv b)),[]):=by
 refine Z.fn' Ahj _ rfl ((Aon ..).trans ?_);refine Ab (OO K Z C ha) ?_;simp only[ND,DK,Aa];refine Ab (OO K Z C hb) ?_;simp only[ND,DK,Aa];have g1:=T5 K (a:=b.abs) (b:=a.abs) hb.len hb.lim ha.len ha.lim;have g2:=T5 K (a:=a.abs) (b:=b.abs) ha.len ha.lim hb.len hb.lim;have na:=Ac1 a;have nb:=Ac1 b;have za:=W7 a;have zb:=W7 b;have va:zv a=DU a.neg (Ag a.abs):=rfl;have vb:zv b=DU b.neg (Ag b.abs):=rfl;unfold Cw
 by_cases h1:zv a<0
 .rw[if_pos h1]
  rw[DU,if_pos (na.1 h1).1]at va
  by_cases h2:zv b<0
  .rw[if_pos h2]
   rw[DU,if_pos (nb.1 h2).1]at vb;refine Ah (by decide) ?_;refine Ah (by decide) ?_;refine Ai (by decide) ?_;refine Ab g1 ?_;rw[show FJ (zv a) (zv b)=Do (Ag b.abs) (Ag a.abs) by
    unfold FJ Do;rw[va,vb]
    by_cases h3:Ag b.abs<Ag a.abs
    .rw[if_pos (by omega),if_pos h3]
    .rw[if_neg (by omega),if_neg h3]
     by_cases h4:Ag a.abs<Ag b.abs
     .rw[if_pos (by omega),if_pos h4]
     .rw[if_neg (by omega),if_neg h4]]
   rfl
  .rw[if_neg h2]
   rw[show FJ (zv a) (zv b)=-1 by unfold FJ;rw[if_pos (by omega)]]
   by_cases h3:0<zv b
   .rw[if_pos h3];rfl
   .rw[if_neg h3];rfl
 .rw[if_neg h1]
  by_cases h2:zv b<0
  .rw[if_pos h2]
   rw[show FJ (zv a) (zv b)=1 by unfold FJ;rw[if_neg (by omega),if_pos (by omega)]]
   by_cases h3:0<zv a
   .rw[if_pos h3];rfl
   .rw[if_neg h3];rfl
  .rw[if_neg h2]
   have ea:zv a=(Ag a.abs:Int):=by
    by_cases h:0<Ag a.abs
    .rw[va,DU,if_neg (λe=>h1 (na.2 ⟨e,h⟩))]
    .rw[za.2 (by omega)];omega
   have eb:zv b=(Ag b.abs:Int):=by
    by_cases h:0<Ag b.abs
    .rw[vb,DU,if_neg (λe=>h2 (nb.2 ⟨e,h⟩))]
    .rw[zb.2 (by omega)];omega
   have ec:FJ (zv a) (zv b)=Do (Ag a.abs) (Ag b.abs):=by
    unfold FJ Do;rw[ea,eb]
    by_cases h3:Ag a.abs<Ag b.abs
    .rw[if_pos (by omega),if_pos h3]
    .rw[if_neg (by omega),if_neg h3]
     by_cases h4:Ag b.abs<Ag a.abs
     .rw[if_pos (by omega),if_pos h4]
     .rw[if_neg (by omega),if_neg h4]
   rw[ec]
   by_cases h3:0<zv a
   .rw[if_pos h3]
    by_cases h4:0<zv b
    .rw[if_pos h4]
     refine Ah (by decide) ?_;refine Ah (by decide) ?_;refine Ah (by decide) ?_;refine Ab g2 ?_;rfl
    .rw[if_neg h4]
     refine Ah (by decide) ?_;refine Ai (by decide) ?_;rw[show Do (Ag a.abs) (Ag b.abs)=1 by unfold Do;rw[if_neg (by omega),if_pos (by omega)]]
   .rw[if_neg h3]
    by_cases h4:0<zv b
    .rw[if_pos h4]
     refine Ai (by decide) ?_;rw[show Do (Ag a.abs) (Ag b.abs)=-1 by unfold Do;rw[if_pos (by omega)]]
    .rw[if_neg h4]
     refine Ah (by decide) ?_;refine Ah (by decide) ?_;refine Ah (by decide) ?_;refine Ab g2 ?_;rfl
theorem AfY{k:Nat}(hk:k<=900000000){a b:Zi}(ha:Lz k a)(hb:Lz k b):D.ask (.fn 87) [.agg (eZ a),.agg (eZ b)] []=some (.agg (eZ (AF (zv a+zv b))),[]):=by
 have la:=ha.len;have lb:=hb.len;refine Z.fn' Alf _ rfl ((e87 ..).trans ?_);have hfr:∀(neg:Bool) (n:Nat),n<4294967296 ^ (k+1)->D.ask (.fn 145) [bv neg,eN (AN n)] []=some (.agg (eZ (AF (DU neg n))),[]):=λneg n h=>by
  have:=Fp K Z C neg (AA n) (by unfold Cu;have:=Bw h;omega)
  rwa [AP]at this
 have ba:=CL ha.lim;have bb:=CL hb.lim;have pa:4294967296 ^ a.abs.length<=4294967296 ^ k:=AqT (by omega) la;have pb:4294967296 ^ b.abs.length<=4294967296 ^ k:=AqT (by omega) lb;have ps:4294967296 ^ (k+1)=4294967296 ^ k*4294967296:=AqI ..
 by_cases h:a.neg=b.neg
 .rw[WI,show (a.neg == b.neg)=true by simpa using h]
  refine Ac ?_;refine Ab (Aiy K C (by omega) ha.lim (by omega) hb.lim) ?_;simp only[eN,ND,DK,Aa];refine Ab (hfr a.neg (Ag a.abs+Ag b.abs) (by omega)) ?_;rw[show DU a.neg (Ag a.abs+Ag b.abs)=zv a+zv b by
   unfold zv;rw[←h];unfold DU;split<;>omega]
  rfl
 .rw[WI,show (a.neg == b.neg)=false by simpa using h]
  refine A1 ?_;have hop:zv a+zv b=DU a.neg (Ag a.abs)+DU (!a.neg) (Ag b.abs):=by
   unfold zv;have:b.neg = !a.neg:=by
    revert h
    cases a.neg<;>cases b.neg<;>simp
   rw[this]
  have g1:=Zh K C (a:=a.abs) (b:=b.abs) (by unfold Cu;omega) ha.lim (by unfold Cu;omega) hb.lim;have g2:=Zh K C (a:=b.abs) (b:=a.abs) (by unfold Cu;omega) hb.lim (by unfold Cu;omega) ha.lim;unfold Ns at g1 g2;refine Ab g1 ?_
  by_cases hle:Ag b.abs<=Ag a.abs
  .rw[if_pos hle]
   simp only[eN,ND,DK,Aa];refine Ab (hfr a.neg (Ag a.abs-Ag b.abs) (by omega)) ?_;rw[show DU a.neg (Ag a.abs-Ag b.abs)=zv a+zv b by
    rw[hop];unfold DU
    cases a.neg<;>simp<;>omega]
   rfl
  .rw[if_neg hle]
   rw[if_pos (by omega)]at g2;simp only[eN,ND,DK,Aa];refine Ab g2 ?_;simp only[eN,ND,DK,Aa];refine Ab (hfr b.neg (Ag b.abs-Ag a.abs) (by omega)) ?_;rw[show DU b.neg (Ag b.abs-Ag a.abs)=zv a+zv b by
    rw[hop];have:b.neg = !a.neg:=by
     revert h
     cases a.neg<;>cases b.neg<;>simp
    rw[this];unfold DU
    cases a.neg<;>simp<;>omega]
   rfl
theorem Af0{k m:Nat}(hk:k<=400000000)(hkm:m<=400000000){a b:Zi}(ha:Lz k a)(hb:Lz m b)(h24:a.abs.length<24\/b.abs.length<24):D.ask (.fn 264) [.agg (eZ a),.agg (eZ b)] []=some (.agg (eZ (AF (zv a*zv b))),[]):=by
 have la:=ha.len;have lb:=hb.len;refine Z.fn' Ahd _ rfl ((Aoe ..).trans ?_);have hm:InB (k+m) (zv a*zv b):=ha.inb.mul hb.inb;have hab:(zv a*zv b).natAbs=Ag a.abs*Ag b.abs:=by
  have f:∀ z:Zi,(zv z).natAbs=Ag z.abs:=λz=>by
   unfold zv DU;split
   .rw[Aq9];rfl
   .rfl
  rw[AsK,f,f]
 unfold InB at hm;rw[hab]at hm;have hl:=Bw hm;have hfr:∀(neg:Bool),D.ask (.fn 145) [bv neg,eN (AN (Ag a.abs*Ag b.abs))] []=some (.agg (eZ (AF (DU neg (Ag a.abs*Ag b.abs)))),[]):=λneg=>by
  have:=Fp K Z C neg (AA (Ag a.abs*Ag b.abs)) (by unfold Cu;omega)
  rwa [AP]at this
 have g:=AiC K C (by omega) ha.lim (by omega) hb.lim h24;have hs:DU (a.neg != b.neg) (Ag a.abs*Ag b.abs)=zv a*zv b:=by
  unfold zv DU
  cases a.neg<;>cases b.neg<;>simp[Int.mul_neg,Int.neg_mul]
 rw[AbU,WI]
 by_cases h:a.neg=b.neg
 .rw[show (!(a.neg == b.neg))=false by simp[h]]
  rw[show (a.neg != b.neg)=false by simp[h]]at hs;refine A1 ?_;refine Ab g ?_;simp only[eN,ND,DK,Aa];refine Ab (hfr false) ?_;rw[hs];rfl
 .rw[show (!(a.neg == b.neg))=true by simp[h]]
  rw[show (a.neg != b.neg)=true by simp[h]]at hs;refine Ac ?_;refine Ab g ?_;simp only[eN,ND,DK,Aa];refine Ab (hfr true) ?_;rw[hs];rfl
end
def GH(c:UInt8):Bool:=decide (48<=c.toNat)&&decide (c.toNat<=57)
theorem ZO{c:UInt8}(h:GH c=true):c.toNat-48<=9:=by
 have h2:=(Ark.1 h);have h4:=of_decide_eq_true h2.2;omega
theorem AkC{c:UInt8}(h:GH c=true):48<=c.toNat/\c.toNat<=57:=by
 have h2:=(Ark.1 h);exact⟨of_decide_eq_true h2.1,of_decide_eq_true h2.2⟩
theorem AkD{c:UInt8}(h:GH c=false):c.toNat<48\/¬ c.toNat<48/\57<c.toNat:=by
 by_cases h1:c.toNat<48
 .exact .inl h1
 .refine .inr ⟨h1,?_⟩
  by_cases h2:57<c.toNat
  .exact h2
  .unfold GH at h
   rw[decide_eq_true (by omega),decide_eq_true (by omega)]at h
   cases h
theorem Ait{c:UInt8}(h:48<=c.toNat/\c.toNat<=57):Af.sub .u8 (c.toNat:Int) 48=((c.toNat-48:Nat):Int):=by
 show IntKind.u8.wrap ((c.toNat:Int)-48)=_
 rw[IntKind.wrap_u8];omega
def hor(v:Nat)(l:List UInt8):Nat:=l.foldl (λv c=>v*10+(c.toNat-48)) v
theorem NN(v:Nat)(c:UInt8)(l:List UInt8):hor v (c::l)=hor (v*10+(c.toNat-48)) l:=by
 unfold hor;exact Arf ..
theorem UR:∀(l:List UInt8) {v i:Nat},l.all GH=true->v<4294967296 ^ i->hor v l<4294967296 ^ (i+l.length)
 |[],v,i,_,hv=>hv
 |c::l,v,i,h,hv=>by
  rw[ArN,Ark]at h;have h1:=ZO h.1;have:=UR l (v:=v*10+(c.toNat-48)) (i:=i+1) h.2 (by rw[AqI];omega);rw[NN,Apw,show i+(l.length+1)=i+1+l.length by omega];exact this
theorem DE{s:ByteArray}{i:Nat}(h:i<s.size):Af.sat s i=((s.data.toList[i]'(by simpa using h)).toNat:Int):=by
 show (match s[i]? with|some c=>Int.ofNat c.toNat|none=>0)=_
 rw[getElem?_pos s i h];rfl
def ScN(q:Nat):Prop:=q=1\/q=10\/q=100\/q=1000\/q=10000\/q=100000\/q=1000000\/q=10000000\/q=100000000
theorem ScN.next{q:Nat}(h:ScN q):q=100000000\/q<100000000/\ScN (q*10):=by
 unfold ScN at *;omega
theorem ScN.le{q:Nat}(h:ScN q):1<=q/\q<=100000000:=by
 unfold ScN at h;omega
theorem SI(v q p d:Nat):v*(q*10)+(p*10+d)=(v*q+p)*10+d:=by
 rw[Aqf,AqP];omega
theorem Mi:∀(m c:Nat) (a:List Nat),(DJ m c a).length=a.length+1
 |_,_,[]=>rfl
 |m,c,x::a=>by rw[DJ,Apw,Mi,Apw]
section
variable {D:Orc} (K:Knows Al KD D)
include K
theorem Xy{c:UInt8}(h:GH c=true):D.ask (.fn 202) [.v (.int .u8 (c.toNat:Int))] []=some (.tup [.v (.int .u32 ((c.toNat-48:Nat):Int)),bv true],[]):=by
 have h2:=(Ark.1 h);have h3:=of_decide_eq_true h2.1;have h4:=of_decide_eq_true h2.2;refine K.fn' AaR _ rfl ((AkO ..).trans ?_);refine Cn (by omega) ?_;refine Cn (by omega) ?_;rw[show Af.sub .u8 (c.toNat:Int) 48=((c.toNat-48:Nat):Int) from by
  show IntKind.u8.wrap ((c.toNat:Int)-48)=_
  rw[IntKind.wrap_u8];omega,Bz (by omega)]
theorem ZP{c:UInt8}(h:GH c=false):∃ x:Int,D.ask (.fn 202) [.v (.int .u8 (c.toNat:Int))] []=some (.tup [.v (.int .u32 x),bv false],[]):=by
 refine⟨Af.conv .u32 (Af.sub .u8 (c.toNat:Int) 48),K.fn' AaR _ rfl ((AkO ..).trans ?_)⟩
 by_cases h1:48<=c.toNat
 .refine Cn (by omega) ?_
  refine(Zy ?_).trans rfl;intro h2;unfold GH at h;rw[decide_eq_true h1,decide_eq_true (by omega)]at h
  cases h
 .exact Cv (by omega) rfl
theorem Ad9{a:List Nat}(ha:Limbs a)(hs:a.length<=999999999)(m:Nat)(hm:m<4294967296):∀(k i:Nat) (out:List Nat) (c:Nat),a.length-i=k->i<=a.length->c<4294967296->out.length=i->
  ∃(o:List Nat) (c':Nat),D.ask (.lp 203 0) [.v (.int .u32 (m:Int)),.sl 0 0 out.length 1,.v (.int .u64 (c:Int)),eN a,iv (a.length:Int),iv (i:Int)] [Δ (Ap eL out) true true]
   = some (.tup [iv 0,.sl 1 0 o.length 1,.v (.int .u64 (c':Int))],[.del,.set (Δ (Ap eL o) true true)])/\c'<4294967296/\o++[c']=out++DJ m c (a.drop i):=by
 intro k
 induction k with
 |zero=>
  intro i out c hi hle hc ho;refine⟨out,c,?_,hc,?_⟩
  .refine K.lp' PE _ rfl (by kernel_rfl) ((Z4 ..).trans ?_)
   refine Ah (by omega) ?_;rfl
  .rw[show a.drop i=[] from Apz (by omega)]
   rfl
 |succ k ih=>
  intro i out c hi hle hc ho;have hlt:i<a.length:=by omega
  have hx:=ha.get hlt;have hp:=N2 hx hm;obtain⟨o,c',h1,h2,h3⟩:=ih (i+1) (out++[(a[i]*m+c) % 4294967296]) ((a[i]*m+c) / 4294967296) (by omega) (by omega) (by omega) (by simp;omega);refine⟨o,c',?_,h2,?_⟩
  .refine K.lp' PE _ rfl (by kernel_rfl) ((Z4 ..).trans ?_)
   refine Ai (by omega) ?_;rw[Aw,Au (Φ hlt)];simp only[eL,Fh,ND,DK,Aa];have hf:Bf (out.length+1) 4=true:=AJ (by omega) (by omega);have hb1:ApA (0+out.length*1) (Ap eL out).length=true:=AS AT out (by omega);have e3:∀ s:Nat,Apx 0 (ο (0+out.length*1) (Ap eL out))++[.v (.int .u32 (s:Int))]=Ap eL (out++[s]):=λs=>by
    rw[π,A4 AT out (by omega)];exact A6 eL out s
   rw[υ,Aqb]at h1;rw[BR (show a[i]<_ by omega),BR (show m<_ by omega),Rk (by omega),CY (by omega),E6,Kk,A8 (by omega),hf,hb1,e3];refine Ac ?_;refine Ac ?_;refine Ah (by decide) ?_;refine Ab h1 ?_;rfl
  .rw[h3,χ hlt,DJ,ApZ]
   rfl
theorem VX{a:List Nat}(ha:Limbs a)(hs:a.length<=999999999){m:Nat}(hm:m<4294967296){c:Nat}(hc:c<4294967296):∃ L:List Nat,D.ask (.fn 203) [eN a,.v (.int .u32 (m:Int)),.v (.int .u32 (c:Int))] []=some (eN L,[])/\Limbs L/\Ag L=Ag a*m+c/\L.length<=a.length+1:=by
 obtain⟨o,c',g,hc',ho⟩:=Ad9 K ha hs m hm a.length 0 [] c (by omega) (by omega) hc rfl;rw[ApU,π]at ho;have hol:o.length=a.length:=by
  have:=congrArg AsB ho;rw[υ,Mi]at this;simpa using this
 have hL:=GS m a c hm ha hc;have hV:=Ij m a c;rw[←ho]at hL hV
 by_cases h0:c'=0
 .subst h0
  refine⟨o,?_,λx hx=>hL x (List.mem_append_left _ hx),?_,by omega⟩
  .refine K.fn' PE _ rfl ((AkP ..).trans ?_)
   rw[Ao,A8 (by omega),Aw,AJ (by omega) (by omega)];refine Ac ?_;rw[BR (show c<_ by omega)];refine Ab g ?_;simp only[Fh,ND,DK,Aa];refine Ah (by omega) ?_;rw[AS AT o (by omega)];refine Ac ?_;rw[A4 AT o rfl,CQ AT o];rfl
  .rw[←hV,Ff]
   simp[Ag]
 .refine⟨o++[c'],?_,hL,hV,by simp;omega⟩
  refine K.fn' PE _ rfl ((AkP ..).trans ?_);rw[Ao,A8 (by omega),Aw,AJ (by omega) (by omega)];refine Ac ?_;rw[BR (show c<_ by omega)];refine Ab g ?_;simp only[Fh,ND,DK,Aa];refine Ai (by omega) ?_;rw[Bz hc'];have e3:Apx 0 (ο (0+o.length*1) (Ap eL o))++[.v (.int .u32 (c':Int))]=Ap eL (o++[c']):=by
   rw[π,A4 AT o (by omega)];exact A6 eL o c'
  rw[AJ (n:=o.length+1) (b:=4) (by omega) (by omega),AS AT o (by omega),e3,AS AT (o++[c']) (by simp)];refine Ac ?_;refine Ac ?_;refine Ac ?_;rw[π,A4 AT (o++[c']) (by simp),show Bp (o.length+1) 1 (Ap eL (o++[c']))=(o++[c']).map eL from by have:=CQ AT (o++[c']);rwa [υ]at this];rfl
def Aku(x:AV)(L:List Nat):Prop:=x=eN L\/(x=.v (.slice none 0 0)/\L=[])
set_option maxHeartbeats 4000000 in
theorem Ye{s:ByteArray}(hs:s.size<=4000):∀(m i:Nat) (x:AV) (L:List Nat) (p q:Nat),s.size-i=m->i<=s.size->Aku x L->Limbs L->L.length<=i->p<q->ScN q->
  ((s.data.toList.drop i).all GH=true->∃(L':List Nat) (p' q':Nat),D.ask (.lp 148 0) [sv s,x,.v (.int .u32 (p:Int)),.v (.int .u32 (q:Int)),iv (s.size:Int),iv (i:Int)] []=some (.tup [iv 1,eN L',.v (.int .u32 (p':Int)),.v (.int .u32 (q':Int))],[])
    ∧ Limbs L'/\L'.length<=s.size/\p'<q'/\ScN q'/\Ag L'*q'+p'=hor (Ag L*q+p) (s.data.toList.drop i))
  ∧ ((s.data.toList.drop i).all GH=false->D.ask (.lp 148 0) [sv s,x,.v (.int .u32 (p:Int)),.v (.int .u32 (q:Int)),iv (s.size:Int),iv (i:Int)] []=some (.tup [bv true,.ls [],iv 20],[])):=by
 intro m;have hsl:s.data.toList.length=s.size:=by simp
 induction m with
 |zero=>
  intro i x L p q hm hi hx hL hLl hp hq;have e:s.data.toList.drop i=[]:=Apz (by omega);rw[e];refine⟨λ_=>⟨L,p,q,?_,hL,by omega,hp,hq,rfl⟩,λh=>by cases h⟩;rcases hx with rfl|⟨rfl,rfl⟩
  .refine K.lp' Ew _ rfl (by kernel_rfl) ((K3 ..).trans ?_)
   exact Ah (by omega) rfl
  .refine K.lp' Ew _ rfl (by kernel_rfl) ((Iu ..).trans ?_)
   exact Ah (by omega) rfl
 |succ m ih=>
  intro i x L p q hm hi hx hL hLl hp hq;have hlt:i<s.size:=by omega
  have hlt':i<s.data.toList.length:=by omega
  have e:s.data.toList.drop i=s.data.toList[i]::s.data.toList.drop (i+1):=χ hlt';rw[e,ArN];have hq1:=hq.le
  cases hd:GH s.data.toList[i]with
  |false=>
   refine⟨λh=>by simp at h,λ_=>?_⟩;obtain⟨z,hz⟩:=ZP K hd;rcases hx with rfl|⟨rfl,rfl⟩
   .refine K.lp' Ew _ rfl (by kernel_rfl) ((K3 ..).trans ?_)
    refine Ai (by omega) ?_;rw[Aw,Ch,Bv hlt];refine Ac ?_;rw[DE hlt];refine Ab hz ?_;simp only[Fh,ND,DK,Aa];rfl
   .refine K.lp' Ew _ rfl (by kernel_rfl) ((Iu ..).trans ?_)
    refine Ai (by omega) ?_;rw[Aw,Ch,Bv hlt];refine Ac ?_;rw[DE hlt];refine Ab hz ?_;simp only[Fh,ND,DK,Aa];rfl
  |true=>
   have hy:=Xy K hd;have hdd:=ZO hd;rw[ApP,NN];rcases hq.next with h8|⟨h8,hq2⟩
   .obtain⟨L2,g,hL2,hV2,hl2⟩:=VX K hL (by omega) (m:=q*10) (by omega) (c:=p*10+(s.data.toList[i].toNat-48)) (by omega)
    have ih':=ih (i+1) (eN L2) L2 0 1 (by omega) (by omega) (.inl rfl) hL2 (by omega) (by omega) (.inl rfl);rw[show Ag L2*1+0=(Ag L*q+p)*10+(s.data.toList[i].toNat-48) by rw[Asd,Aqh,hV2,SI]]at ih';refine⟨λh=>?_,λh=>?_⟩
    .obtain⟨L',p',q',h1,h2⟩:=ih'.1 h
     refine⟨L',p',q',?_,h2⟩;rcases hx with rfl|⟨rfl,rfl⟩
     .refine K.lp' Ew _ rfl (by kernel_rfl) ((K3 ..).trans ?_)
      refine Ai (by omega) ?_;rw[Aw,Ch,Bv hlt];refine Ac ?_;rw[DE hlt];refine Ab hy ?_;simp only[Fh,ND,DK,Aa];refine A1 ?_;rw[show (10:Int)=((10:Nat):Int) from rfl,Cx,Cx,FD,ApR (show q*10<4294967296 by omega),ApR (show p*10<4294967296 by omega),ApR (show p*10+(s.data.toList[i].toNat-48)<4294967296 by omega),A8 (by omega)];refine Av (by omega) ?_;refine Ab g ?_;simp only[eN,ND,DK,Aa];refine Ab h1 ?_;rfl
     .refine K.lp' Ew _ rfl (by kernel_rfl) ((Iu ..).trans ?_)
      refine Ai (by omega) ?_;rw[Aw,Ch,Bv hlt];refine Ac ?_;rw[DE hlt];refine Ab hy ?_;simp only[Fh,ND,DK,Aa];refine A1 ?_;rw[show (10:Int)=((10:Nat):Int) from rfl,Cx,Cx,FD,ApR (show q*10<4294967296 by omega),ApR (show p*10<4294967296 by omega),ApR (show p*10+(s.data.toList[i].toNat-48)<4294967296 by omega),A8 (by omega)];refine Av (by omega) ?_;refine Ab g ?_;simp only[eN,ND,DK,Aa];refine Ab h1 ?_;rfl
    .have h1:=ih'.2 h
     rcases hx with rfl|⟨rfl,rfl⟩
     .refine K.lp' Ew _ rfl (by kernel_rfl) ((K3 ..).trans ?_)
      refine Ai (by omega) ?_;rw[Aw,Ch,Bv hlt];refine Ac ?_;rw[DE hlt];refine Ab hy ?_;simp only[Fh,ND,DK,Aa];refine A1 ?_;rw[show (10:Int)=((10:Nat):Int) from rfl,Cx,Cx,FD,ApR (show q*10<4294967296 by omega),ApR (show p*10<4294967296 by omega),ApR (show p*10+(s.data.toList[i].toNat-48)<4294967296 by omega),A8 (by omega)];refine Av (by omega) ?_;refine Ab g ?_;simp only[eN,ND,DK,Aa];refine Ab h1 ?_;rfl
     .refine K.lp' Ew _ rfl (by kernel_rfl) ((Iu ..).trans ?_)
      refine Ai (by omega) ?_;rw[Aw,Ch,Bv hlt];refine Ac ?_;rw[DE hlt];refine Ab hy ?_;simp only[Fh,ND,DK,Aa];refine A1 ?_;rw[show (10:Int)=((10:Nat):Int) from rfl,Cx,Cx,FD,ApR (show q*10<4294967296 by omega),ApR (show p*10<4294967296 by omega),ApR (show p*10+(s.data.toList[i].toNat-48)<4294967296 by omega),A8 (by omega)];refine Av (by omega) ?_;refine Ab g ?_;simp only[eN,ND,DK,Aa];refine Ab h1 ?_;rfl
   .have ih':=ih (i+1) x L (p*10+(s.data.toList[i].toNat-48)) (q*10) (by omega) (by omega) hx hL (by omega) (by omega) hq2
    rw[SI]at ih';refine⟨λh=>?_,λh=>?_⟩
    .obtain⟨L',p',q',h1,h2⟩:=ih'.1 h
     refine⟨L',p',q',?_,h2⟩;rcases hx with rfl|⟨rfl,rfl⟩
     .refine K.lp' Ew _ rfl (by kernel_rfl) ((K3 ..).trans ?_)
      refine Ai (by omega) ?_;rw[Aw,Ch,Bv hlt];refine Ac ?_;rw[DE hlt];refine Ab hy ?_;simp only[Fh,ND,DK,Aa];refine A1 ?_;rw[show (10:Int)=((10:Nat):Int) from rfl,Cx,Cx,FD,ApR (show q*10<4294967296 by omega),ApR (show p*10<4294967296 by omega),ApR (show p*10+(s.data.toList[i].toNat-48)<4294967296 by omega),A8 (by omega)];refine Am (by omega) ?_;refine Ab h1 ?_;rfl
     .refine K.lp' Ew _ rfl (by kernel_rfl) ((Iu ..).trans ?_)
      refine Ai (by omega) ?_;rw[Aw,Ch,Bv hlt];refine Ac ?_;rw[DE hlt];refine Ab hy ?_;simp only[Fh,ND,DK,Aa];refine A1 ?_;rw[show (10:Int)=((10:Nat):Int) from rfl,Cx,Cx,FD,ApR (show q*10<4294967296 by omega),ApR (show p*10<4294967296 by omega),ApR (show p*10+(s.data.toList[i].toNat-48)<4294967296 by omega),A8 (by omega)];refine Am (by omega) ?_;refine Ab h1 ?_;rfl
    .have h1:=ih'.2 h
     rcases hx with rfl|⟨rfl,rfl⟩
     .refine K.lp' Ew _ rfl (by kernel_rfl) ((K3 ..).trans ?_)
      refine Ai (by omega) ?_;rw[Aw,Ch,Bv hlt];refine Ac ?_;rw[DE hlt];refine Ab hy ?_;simp only[Fh,ND,DK,Aa];refine A1 ?_;rw[show (10:Int)=((10:Nat):Int) from rfl,Cx,Cx,FD,ApR (show q*10<4294967296 by omega),ApR (show p*10<4294967296 by omega),ApR (show p*10+(s.data.toList[i].toNat-48)<4294967296 by omega),A8 (by omega)];refine Am (by omega) ?_;refine Ab h1 ?_;rfl
     .refine K.lp' Ew _ rfl (by kernel_rfl) ((Iu ..).trans ?_)
      refine Ai (by omega) ?_;rw[Aw,Ch,Bv hlt];refine Ac ?_;rw[DE hlt];refine Ab hy ?_;simp only[Fh,ND,DK,Aa];refine A1 ?_;rw[show (10:Int)=((10:Nat):Int) from rfl,Cx,Cx,FD,ApR (show q*10<4294967296 by omega),ApR (show p*10<4294967296 by omega),ApR (show p*10+(s.data.toList[i].toNat-48)<4294967296 by omega),A8 (by omega)];refine Am (by omega) ?_;refine Ab h1 ?_;rfl
def Hb(s:ByteArray):List Nat × Int:=
 if 4000<s.size then([],2) else if s.size=0 then([],20) else if s.data.toList.all GH=true then(AN (hor 0 s.data.toList),0) else([],20)
variable (C:CloneF D)
include C
theorem Yf(s:ByteArray):D.ask (.fn 148) [sv s] []=some (.tup [eN (Hb s).1,iv (Hb s).2],[]):=by
 refine K.fn' Ew _ rfl ((Anl ..).trans ?_);unfold Hb;rw[Ch]
 by_cases h1:4000<s.size
 .rw[if_pos h1]
  exact Ai (by omega) rfl
 rw[if_neg h1];refine Ah (by omega) ?_
 by_cases h2:s.size=0
 .rw[if_pos h2]
  have h3:s=ByteArray.empty:=by simpa using h2
  exact Da (by rw[h3];rfl) rfl
 rw[if_neg h2];refine(Ec (λh=>h2 (by rw[h];rfl))).trans ?_;have g:=Ye K (s:=s) (by omega) s.size 0 (.v (.slice none 0 0)) [] 0 1 (by omega) (by omega) (.inr ⟨rfl,rfl⟩) BM (by simp) (by omega) (.inl rfl);rw[π]at g
 by_cases h3:s.data.toList.all GH=true
 .rw[if_pos h3]
  obtain⟨L',p',q',h4,hL,hl,hp,hq,hv⟩:=g.1 h3;have hq1:=hq.le;obtain⟨L2,g2,hL2,hV2,hl2⟩:=VX K hL (by omega) (m:=q') (by omega) (c:=p') (by omega);refine Ab h4 ?_;simp only[eN,Fh,ND,DK,Aa];refine Ac ?_;refine Ab g2 ?_;simp only[eN,ND,DK,Aa];refine Ab (Gr K C (by unfold Cu;omega) hL2) ?_;rw[hV2,hv];rfl
 .rw[if_neg h3]
  refine Ab (g.2 (by simpa using h3)) ?_;rfl
end
theorem E1(s:ByteArray):Limbs (Hb s).1:=by
 unfold Hb;split
 .exact BM
 split
 .exact BM
 split
 .exact AA _
 .exact BM
theorem HY(s:ByteArray):(Hb s).1.length<=4000:=by
 unfold Hb;split
 .simp
 split
 .simp
 split
 .rename_i h1 h2 h3
  refine Nat.le_trans (Bw (k:=s.size) ?_) (by omega);have:=UR s.data.toList h3 (v:=0) (i:=0) (by simp)
  rwa [ApN,show s.data.toList.length=s.size by simp]at this
 .simp
def MB(s:ByteArray):Prop:=1<=s.size/\s.extract 0 1=Ax [45]
instance (s:ByteArray):Decidable (MB s):=by unfold MB;exact inferInstance
def Ha(s:ByteArray):ByteArray × Bool:=if MB s then(s.extract 1 s.size,true) else(s,false)
def Ga(s:ByteArray):Zi × Int:=if(Hb (Ha s).1).2=0 then(AF (DU (Ha s).2 (Ag (Hb (Ha s).1).1)),0) else(⟨false,[]⟩,(Hb (Ha s).1).2)
section
variable {D:Orc} (K:Knows Al KD D) (Z:Knows Al Qh D) (C:CloneF D)
include Z
theorem Aeb(s:ByteArray):D.ask (.fn 241) [sv s,sv (Ax [45])] []=some (bv (decide (MB s)),[]):=by
 refine Z.fn' Ahb _ rfl ((An7 ..).trans ?_);rw[Ch,Ch,show (Ax [45]).size=1 from rfl]
 by_cases h1:1<=s.size
 .refine Cn (by omega) ?_
  rw[show J1 0 1 s.size=true by unfold J1;simp;omega];refine Ac ?_
  by_cases h2:s.extract 0 1=Ax [45]
  .rw[decide_eq_true (show MB s from ⟨h1,h2⟩)]
   exact Da h2 rfl
  .rw[decide_eq_false (show ¬ MB s from λh=>h2 h.2)]
   exact(Ec h2).trans rfl
 .rw[decide_eq_false (show ¬ MB s from λh=>h1 h.1)]
  exact Cv (by omega) rfl
theorem AdT(s:ByteArray):D.ask (.fn 201) [sv s,sv (Ax [45])] []=some (.tup [sv (Ha s).1,bv (Ha s).2],[]):=by
 refine Z.fn' Ag0 _ rfl ((AnO ..).trans ?_);refine Ab (Aeb Z s) ?_;simp only[ND,DK,Aa];unfold Ha
 by_cases h:MB s
 .have h1:=h.1
  rw[if_pos h,decide_eq_true h,Ch,Ch,show (Ax [45]).size=1 from rfl];refine Ac ?_;rw[show J1 1 s.size s.size=true by unfold J1;rw[Aqr h1,Aqr (ω _)]];rfl
 .rw[if_neg h,decide_eq_false h]
  exact A1 rfl
theorem Ai1(s:ByteArray):D.ask (.fn 147) [sv s,sv (Ax [45])] []=some (.tup [sv (Ha s).1,bv (Ha s).2],[]):=by
 refine Z.fn' AgH _ rfl ((Ank ..).trans ?_);refine Ab (AdT Z s) ?_;rfl
include K C
theorem Y5(s:ByteArray):D.ask (.fn 85) [sv s] []=some (.tup [.agg (eZ (Ga s).1),iv (Ga s).2],[]):=by
 refine Z.fn' Ald _ rfl ((e85 ..).trans ?_);refine Ab (Ai1 Z s) ?_;simp only[ND,DK,Aa];refine Ab (Yf K C (Ha s).1) ?_;simp only[eN,Fh,ND,DK,Aa];unfold Ga
 by_cases h:(Hb (Ha s).1).2=0
 .rw[if_pos h]
  refine Av h ?_;refine Ab (Fp K Z C (Ha s).2 (E1 _) (by unfold Cu;have:=HY (Ha s).1;omega)) ?_;rfl
 .rw[if_neg h]
  exact Am h rfl
end
end Go.Proofs.YtlmhajfbpplpoaaGreat
