/- Numbers as limbs of 32 bits, the lowest first. No -/
import Derived.Test.YtlmhajfbpplpoaaGreatOAZ
set_option linter.all false
open Bool renaming and_eq_true->ApF,and_eq_true_iff->Arq,true_and->ApZ
open Int renaming add_mul->Asf,mul_assoc->AsU,natAbs_mul->AsM,natAbs_neg->Arf,natCast_mul->ArH
open List renaming all_cons->ArR,append_assoc->Ap9,cons_append->AqX,drop->ApK,drop_append->Ar2,drop_drop->Arw,drop_eq_getElem_cons->ApE,drop_eq_nil_of_le->ApL,drop_zero->ApD,filter_cons_of_neg->Asa,filter_cons_of_pos->Asb,foldl_cons->Arl,getElem?_cons_succ->Ap5,getElem?_eq_getElem->Apy,getElem?_eq_none->Aqr,getElem?_set_ne->AqD,getElem?_set_self->AqL,length->AsD,length_append->ApH,length_cons->ApI,length_eq_zero_iff->Aqj,length_set->Aqa,length_singleton->Aql,length_take->Ap0,map_cons->Ap2,map_take->ArT,mem_append->Aqb,mem_cons->ApN,mem_cons_of_mem->ApW,mem_cons_self->ApV,mem_filter->Ars,mem_map->AqS,mem_of_mem_drop->AqE,mem_replicate->Asv,mem_singleton->Aqe,nil_append->Ap4,pairwise_cons->Aqz,pairwise_singleton->Asd,replicate->Ary,set_eq_take_append_cons_drop->Ard,tail_drop->Aro,take->ApG,take_length->AqR,take_succ_eq_append_getElem->AqI
open Nat renaming add_mul->Aqq,add_sub_cancel->ArO,add_zero->Aqs,ble->ApM,ble_eq_true_of_le->AqB,le_refl->ApA,min_eq_left->AqK,mod_eq_of_lt->Ap1,mod_lt->Aq7,mod_one->As0,mul_add->ArC,mul_assoc->AqY,mul_comm->Ar8,mul_le_mul_left->ArM,mul_one->Asi,pow_le_pow_right->Aq0,pow_pos->As1,pow_succ->AqT,strongRecOn->AqP,zero_add->ApX
namespace Go.Proofs.YtlmhajfbpplpoaaGreat
open Go.RowKit
def Ak:List Nat->Nat
 |[]=>0
 |x::r=>x+4294967296*Ak r
def Limbs(l:List Nat):Prop:=∀ x∈l,x<4294967296
def AY(n:Nat):List Nat:=if n=0 then [] else(n % 4294967296)::AY (n / 4294967296)
termination_by n
decreasing_by omega
theorem EF:AY 0=[]:=by rw[AY];rfl
theorem HY{n:Nat}(h:n≠0):AY n=(n % 4294967296)::AY (n / 4294967296):=by rw[AY,if_neg h]
theorem AL:∀(n:Nat),Limbs (AY n):=by
 intro n
 induction n using AqP with
 |ind n ih=>
  by_cases h:n=0
  .subst h;rw[EF];intro x hx;cases hx
  .rw[HY h]
   intro x hx;rcases ApN.1 hx with rfl|hx
   .exact Aq7 _ (by omega)
   .exact ih (n / 4294967296) (by omega) x hx
theorem A0:∀(n:Nat),Ak (AY n)=n:=by
 intro n
 induction n using AqP with
 |ind n ih=>
  by_cases h:n=0
  .subst h;rw[EF];rfl
  .rw[HY h,Ak,ih (n / 4294967296) (by omega)]
   omega
def C7:List Nat->Nat
 |[]=>0
 |x::r=>if C7 r=0/\x=0 then 0 else C7 r+1
theorem D0:∀ l:List Nat,C7 l<=l.length
 |[]=>ApA _
 |x::r=>by
  have:=D0 r;unfold C7;rw[ApI];split<;>omega
theorem Limbs.cons{x:Nat}{r:List Nat}(h:Limbs (x::r)):x<4294967296/\Limbs r:=⟨h x (ApV ..),λy hy=>h y (ApW _ hy)⟩
theorem BZ:Limbs []:=λ_ h=>by cases h
theorem BM{x:Nat}{r:List Nat}(h:x<4294967296)(h2:Limbs r):Limbs (x::r):=λy hy=>by
 rcases ApN.1 hy with rfl|hy
 .exact h
 .exact h2 y hy
theorem PP{a b:List Nat}(h:Limbs a)(h2:Limbs b):Limbs (a++b):=λx hx=>by
 rcases Aqb.1 hx with hx|hx
 .exact h x hx
 .exact h2 x hx
theorem Limbs.take{l:List Nat}(h:Limbs l)(n:Nat):Limbs (l.take n):=λx hx=>h x (List.mem_of_mem_take hx)
theorem Limbs.drop{l:List Nat}(h:Limbs l)(n:Nat):Limbs (l.drop n):=λx hx=>h x (AqE hx)
theorem Limbs.get{l:List Nat}(h:Limbs l){i:Nat}(hi:i<l.length):l[i]<4294967296:=h _ (List.getElem_mem hi)
theorem AcM:∀{l:List Nat},C7 l=0->Ak l=0
 |[],_=>rfl
 |x::r,h=>by
  unfold C7 at h;split at h
  .rename_i h2
   rw[Ak,AcM h2.1,h2.2]
  .omega
theorem AcP:∀{l:List Nat},Ak l=0->C7 l=0
 |[],_=>rfl
 |x::r,h=>by
  rw[Ak]at h;unfold C7;rw[if_pos ⟨AcP (by omega),by omega⟩]
theorem KP:∀{l:List Nat},Limbs l->l.take (C7 l)=AY (Ak l)
 |[],_=>by rw[Ak,EF];rfl
 |x::r,h=>by
  obtain⟨h1,h2⟩:=h.cons;have ih:=KP h2;unfold C7;split
  .rename_i h3
   rw[List.take_zero,Ak,AcM h3.1,h3.2,EF]
  .rename_i h3
   have h0:Ak (x::r)≠0:=by
    intro h0;rw[Ak]at h0;exact h3 ⟨AcP (by omega),by omega⟩
   rw[List.take_succ_cons,HY h0,Ak];have e1:(x+4294967296*Ak r) % 4294967296=x:=by omega
   have e2:(x+4294967296*Ak r) / 4294967296=Ak r:=by omega
   rw[e1,e2,ih]
theorem Fo:∀(a b:List Nat),Ak (a++b)=Ak a+4294967296 ^ a.length*Ak b
 |[],b=>by simp[Ak]
 |x::r,b=>by
  rw[AqX,Ak,Fo r b,Ak,ApI,AqT,ArC,←AqY,Ar8 4294967296 (4294967296 ^ r.length)];omega
theorem CX:∀{l:List Nat},Limbs l->Ak l<4294967296 ^ l.length
 |[],_=>by simp[Ak]
 |x::r,h=>by
  obtain⟨h1,h2⟩:=h.cons;have:=CX h2;rw[Ak,ApI,AqT];omega
theorem HW(l:List Nat)(h:Limbs l):(AY (Ak l)).length=C7 l:=by
 rw[←KP h,Ap0];have:=D0 l;omega
theorem BG{n k:Nat}(h:n<4294967296 ^ k):(AY n).length<=k:=by
 induction k generalizing n with
 |zero=>
  have:n=0:=by simpa using h
  subst this;rw[EF];exact ApA _
 |succ k ih=>
  by_cases h0:n=0
  .subst h0;rw[EF];exact Nat.zero_le _
  .rw[HY h0,ApI]
   have:n / 4294967296<4294967296 ^ k:=by
    rw[Nat.div_lt_iff_lt_mul (by omega)];rw[AqT]at h;exact h
   have:=ih this;omega
theorem ST{n k:Nat}(h:4294967296 ^ k<=n):k<(AY n).length:=by
 by_cases h2:k<(AY n).length
 .exact h2
 .have h3:=CX (AL n)
  rw[A0]at h3;have h4:4294967296 ^ (AY n).length<=4294967296 ^ k:=Aq0 (by omega) (by omega);omega
theorem Qp:∀{l:List Nat},0<C7 l->∃ x,l[C7 l-1]? = some x/\x≠0
 |[],h=>by simp[C7]at h
 |y::r,h=>by
  by_cases h1:C7 r=0
  .have h2:y≠0:=by
    intro h2;unfold C7 at h;rw[if_pos ⟨h1,h2⟩]at h;omega
   refine⟨y,?_,h2⟩;unfold C7;rw[if_neg (λe=>h2 e.2),h1];rfl
  .obtain⟨x,h3,h4⟩:=Qp (l:=r) (by omega)
   refine⟨x,?_,h4⟩;unfold C7;rw[if_neg (λe=>h1 e.1)];have:C7 r+1-1=(C7 r-1)+1:=by omega
   rw[this,Ap5,h3]
theorem RH:∀{l:List Nat} {i x:Nat},l[i]? = some x->x≠0->i<C7 l
 |[],i,x,h,_=>by simp at h
 |y::r,0,x,h,h2=>by
  have h:y=x:=by simpa using h
  unfold C7;rw[if_neg (λe=>h2 (by rw[←h];exact e.2))];omega
 |y::r,i+1,x,h,h2=>by
  rw[Ap5]at h;have:=RH h h2;unfold C7;rw[if_neg (λe=>by omega)];omega
theorem Qo{l:List Nat}{n:Nat}(h:C7 l<=n+1)(h2:l[n]? = some 0):C7 l<=n:=by
 by_cases h3:C7 l=n+1
 .obtain⟨x,h4,h5⟩:=Qp (l:=l) (by omega)
  rw[h3,ArO,h2]at h4;injection h4 with h4
  exact absurd h4.symm h5
 .omega
def eL(n:Nat):List AV:=[.v (.int .u32 (n:Int))]
def eN(l:List Nat):AV:=.ls (l.map eL)
theorem A4(x:Nat):(eL x).length=1:=rfl
def KV:Nat->List Nat->List Nat->List Nat
 |c,[],_=>[c]
 |c,x::a,b=>((x+b.headD 0+c) % 4294967296)::KV ((x+b.headD 0+c) / 4294967296) a b.tail
theorem E7{b:List Nat}(h:Limbs b):b.headD 0<4294967296:=by
 cases b with
 |nil=>simp
 |cons y b=>exact h.cons.1
theorem Limbs.tail{b:List Nat}(h:Limbs b):Limbs b.tail:=by
 cases b with
 |nil=>exact h
 |cons y b=>exact h.cons.2
theorem IM(b:List Nat):Ak b=b.headD 0+4294967296*Ak b.tail:=by
 cases b<;>rfl
theorem LR:∀(a b:List Nat) (c:Nat),b.length<=a.length->Ak (KV c a b)=c+Ak a+Ak b
 |[],b,c,h=>by
  obtain rfl:b=[]:=Aqj.1 (by simpa using h);simp[KV,Ak]
 |x::a,b,c,h=>by
  have ih:=LR a b.tail ((x+b.headD 0+c) / 4294967296) (by simp at h ⊢;omega);rw[KV,Ak,ih,Ak,IM b];omega
theorem Jd:∀(a b:List Nat) (c:Nat),Limbs a->Limbs b->c<=1->Limbs (KV c a b)
 |[],b,c,_,_,hc=>BM (by omega) BZ
 |x::a,b,c,ha,hb,hc=>by
  have h1:=E7 hb;have h2:=ha.cons;exact BM (Aq7 _ (by omega)) (Jd a b.tail _ h2.2 hb.tail (by omega))
def MD:Nat->Nat->List Nat->List Nat->List Nat
 |0,_,_,_=>[]
 |k+1,c,a,b=>((a.headD 0+b.headD 0+c) % 4294967296)::MD k ((a.headD 0+b.headD 0+c) / 4294967296) a.tail b.tail
theorem Qq:∀(k c:Nat) (a b:List Nat),Ak (MD k c a b)=(c+Ak a+Ak b) % 4294967296 ^ k
 |0,c,a,b=>by simp[MD,Ak,As0]
 |k+1,c,a,b=>by
  have ih:=Qq k ((a.headD 0+b.headD 0+c) / 4294967296) a.tail b.tail;rw[MD,Ak,ih,IM a,IM b,AqT,Ar8 (4294967296 ^ k) 4294967296,Nat.mod_mul];have e1:(c+(a.headD 0+4294967296*Ak a.tail)+(b.headD 0+4294967296*Ak b.tail)) % 4294967296=(a.headD 0+b.headD 0+c) % 4294967296:=by omega
  have e2:(c+(a.headD 0+4294967296*Ak a.tail)+(b.headD 0+4294967296*Ak b.tail)) / 4294967296=(a.headD 0+b.headD 0+c) / 4294967296+Ak a.tail+Ak b.tail:=by omega
  rw[e1,e2]
theorem Na:∀(k c:Nat) (a b:List Nat),Limbs (MD k c a b)
 |0,_,_,_=>BZ
 |k+1,c,a,b=>BM (Aq7 _ (by omega)) (Na k _ _ _)
def GY:Nat->List Nat->List Nat->List Nat
 |_,[],_=>[]
 |c,x::a,b=>(if x<b.headD 0+c then x+4294967296-(b.headD 0+c) else x-(b.headD 0+c))::GY (if x<b.headD 0+c then 1 else 0) a b.tail
def RG:Nat->List Nat->List Nat->Nat
 |c,[],_=>c
 |c,x::a,b=>RG (if x<b.headD 0+c then 1 else 0) a b.tail
theorem WV:∀(a b:List Nat) (c:Nat),c<=1->RG c a b<=1
 |[],_,_,h=>h
 |x::a,b,c,h=>WV a b.tail _ (by split<;>omega)
theorem Qs:∀(a b:List Nat) (c:Nat),Limbs a->Limbs b->c<=1->b.length<=a.length->Ak (GY c a b)+Ak b+c=Ak a+4294967296 ^ a.length*RG c a b
 |[],b,c,_,_,_,h=>by
  obtain rfl:b=[]:=Aqj.1 (by simpa using h);simp[GY,RG,Ak]
 |x::a,b,c,ha,hb,hc,h=>by
  have h1:=E7 hb;have h2:=ha.cons;rw[GY,RG,Ak,Ak,IM b,ApI,AqT];have ih:=Qs a b.tail (if x<b.headD 0+c then 1 else 0) h2.2 hb.tail (by split<;>omega) (by simp at h ⊢;omega);rw[Ar8 (4294967296 ^ a.length) 4294967296,AqY];revert ih;generalize 4294967296 ^ a.length*RG (if x<b.headD 0+c then 1 else 0) a b.tail=z;generalize Ak (GY (if x<b.headD 0+c then 1 else 0) a b.tail)=s;intro ih;split at ih
  .rename_i h3
   rw[if_pos h3];omega
  .rename_i h3
   rw[if_neg h3];omega
theorem GZ:∀(a b:List Nat) (c:Nat),Limbs a->Limbs b->c<=1->Limbs (GY c a b)
 |[],_,_,_,_,_=>BZ
 |x::a,b,c,ha,hb,hc=>by
  have h1:=E7 hb;have h2:=ha.cons;refine BM ?_ (GZ a b.tail _ h2.2 hb.tail (by split<;>omega));split<;>omega
theorem KK:∀(a b:List Nat) (c:Nat),(GY c a b).length=a.length
 |[],_,_=>rfl
 |x::a,b,c=>by rw[GY,ApI,KK a,ApI]
theorem TW{a b:List Nat}(ha:Limbs a)(hb:Limbs b)(h:b.length<=a.length)(hv:Ak b<=Ak a):Ak (GY 0 a b)=Ak a-Ak b:=by
 have h1:=Qs a b 0 ha hb (by omega) h;have h2:=CX (GZ a b 0 ha hb (by omega));rw[KK]at h2;have h3:=WV a b 0 (by omega);have h4:=CX ha;rcases Nat.lt_or_ge (RG 0 a b) 1 with h5|h5
 .rw[show RG 0 a b=0 by omega]at h1
  omega
 .rw[show RG 0 a b=1 by omega]at h1
  omega
def N6:Nat->Nat->List Nat->List Nat->List Nat
 |_,c,[],o=>c::o.tail
 |x,c,y::b,o=>((x*y+o.headD 0+c) % 4294967296)::N6 x ((x*y+o.headD 0+c) / 4294967296) b o.tail
theorem Qr:∀(x:Nat) (b o:List Nat) (c:Nat),(o.drop b.length).headD 0=0->Ak (N6 x c b o)=x*Ak b+Ak o+c
 |x,[],o,c,h=>by
  have h:o.headD 0=0:=h;rw[N6,Ak,Ak,IM o,h];omega
 |x,y::b,o,c,h=>by
  have h2:(o.tail.drop b.length).headD 0=0:=by
   rw[ApI]at h
   cases o with
   |nil=>simp
   |cons z o=>exact h
  have ih:=Qr x b o.tail ((x*y+o.headD 0+c) / 4294967296) h2;have e:x*(y+4294967296*Ak b)=x*y+4294967296*(x*Ak b):=by
   rw[ArC,←AqY,Ar8 x 4294967296,AqY]
  rw[N6,Ak,ih,Ak,IM o,e];omega
theorem N8{x y:Nat}(hx:x<4294967296)(hy:y<4294967296):x*y<=18446744065119617025:=by
 have:=Nat.mul_le_mul (show x<=4294967295 by omega) (show y<=4294967295 by omega);omega
theorem N7:∀(x:Nat) (b o:List Nat) (c:Nat),x<4294967296->Limbs b->Limbs o->c<4294967296->Limbs (N6 x c b o)
 |x,[],o,c,_,_,ho,hc=>BM hc ho.tail
 |x,y::b,o,c,hx,hb,ho,hc=>by
  have h1:=E7 ho;have h2:=hb.cons;have h3:=N8 hx h2.1;exact BM (Aq7 _ (by omega)) (N7 x b o.tail _ hx h2.2 ho.tail (by omega))
def DW:Nat->Nat->List Nat->List Nat
 |_,c,[]=>[c]
 |m,c,x::a=>((x*m+c) % 4294967296)::DW m ((x*m+c) / 4294967296) a
theorem Il:∀(m:Nat) (a:List Nat) (c:Nat),Ak (DW m c a)=Ak a*m+c
 |m,[],c=>by simp[DW,Ak]
 |m,x::a,c=>by
  rw[DW,Ak,Il m a,Ak,Aqq,AqY];omega
theorem GX:∀(m:Nat) (a:List Nat) (c:Nat),m<4294967296->Limbs a->c<4294967296->Limbs (DW m c a)
 |m,[],c,_,_,hc=>BM hc BZ
 |m,x::a,c,hm,ha,hc=>by
  have h2:=ha.cons;have h3:=N8 h2.1 hm;exact BM (Aq7 _ (by omega)) (GX m a _ hm h2.2 (by omega))
def DA(a b:Nat):Int:=if a<b then -1 else if b<a then 1 else 0
theorem R1{a b:List Nat}(ha:Limbs a)(hb:Limbs b)(h:a.length=b.length)(x y:Nat):DA (Ak (a++[x])) (Ak (b++[y]))=if x<y then -1 else if y<x then 1 else DA (Ak a) (Ak b):=by
 rw[Fo,Fo,←h];have h1:=CX ha;have h2:=CX hb;rw[←h]at h2;simp only[Ak,Nat.mul_zero,Aqs];revert h1 h2;generalize 4294967296 ^ a.length=k;generalize Ak a=p;generalize Ak b=q;intro h1 h2
 by_cases h3:x<y
 .rw[if_pos h3]
  have:k*(x+1)<=k*y:=ArM _ h3;rw[ArC]at this;unfold DA;rw[if_pos (by omega)]
 .rw[if_neg h3]
  by_cases h4:y<x
  .rw[if_pos h4]
   have:k*(y+1)<=k*x:=ArM _ h4;rw[ArC]at this;unfold DA;rw[if_neg (by omega),if_pos (by omega)]
  .rw[if_neg h4]
   obtain rfl:x=y:=by omega
   unfold DA
   by_cases h5:p<q
   .rw[if_pos (by omega),if_pos h5]
   .rw[if_neg (by omega),if_neg h5]
    by_cases h6:q<p
    .rw[if_pos (by omega),if_pos h6]
    .rw[if_neg (by omega),if_neg h6]
structure Zi where
 neg:Bool
 abs:List Nat
def D5(neg:Bool)(n:Nat):Int:=if neg then -(n:Int) else n
def zv(z:Zi):Int:=D5 z.neg (Ak z.abs)
def AO(n:Int):Zi:=⟨decide (n<0),AY n.natAbs⟩
def eZ(z:Zi):List AV:=[bv z.neg,eN z.abs]
theorem Afr(n:Int):D5 (decide (n<0)) n.natAbs=n:=by
 unfold D5
 by_cases h:n<0
 .rw[decide_eq_true h,if_pos rfl];omega
 .rw[decide_eq_false h,if_neg (by simp)];omega
theorem AJ(n:Int):zv (AO n)=n:=by
 unfold zv AO;rw[A0];exact Afr n
theorem W8(neg:Bool)(v:Nat):AO (D5 neg v)=⟨neg&&decide (0<v),AY v⟩:=by
 unfold AO D5
 cases neg with
 |false=>
  rw[if_neg (by simp),Bool.false_and,decide_eq_false (by omega)];rfl
 |true=>
  rw[if_pos rfl,ApZ,Arf,Int.natAbs_natCast]
  congr 1
  by_cases h:0<v
  .rw[decide_eq_true h,decide_eq_true (by omega)]
  .rw[decide_eq_false h,decide_eq_false (by omega)]
theorem LS:AO 0=⟨false,[]⟩:=by
 unfold AO;rw[show (0:Int).natAbs=0 from rfl,EF];rfl
structure Lz (k:Nat) (z:Zi):Prop where
 lim:Limbs z.abs
 len:z.abs.length<=k
theorem Lz.mono{k m:Nat}{z:Zi}(h:Lz k z)(hm:k<=m):Lz m z:=⟨h.lim,by have:=h.len;omega⟩
def InB(k:Nat)(n:Int):Prop:=n.natAbs<4294967296 ^ k
theorem InB.lz{k:Nat}{n:Int}(h:InB k n):Lz k (AO n):=⟨AL _,BG h⟩
theorem Lz.inb{k:Nat}{z:Zi}(h:Lz k z):InB k (zv z):=by
 unfold InB zv;have h1:=CX h.lim;have h2:4294967296 ^ z.abs.length<=4294967296 ^ k:=Aq0 (by omega) h.len;have h3:(D5 z.neg (Ak z.abs)).natAbs=Ak z.abs:=by
  unfold D5;split
  .rw[Arf];rfl
  .rfl
 omega
theorem InB.mono{k m:Nat}{n:Int}(h:InB k n)(hm:k<=m):InB m n:=by
 unfold InB at *;have h2:4294967296 ^ k<=4294967296 ^ m:=Aq0 (by omega) hm;omega
theorem InB.add{k:Nat}{a b:Int}(ha:InB k a)(hb:InB k b):InB (k+1) (a+b):=by
 unfold InB at *;have:=Int.natAbs_add_le a b;rw[AqT];omega
theorem InB.neg{k:Nat}{a:Int}(ha:InB k a):InB k (-a):=by
 unfold InB at *;rw[Arf];exact ha
theorem InB.mul{k m:Nat}{a b:Int}(ha:InB k a)(hb:InB m b):InB (k+m) (a*b):=by
 unfold InB at *;rw[AsM,Nat.pow_add];have h1:a.natAbs*b.natAbs<=a.natAbs*4294967296 ^ m:=ArM _ (Nat.le_of_lt hb);have h2:a.natAbs*4294967296 ^ m<4294967296 ^ k*4294967296 ^ m:=Nat.mul_lt_mul_of_pos_right ha (As1 (by omega));omega
theorem InB.zero(k:Nat):InB k 0:=by
 unfold InB;exact As1 (by omega)
theorem InB.one{k:Nat}(h:1<=k):InB k 1:=by
 have:InB 1 1:=by unfold InB;decide
 exact this.mono h
def FR(a b:Int):Int:=if a<b then -1 else if b<a then 1 else 0
def CH(n:Int):Int:=if n<0 then -1 else if 0<n then 1 else 0
theorem Ac1(z:Zi):zv z<0 ↔ z.neg=true/\0<Ak z.abs:=by
 obtain⟨n,l⟩:=z
 cases n with
 |true=>
  show (-(Ak l:Int)<0) ↔ (true=true/\0<Ak l)
  exact⟨λh=>⟨rfl,by omega⟩,λh=>by have:=h.2;omega⟩
 |false=>
  show ((Ak l:Int)<0) ↔ (false=true/\0<Ak l)
  exact⟨λh=>by omega,λh=>by cases h.1⟩
theorem Xa(z:Zi):zv z=0 ↔ Ak z.abs=0:=by
 unfold zv D5;split<;>omega
theorem EK{n:Nat}:0<(AY n).length ↔ 0<n:=by
 constructor
 .intro h
  by_cases h0:n=0
  .subst h0;rw[EF]at h;simp at h
  .omega
 .intro h
  rw[HY (by omega)];simp
def A6(v:Int):List (Int × Int)->Int
 |[]=>0
 |p::r=>(if p.1=v then p.2 else 0)+A6 v r
theorem GC{v:Int}:∀{l:List (Int × Int)},(∀ p∈l,p.1≠v)->A6 v l=0
 |[],_=>rfl
 |p::r,h=>by
  rw[A6,if_neg (h p (ApV ..)),GC λq hq=>h q (ApW _ hq)];rfl
theorem Nu{v:Int}{a b:List (Int × Int)}(h:a.Perm b):A6 v a=A6 v b:=by
 induction h with
 |nil=>rfl
 |cons x _ ih=>rw[A6,A6,ih]
 |swap x y l=>rw[A6,A6,A6,A6];omega
 |trans _ _ ih1 ih2=>rw[ih1,ih2]
theorem K5{v:Int}(hv:0<=v):∀ l:List (Int × Int),A6 v (l.filter λp=>decide (0<=p.1))=A6 v l
 |[]=>rfl
 |p::r=>by
  have ih:=K5 hv r
  by_cases h:0<=p.1
  .rw[Asb (by simpa using h),A6,A6,ih]
  .rw[Asa (by simpa using h),A6,ih,if_neg (by omega)]
   omega
structure Pln (l:List (Int × Int)):Prop where
 asc:l.Pairwise λa b=>a.1<b.1
 pos:∀ p∈l,0<=p.1
 nz:∀ p∈l,p.2≠0
theorem WG:Pln []:=⟨.nil,by simp,by simp⟩
theorem Pln.tail{p:Int × Int}{r:List (Int × Int)}(h:Pln (p::r)):Pln r:=⟨(Aqz.1 h.asc).2,λq hq=>h.pos q (ApW _ hq),λq hq=>h.nz q (ApW _ hq)⟩
theorem Pln.head{p:Int × Int}{r:List (Int × Int)}(h:Pln (p::r)):A6 p.1 (p::r)=p.2:=by
 rw[A6,if_pos rfl,GC λq hq=>by have:=(Aqz.1 h.asc).1 q hq;omega];omega
theorem Pln.below{p:Int × Int}{r:List (Int × Int)}(h:Pln (p::r)){v:Int}(hv:v<p.1):A6 v (p::r)=0:=by
 refine GC λq hq=>?_
 rcases ApN.1 hq with rfl|hq
 .omega
 .have:=(Aqz.1 h.asc).1 q hq
  omega
theorem Pln.ext:∀{a b:List (Int × Int)},Pln a->Pln b->(∀ v,A6 v a=A6 v b)->a=b
 |[],[],_,_,_=>rfl
 |[],q::s,_,hb,h=>by
  have h1:=hb.head;rw[←h q.1]at h1;exact absurd h1.symm (hb.nz q (ApV ..))
 |p::r,[],ha,_,h=>by
  have h1:=ha.head;rw[h p.1]at h1;exact absurd h1.symm (ha.nz p (ApV ..))
 |p::r,q::s,ha,hb,h=>by
  have h1:=ha.head;have h2:=hb.head;have n1:=ha.nz p (ApV ..);have n2:=hb.nz q (ApV ..);have e:p.1=q.1:=by
   rcases Int.lt_trichotomy p.1 q.1 with h3|h3|h3
   .rw[h p.1,hb.below h3]at h1
    exact absurd h1.symm n1
   .exact h3
   .rw[←h q.1,ha.below h3]at h2
    exact absurd h2.symm n2
  have e2:p.2=q.2:=by rw[←h1,←h2,h p.1,e]
  have ep:p=q:=Prod.ext e e2;rw[ep,Pln.ext ha.tail hb.tail λv=>by
   have:=h v;rw[A6,A6,ep]at this;omega]
def Hv(v c:Int):List (Int × Int)->List (Int × Int)
 |[]=>if c=0 then [] else [(v,c)]
 |p::r=>if v<p.1 then(if c=0 then p::r else(v,c)::p::r) else if p.1<v then p::Hv v c r else if p.2+c=0 then r else(v,p.2+c)::r
theorem Lm(v c u:Int):∀ l:List (Int × Int),A6 u (Hv v c l)=(if v=u then c else 0)+A6 u l
 |[]=>by
  unfold Hv;split
  .rename_i h;simp[A6,h]
  .simp[A6]
 |p::r=>by
  have ih:=Lm v c u r;unfold Hv;split
  .split
   .rename_i h;rw[h];simp
   .rfl
  .split
   .rw[A6,ih,A6];omega
   .have e:p.1=v:=by omega
    split
    .rename_i h
     rw[A6,e];split<;>omega
    .rw[A6,A6,e]
     split<;>omega
theorem SN{v c:Int}:∀{l:List (Int × Int)} {q:Int × Int},q∈Hv v c l->q.1=v\/q∈l
 |[],q,h=>by
  unfold Hv at h;split at h
  .exact .inr h
  .rw[Aqe.1 h];exact .inl rfl
 |p::r,q,h=>by
  unfold Hv at h;split at h
  .split at h
   .exact .inr h
   .rcases ApN.1 h with h|h
    .rw[h];exact .inl rfl
    .exact .inr h
  .split at h
   .rcases ApN.1 h with h|h
    .rw[h];exact .inr (ApV ..)
    .rcases SN h with h|h
     .exact .inl h
     .exact .inr (ApW _ h)
   .split at h
    .exact .inr (ApW _ h)
    .rcases ApN.1 h with h|h
     .rw[h];exact .inl rfl
     .exact .inr (ApW _ h)
theorem SO{v c:Int}(hv:0<=v):∀{l:List (Int × Int)},Pln l->Pln (Hv v c l)
 |[],_=>by
  unfold Hv;split
  .exact WG
  .rename_i h
   exact⟨Asd _ _,by simpa using hv,by simpa using h⟩
 |p::r,h=>by
  have ih:=SO (c:=c) hv h.tail;have hp:=Aqz.1 h.asc;unfold Hv;split
  .rename_i h1
   split
   .exact h
   .rename_i h2
    refine⟨Aqz.2 ⟨λq hq=>?_,h.asc⟩,λq hq=>?_,λq hq=>?_⟩
    .rcases ApN.1 hq with rfl|hq
     .exact h1
     .have:=hp.1 q hq;simp only;omega
    .rcases ApN.1 hq with rfl|hq
     .exact hv
     .exact h.pos q hq
    .rcases ApN.1 hq with rfl|hq
     .exact h2
     .exact h.nz q hq
  .split
   .rename_i h1 h2
    refine⟨Aqz.2 ⟨λq hq=>?_,ih.asc⟩,λq hq=>?_,λq hq=>?_⟩
    .rcases SN hq with e|hq
     .rw[e];exact h2
     .exact hp.1 q hq
    .rcases ApN.1 hq with rfl|hq
     .exact h.pos _ (ApV ..)
     .exact ih.pos q hq
    .rcases ApN.1 hq with rfl|hq
     .exact h.nz _ (ApV ..)
     .exact ih.nz q hq
   .rename_i h1 h2
    split
    .exact h.tail
    .rename_i h3
     refine⟨Aqz.2 ⟨λq hq=>?_,hp.2⟩,λq hq=>?_,λq hq=>?_⟩
     .have:=hp.1 q hq;simp only;omega
     .rcases ApN.1 hq with rfl|hq
      .exact hv
      .exact h.tail.pos q hq
     .rcases ApN.1 hq with rfl|hq
      .exact h3
      .exact h.tail.nz q hq
def D4:List (Int × Int)->List (Int × Int)
 |[]=>[]
 |p::r=>if 0<=p.1 then Hv p.1 p.2 (D4 r) else D4 r
theorem EV:∀ l:List (Int × Int),Pln (D4 l)
 |[]=>WG
 |p::r=>by
  unfold D4;split
  .rename_i h;exact SO h (EV r)
  .exact EV r
theorem Jy(v:Int):∀ l:List (Int × Int),A6 v (D4 l)=if 0<=v then A6 v l else 0
 |[]=>by simp[D4,A6]
 |p::r=>by
  have ih:=Jy v r;unfold D4
  by_cases h:0<=p.1
  .by_cases hv:0<=v
   .rw[if_pos h,Lm,ih,A6,if_pos hv,if_pos hv]
   .rw[if_pos h,Lm,ih,if_neg hv,if_neg hv,if_neg (by omega)]
    rfl
  .by_cases hv:0<=v
   .rw[if_neg h,ih,A6,if_pos hv,if_pos hv,if_neg (show ¬ p.1=v by omega)]
    omega
   .rw[if_neg h,ih,if_neg hv,if_neg hv]
theorem Th{l r:List (Int × Int)}(h:Pln r)(hc:∀ v,0<=v->A6 v r=A6 v l):r=D4 l:=by
 refine Pln.ext h (EV l) λv=>?_
 rw[Jy]
 by_cases hv:0<=v
 .rw[if_pos hv,hc v hv]
 .rw[if_neg hv]
  refine GC λp hp e=>?_
  have:=h.pos p hp;omega
theorem Vm{l:List (Int × Int)}(h:Pln l):D4 l=l:=(Th h λ_ _=>rfl).symm
theorem P7:∀ l:List (Int × Int),(D4 l).length<=l.length
 |[]=>ApA _
 |p::r=>by
  have ih:=P7 r;have ins:∀ l:List (Int × Int),(Hv p.1 p.2 l).length<=l.length+1:=λl=>by
   induction l with
   |nil=>unfold Hv;split<;>simp
   |cons q s ih=>
    unfold Hv;split
    .split<;>simp
    .split
     .simpa using ih
     .split
      .simp;omega
      .simp
  unfold D4;split
  .have:=ins (D4 r)
   rw[ApI];omega
  .rw[ApI]
   omega
section
variable {α:Type} (key:α->Int)
def kf(l:List α)(p:Nat):Int:=match l[p]? with
 |some x=>key x
 |none=>0
theorem FV{l:List α}{p:Nat}(h:p<l.length):kf key l p=key l[p]:=by
 unfold kf;rw[Apy h]
def Dh(l:List α)(i j:Nat):List α:=match l[i]?,l[j]? with
 |some x,some y=>(l.set i y).set j x
 |_,_=>l
theorem DY{l:List α}{i j:Nat}(hi:i<l.length)(hj:j<l.length):Dh l i j=(l.set i l[j]).set j l[i]:=by
 unfold Dh;rw[Apy hi,Apy hj]
theorem IL(l:List α)(i j:Nat):(Dh l i j).length=l.length:=by
 unfold Dh;split<;>simp
theorem V3{l:List α}{i j:Nat}(hi:i<l.length)(hj:j<l.length)(p:Nat):kf key (Dh l i j) p=if p=j then kf key l i else if p=i then kf key l j else kf key l p:=by
 rw[DY hi hj];unfold kf
 by_cases h1:p=j
 .subst h1
  rw[if_pos rfl,AqL (by simpa using hj),Apy hi]
 .rw[if_neg h1,AqD (λe=>h1 e.symm)]
  by_cases h2:p=i
  .subst h2
   rw[if_pos rfl,AqL hi,Apy hj]
  .rw[if_neg h2,AqD (λe=>h2 e.symm)]
theorem G0(l:List α)(i j:Nat):(Dh l i j).Perm l:=by
 by_cases hi:i<l.length
 .by_cases hj:j<l.length
  .rw[DY hi hj]
   have:=Array.swap_perm (xs:=l.toArray) (i:=i) (j:=j) (by simpa using hi) (by simpa using hj);have h2:=this.toList;simpa[Array.swap]using h2
  .unfold Dh
   rw[Aqr (show l.length<=j by omega)];split
   .rename_i h;cases h
   .exact List.Perm.refl _
 .unfold Dh
  rw[Aqr (show l.length<=i by omega)]
theorem YK{l:List α}{i j p:Nat}(h1:p≠i)(h2:p≠j):(Dh l i j)[p]? = l[p]?:=by
 unfold Dh;split
 .rw[AqD (λe=>h2 e.symm),AqD (λe=>h1 e.symm)]
 .rfl
def Srt(l:List α)(a b:Nat):Prop:=∀ p q,a<=p->p<q->q<b->kf key l p<=kf key l q
def Xb(l:List α)(a i j:Nat):Prop:=∀ p q,a<=p->p<q->q<=i->q≠j->kf key l p<=kf key l q
def Same0(l r:List α)(a b:Nat):Prop:=∀ p,(p<a\/b<=p)->r[p]? = l[p]?
theorem De(l:List α)(a b:Nat):Same0 l l a b:=λ_ _=>rfl
theorem Same0.trans{l r s:List α}{a b:Nat}(h1:Same0 l r a b)(h2:Same0 r s a b):Same0 l s a b:=λp hp=>(h2 p hp).trans (h1 p hp)
theorem Same0.wide{l r:List α}{a b c d:Nat}(h1:Same0 l r a b)(hc:c<=a)(hd:b<=d):Same0 l r c d:=λp hp=>h1 p (by omega)
theorem Same0.kf{l r:List α}{a b p:Nat}(h:Same0 l r a b)(hp:p<a\/b<=p):kf key r p=kf key l p:=by
 unfold Go.Proofs.YtlmhajfbpplpoaaGreat.kf;rw[h p hp]
theorem YL{l:List α}{i j a b:Nat}(h1:a<=i)(h2:i<b)(h3:a<=j)(h4:j<b):Same0 l (Dh l i j) a b:=λp hp=>YK (by omega) (by omega)
theorem YI{l:List α}{a i j:Nat}(hi:i<l.length)(ha:a<j)(hj:j<=i)(h:Xb key l a i j)(hlt:kf key l j<kf key l (j-1)):Xb key (Dh l j (j-1)) a i (j-1):=by
 intro p q h1 h2 h3 h4;rw[V3 key (by omega) (by omega),V3 key (by omega) (by omega)]
 by_cases q1:q=j
 .subst q1
  rw[if_neg (show ¬ q=q-1 by omega),if_pos rfl]
  by_cases p1:p=q-1
  .rw[if_pos p1];omega
  .rw[if_neg p1,if_neg (by omega)]
   exact h p (q-1) h1 (by omega) (by omega) (by omega)
 .rw[if_neg h4,if_neg q1]
  by_cases p1:p=j-1
  .rw[if_pos p1]
   exact h j q (by omega) (by omega) h3 q1
  .rw[if_neg p1]
   by_cases p2:p=j
   .rw[if_pos p2]
    exact h (j-1) q (by omega) (by omega) h3 q1
   .rw[if_neg p2]
    exact h p q h1 h2 h3 q1
theorem TD{l:List α}{a i j:Nat}(hj:j<=i)(h:Xb key l a i j)(he:j=a\/kf key l (j-1)<=kf key l j):Srt key l a (i+1):=by
 intro p q h1 h2 h3
 by_cases hq:q=j
 .subst hq
  rcases he with he|he
  .omega
  .by_cases hp:p=q-1
   .rw[hp];exact he
   .have:=h p (q-1) h1 (by omega) (by omega) (by omega)
    omega
 .exact h p q h1 h2 (by omega) hq
theorem VA{l:List α}{a i:Nat}(h:Srt key l a i):Xb key l a i i:=λp q h1 h2 h3 h4=>h p q h1 h2 (by omega)
theorem RA{l:List α}(h:Srt key l 0 l.length):l.Pairwise λx y=>key x<=key y:=by
 rw[List.pairwise_iff_getElem];intro i j hi hj hij;have:=h i j (by omega) hij hj
 rwa [FV key hi,FV key hj]at this
theorem Afy(l:List α)(a:Nat):Srt key l a (a+1):=λp q h1 h2 h3=>by omega
theorem Afx(l:List α)(a:Nat):Srt key l a a:=λp q h1 h2 h3=>by omega
end
structure Pt where
 v:Int
 z:Zi
def eP(p:Pt):List AV:=[iv p.v,bv p.z.neg,eN p.z.abs]
theorem AK(p:Pt):(eP p).length=3:=rfl
section
variable {α:Type} {e:α->List AV} {w:Nat} (he:∀ x,(e x).length=w)
include he
theorem WQ(l:List α):∀(i:Nat) (h:i<l.length),(Aw e l).drop (i*w)=e l[i]++(Aw e l).drop (i*w+w):=by
 induction l with
 |nil=>intro i h;cases h
 |cons x r ih=>
  intro i h;have hx:=he x
  cases i with
  |zero=>
   rw[Nat.zero_mul,ApD,ApX]
   show e x++Aw e r=e x++(e x++Aw e r).drop w
   rw[←hx,List.drop_left]
  |succ i=>
   have:=ih i (by simpa using h);have e1:∀ n,(Aw e (x::r)).drop (w+n)=(Aw e r).drop n:=λn=>by
    show (e x++Aw e r).drop (w+n)=_
    rw[←hx,Ar2];simp
   rw[show (i+1)*w=w+i*w by rw[Aqq];omega,e1,this,show w+i*w+w=w+(i*w+w) by omega,e1];rfl
theorem By(l:List α)(i:Nat)(h:i<l.length)(k:List AV->KR):IG (Aw e l) (0+i*w) w k=k (e l[i]):=by
 have hw:i*w+w<=l.length*w:=by
  rw[←Nat.succ_mul];exact Nat.mul_le_mul_right w h
 unfold IG;have:ApM (0+i*w+w) (Aw e l).length=true:=by rw[BB he];simp;omega
 rw[this]
 show k (((Aw e l).drop (0+i*w)).take w)=_
 rw[ApX,WQ he l i h,List.take_left' (he _)]
theorem CV(l:List α)(i:Nat)(h:i<l.length)(x:α):Ba (Aw e l) (0+i*w) (e x)=Aw e (l.set i x):=by
 unfold Ba;rw[he x,ApX];have e1:=WQ he l i h;have e2:∀(l:List α) (i:Nat),i<=l.length->(Aw e l).take (i*w)=Aw e (l.take i):=λl=>by
  induction l with
  |nil=>intro i _;simp[Aw]
  |cons y r ih=>
   intro i hi
   cases i with
   |zero=>simp[Aw]
   |succ i=>
    rw[show (i+1)*w=w+i*w by rw[Aqq];omega]
    show (e y++Aw e r).take (w+i*w)=e y++Aw e (r.take i)
    rw[←he y,List.take_append,List.take_of_length_le (by omega),show (e y).length+i*(e y).length-(e y).length=i*(e y).length by omega,he y,ih i (by simpa using hi)]
 have e3:∀(l:List α) (i:Nat),i<=l.length->(Aw e l).drop (i*w)=Aw e (l.drop i):=λl=>by
  induction l with
  |nil=>intro i _;simp[Aw]
  |cons y r ih=>
   intro i hi
   cases i with
   |zero=>simp[Aw]
   |succ i=>
    rw[show (i+1)*w=w+i*w by rw[Aqq];omega]
    show (e y++Aw e r).drop (w+i*w)=Aw e (r.drop i)
    rw[←he y,Ar2,List.drop_of_length_le (by omega),show (e y).length+i*(e y).length-(e y).length=i*(e y).length by omega,he y,ih i (by simpa using hi),Ap4]
 rw[e2 l i (by omega),show i*w+w=(i+1)*w by rw[Aqq];omega,e3 l (i+1) (by omega),Ard,if_pos h];simp[Aw]
end
theorem Fx{a b:Int}:FR a b<0 ↔ a<b:=by
 unfold FR;split
 .omega
 .split<;>omega
theorem TE{j:Nat}(h:j<4611686018427387904):Aj.sub .i64 ((j+1:Nat):Int) 1=(j:Int):=by
 rw[Gk (by omega) (by omega)];omega
theorem Bb{a b:Nat}(h:a<b):Nat.blt a b=true:=by simpa using h
section
variable {D:Orc} (K:Knows Al Fk D)
include K
theorem SP(x:Int):D.ask (.fn 207) [iv x] []=some (bv false,[]):=by
 refine K.fn' AgX _ rfl ((AnV ..).trans ?_);exact AF rfl rfl
theorem QV(x y:Int):D.ask (.fn 154) [iv x,iv y] []=some (iv (FR x y),[]):=by
 refine K.fn' AgG _ rfl ((Ant ..).trans ?_);refine Ab (SP K x)?_;simp only[ND,Aa];refine Ab (SP K y)?_;simp only[ND,Aa];unfold FR
 by_cases h:x<y
 .rw[if_pos h]
  exact Ao h rfl
 .rw[if_neg h]
  refine ltF_go h ?_
  by_cases h2:y<x
  .rw[if_pos h2]
   exact Ao h2 rfl
  .rw[if_neg h2]
   exact ltF_go h2 rfl
theorem Ho(p q:Pt):D.ask (.fn 153) [.agg (eP p),.agg (eP q)] []=some (iv (FR p.v q.v),[]):=by
 refine K.fn' AgF _ rfl ((Ans ..).trans ?_);refine Ab (QV K p.v q.v)?_;rfl
def FC:AV:=.fn (.func 153) [] []
theorem Ajp(a i:Nat)(b:Int):∀(m j:Nat) (l:List Pt),j-a=m->a<=j->j<=i->i<l.length->l.length<=1000000000->Xb Pt.v l a i j->
  ∃ r:List Pt,D.ask (.lp 242 1) [.sl 0 0 l.length 3,iv (a:Int),iv b,FC,iv (i:Int),iv (j:Int)] [ABlk.mk (Aw eP l) true true]
   = some (.tup [iv 2,.sl 0 0 l.length 3,iv (a:Int),iv b,FC,iv (i:Int)],[.set (ABlk.mk (Aw eP r) true true)])
   ∧ r.length=l.length/\r.Perm l/\Srt Pt.v r a (i+1)/\Same0 l r a (i+1):=by
 intro m
 induction m with
 |zero=>
  intro j l hm ha hj hi hl hs;obtain rfl:j=a:=by omega
  refine⟨l,?_,rfl,List.Perm.refl _,TD Pt.v hj hs (.inl rfl),De _ _ _⟩;refine K.lp' Ht _ rfl (by kernel_rfl) ((Uz ..).trans ?_);exact ltF_go (by omega)rfl
 |succ m ih=>
  intro j l hm ha hj hi hl hs;obtain⟨k,rfl⟩:∃ k,j=k+1:=⟨j-1,by omega⟩;have h1:k+1<l.length:=by omega
  have h0:k<l.length:=by omega
  have kf1:kf Pt.v l (k+1)=l[k+1].v:=FV Pt.v h1;have kf0:kf Pt.v l k=l[k].v:=FV Pt.v h0
  by_cases hlt:l[k+1].v<l[k].v
  .have hs2:Xb Pt.v (Dh l (k+1) k) a i k:=YI (j:=k+1) Pt.v hi (by omega) hj hs (by rw[ArO,kf1,kf0];exact hlt)
   have hlen:=IL l (k+1) k;obtain⟨r,g,hr,hp,ho,hsm⟩:=ih k (Dh l (k+1) k) (by omega) (by omega) (by omega) (by omega) (by omega) hs2;rw[hlen]at g hr;refine⟨r,?_,hr,hp.trans (G0 _ _ _),ho,(YL (by omega) (by omega) (by omega) (by omega)).trans hsm⟩;refine K.lp' Ht _ rfl (by kernel_rfl) ((Uz ..).trans ?_);refine Ao (by omega)?_;rw[TE (by omega),AG,Bb h1];refine Ag ?_;refine(By AK l (k+1) h1 _).trans ?_;simp only[eP,eN,ND,Aa];rw[AG,Bb h0];refine Ag ?_;refine(By AK l k h0 _).trans ?_;simp only[eP,eN,ND,Aa];refine Ab (Ho K l[k+1] l[k])?_;simp only[ND,Aa];refine Ao (Fx.2 hlt)?_;rw[AG,Bb h0];refine Ag ?_;refine(By AK l k h0 _).trans ?_;simp only[eP,eN,ND,Aa];rw[AG,Bb h1];refine Ag ?_;refine(By AK l (k+1) h1 _).trans ?_;simp only[eP,eN,ND,Aa];rw[AG,Bb h1];refine Ag ?_;have s1:=CV AK l (k+1) h1 l[k];have s2:=CV AK (l.set (k+1) l[k]) k (by rw[Aqa];exact h0) l[k+1];rw[←DY h1 h0]at s2;simp only[eP,eN]at s1 s2;rw[show ApM (0+(k+1)*3+3) (Aw eP l).length=true by rw[BB AK];simp;omega];refine Ag ?_;rw[AG,Bb h0];refine Ag ?_;rw[s1,s2];rw[show ApM (0+k*3+3) (Aw eP (l.set (k+1) l[k])).length=true by rw[BB AK,Aqa];simp;omega];refine Ag ?_;refine Ab g ?_;rfl
  .refine⟨l,?_,rfl,List.Perm.refl _,TD Pt.v hj hs (.inr ?_),De _ _ _⟩
   .skip
    refine K.lp' Ht _ rfl (by kernel_rfl) ((Uz ..).trans ?_);refine Ao (by omega)?_;rw[TE (by omega),AG,Bb h1];refine Ag ?_;refine(By AK l (k+1) h1 _).trans ?_;simp only[eP,eN,ND,Aa];rw[AG,Bb h0];refine Ag ?_;refine(By AK l k h0 _).trans ?_;simp only[eP,eN,ND,Aa];refine Ab (Ho K l[k+1] l[k])?_;simp only[ND,Aa];exact ltF_go (λh=>hlt (Fx.1 h))rfl
   .rw[ArO,kf1,kf0]
    omega
theorem Aei(a b:Nat):∀(m i:Nat) (l:List Pt),b-i=m->a<i->i<=b->b<=l.length->l.length<=1000000000->Srt Pt.v l a i->
  ∃ r:List Pt,D.ask (.lp 242 0) [.sl 0 0 l.length 3,iv (a:Int),iv (b:Int),FC,iv (i:Int)] [ABlk.mk (Aw eP l) true true]
   = some (.tup [iv 0,.sl 0 0 l.length 3],[.set (ABlk.mk (Aw eP r) true true)])
   ∧ r.length=l.length/\r.Perm l/\Srt Pt.v r a b/\Same0 l r a b:=by
 intro m
 induction m with
 |zero=>
  intro i l hm ha hi hb hl hs;obtain rfl:i=b:=by omega
  refine⟨l,?_,rfl,List.Perm.refl _,hs,De _ _ _⟩;refine K.lp' Ht _ rfl (by kernel_rfl) ((Uy ..).trans ?_);exact ltF_go (by omega)rfl
 |succ m ih=>
  intro i l hm ha hi hb hl hs;obtain⟨r,g,hr,hp,ho,hsm⟩:=Ajp K a i (b:Int) _ i l rfl (by omega) (ApA _) (by omega) hl (VA Pt.v hs);obtain⟨r2,g2,hr2,hp2,ho2,hsm2⟩:=ih (i+1) r (by omega) (by omega) (by omega) (by omega) (by omega) ho;rw[hr]at g2;refine⟨r2,?_,by omega,hp2.trans hp,ho2,(hsm.wide (ApA _) (by omega)).trans hsm2⟩;refine K.lp' Ht _ rfl (by kernel_rfl) ((Uy ..).trans ?_);refine Ao (by omega)?_;refine Ab g ?_;simp only[FC,ND,Aa];refine Ag ?_;rw[Bh (by omega)];refine Ab g2 ?_;rfl
theorem Aa1{a b:Nat}{l:List Pt}(hab:a<=b)(hb:b<=l.length)(hl:l.length<=1000000000) :
  ∃ r:List Pt,D.ask (.fn 242) [.sl 0 0 l.length 3,iv (a:Int),iv (b:Int),FC] [ABlk.mk (Aw eP l) true true]=some (.tup [],[.set (ABlk.mk (Aw eP r) true true)])
   ∧ r.length=l.length/\r.Perm l/\Srt Pt.v r a b/\Same0 l r a b:=by
 by_cases h:a<b
 .obtain⟨r,g,hr⟩:=Aei K a b _ (a+1) l rfl (by omega) (by omega) hb hl (Afy Pt.v l a)
  refine⟨r,?_,hr⟩;refine K.fn' Ht _ rfl ((AkP ..).trans ?_);rw[Bh (by omega)];refine Ab g ?_;rfl
 .obtain rfl:a=b:=by omega
  have g:D.ask (.lp 242 0) [.sl 0 0 l.length 3,iv (a:Int),iv (a:Int),FC,iv ((a+1:Nat):Int)] [ABlk.mk (Aw eP l) true true]=some (.tup [iv 0,.sl 0 0 l.length 3],[.set (ABlk.mk (Aw eP l) true true)]):=by
   refine K.lp' Ht _ rfl (by kernel_rfl) ((Uy ..).trans ?_);exact ltF_go (by omega)rfl
  refine⟨l,?_,rfl,List.Perm.refl _,Afx Pt.v l a,De _ _ _⟩;refine K.fn' Ht _ rfl ((AkP ..).trans ?_);rw[Bh (by omega)];refine Ab g ?_;rfl
end
structure Tm where
 ps:List Pt
 k:Zi
def eT(t:Tm):List AV:=[.ls (t.ps.map eP),bv t.k.neg,eN t.k.abs]
structure Lf where
 ps:List (Int × Int)
 k:Int
def pv(p:Pt):Int × Int:=(p.v,zv p.z)
def Bm(p:Int × Int):Pt:=⟨p.1,AO p.2⟩
def Tm.lf(t:Tm):Lf:=⟨t.ps.map pv,zv t.k⟩
def Lf.tm(l:Lf):Tm:=⟨l.ps.map Bm,AO l.k⟩
def Lf.pln(l:Lf):Lf:=⟨D4 l.ps,l.k⟩
theorem Ae9(p:Int × Int):pv (Bm p)=p:=by
 unfold pv Bm;rw[AJ]
theorem DZ(l:Lf):l.tm.lf=l:=by
 obtain⟨ps,k⟩:=l;unfold Lf.tm Tm.lf;simp only[List.map_map,AJ];rw[show (pv ∘ Bm)=id from funext Ae9,List.map_id]
theorem Ae8(l:Lf):l.pln.pln=l.pln:=by
 unfold Lf.pln;rw[Vm (EV _)]
structure TmB (n k:Nat) (t:Tm):Prop where
 len:t.ps.length<=n
 ps:∀ p∈t.ps,Lz k p.z
 k:Lz k t.k
structure LB (n k:Nat) (l:Lf):Prop where
 len:l.ps.length<=n
 ps:∀ p∈l.ps,InB k p.2
 k:InB k l.k
theorem TmB.lb{n k:Nat}{t:Tm}(h:TmB n k t):LB n k t.lf:=by
 refine⟨by simpa[Tm.lf]using h.len,λp hp=>?_,h.k.inb⟩;simp only[Tm.lf,AqS]at hp;obtain⟨q,hq,rfl⟩:=hp;exact(h.ps q hq).inb
theorem LB.tb{n k:Nat}{l:Lf}(h:LB n k l):TmB n k l.tm:=by
 refine⟨by simpa[Lf.tm]using h.len,λp hp=>?_,h.k.lz⟩;simp only[Lf.tm,AqS]at hp;obtain⟨q,hq,rfl⟩:=hp;exact(h.ps q hq).lz
theorem LB.mono{n k m j:Nat}{l:Lf}(h:LB n k l)(hn:n<=m)(hk:k<=j):LB m j l:=⟨by have:=h.len;omega,λp hp=>(h.ps p hp).mono hk,h.k.mono hk⟩
theorem TmB.mono{n k m j:Nat}{t:Tm}(h:TmB n k t)(hn:n<=m)(hk:k<=j):TmB m j t:=⟨by have:=h.len;omega,λp hp=>(h.ps p hp).mono hk,h.k.mono hk⟩
theorem Iu{k:Nat}(v:Int):∀ l:List (Int × Int),(∀ p∈l,InB k p.2)->InB (k+l.length) (A6 v l)
 |[],_=>InB.zero _
 |p::r,h=>by
  have h1:=Iu v r λq hq=>h q (ApW _ hq)
  have h2:=h p (ApV ..);rw[A6,ApI,←Nat.add_assoc];refine InB.add ?_ h1;split
  .exact h2.mono (by omega)
  .exact InB.zero _
theorem Pln.mem:∀{l:List (Int × Int)},Pln l->∀ p∈l,A6 p.1 l=p.2
 |q::r,h,p,hp=>by
  rcases ApN.1 hp with rfl|hp
  .exact h.head
  .rw[A6,if_neg (by have:=(Aqz.1 h.asc).1 p hp;omega),h.tail.mem p hp]
   omega
theorem LB.pln{n k:Nat}{l:Lf}(h:LB n k l):LB n (k+n) l.pln:=by
 have hl:=P7 l.ps;refine⟨by have:=h.len;simp only[Lf.pln];omega,λp hp=>?_,h.k.mono (by omega)⟩;have h1:=(EV l.ps).mem p hp;rw[Jy,if_pos ((EV l.ps).pos p hp)]at h1;rw[←h1];exact(Iu p.1 l.ps h.ps).mono (by have:=h.len;omega)
def Lf.add(a b:Lf):Lf:=Lf.pln ⟨a.ps++b.ps,a.k+b.k⟩
def Lf.scale(a:Lf)(n:Int):Lf:=Lf.pln ⟨a.ps.map λp=>(p.1,p.2*n),a.k*n⟩
def Lf.sub(a b:Lf):Lf:=a.add (b.scale (-1))
def Lf.num(k:Int):Lf:=⟨[],k⟩
theorem LB.app{n k m j:Nat}{a b:Lf}(ha:LB n k a)(hb:LB m j b):LB (n+m) (k+j+1) ⟨a.ps++b.ps,a.k+b.k⟩:=by
 refine⟨by have:=ha.len;have:=hb.len;simp only[ApH];omega,λp hp=>?_,InB.add (ha.k.mono (by omega)) (hb.k.mono (by omega))⟩;rcases Aqb.1 hp with h|h
 .exact(ha.ps p h).mono (by omega)
 .exact(hb.ps p h).mono (by omega)
theorem LB.mul{n k j:Nat}{a:Lf}{x:Int}(ha:LB n k a)(hx:InB j x):LB n (k+j) ⟨a.ps.map λp=>(p.1,p.2*x),a.k*x⟩:=by
 refine⟨by simpa using ha.len,λp hp=>?_,InB.mul ha.k hx⟩;simp only[AqS]at hp;obtain⟨q,hq,rfl⟩:=hp;exact InB.mul (ha.ps q hq) hx
theorem LB.add{n k m j:Nat}{a b:Lf}(ha:LB n k a)(hb:LB m j b):LB (n+m) (k+j+1+(n+m)) (a.add b):=(ha.app hb).pln
theorem LB.scale{n k j:Nat}{a:Lf}{x:Int}(ha:LB n k a)(hx:InB j x):LB n (k+j+n) (a.scale x):=(ha.mul hx).pln
def DX(f:Int->Int):List (Int × Int)->Int
 |[]=>0
 |p::r=>p.2*f p.1+DX f r
def Lf.val(f:Int->Int)(l:Lf):Int:=DX f l.ps+l.k
theorem OE(f:Int->Int):∀ a b,DX f (a++b)=DX f a+DX f b
 |[],b=>by simp[DX]
 |p::r,b=>by rw[AqX,DX,DX,OE f r b];omega
theorem OF(f:Int->Int)(n:Int):∀ a:List (Int × Int),DX f (a.map λp=>(p.1,p.2*n))=DX f a*n
 |[]=>by simp[DX]
 |p::r=>by
  rw[Ap2,DX,DX,OF f n r,Asf,AsU,AsU,Int.mul_comm n]
theorem Qh(f:Int->Int)(v c:Int):∀ l,DX f (Hv v c l)=c*f v+DX f l
 |[]=>by
  unfold Hv;split
  .rename_i h;simp[DX,h]
  .simp[DX]
 |p::r=>by
  have ih:=Qh f v c r;unfold Hv;split
  .split
   .rename_i h;rw[h];simp
   .rfl
  .split
   .rw[DX,ih,DX];omega
   .have e:p.1=v:=by omega
    split
    .rename_i h
     rw[DX,e,←Int.add_assoc,←Asf,Int.add_comm c,h];simp
    .show (p.2+c)*f v+DX f r=c*f v+(p.2*f p.1+DX f r)
     rw[e,Asf];omega
theorem TI{f:Int->Int}(hf:∀ v,v<0->f v=0):∀ l,DX f (D4 l)=DX f l
 |[]=>rfl
 |p::r=>by
  have ih:=TI hf r;unfold D4;split
  .rw[Qh,ih,DX]
  .rename_i h
   rw[ih,DX,hf p.1 (by omega)];simp
theorem RL{f:Int->Int}(hf:∀ v,v<0->f v=0)(l:Lf):l.pln.val f=l.val f:=by
 unfold Lf.pln Lf.val;rw[TI hf]
theorem AfM{f:Int->Int}(hf:∀ v,v<0->f v=0)(a b:Lf):(a.add b).val f=a.val f+b.val f:=by
 unfold Lf.add;rw[RL hf];unfold Lf.val;simp only[OE];omega
theorem YZ{f:Int->Int}(hf:∀ v,v<0->f v=0)(a:Lf)(n:Int):(a.scale n).val f=a.val f*n:=by
 unfold Lf.scale;rw[RL hf];unfold Lf.val;simp only[OF,Asf]
theorem M7{f:Int->Int}(hf:∀ v,v<0->f v=0)(a b:Lf):(a.sub b).val f=a.val f-b.val f:=by
 unfold Lf.sub;rw[AfM hf,YZ hf];omega
def CW(vals:List Int)(v:Int):Int:=if v<0 then 0 else vals.getD v.toNat 0
theorem TV(vals:List Int)(v:Int)(h:v<0):CW vals v=0:=if_pos h
inductive Fm where
 |mk (kind:Int) (t:Tm) (eq:Bool) (kids:List Fm)
mutual
def eF:Fm->List AV
 |.mk k t e ks=>[iv k,.ls (t.ps.map eP),bv t.k.neg,eN t.k.abs,bv e,.ls (Jb ks)]
def Jb:List Fm->List (List AV)
 |[]=>[]
 |x::r=>eF x::Jb r
end
theorem C8:∀ l,Jb l=l.map eF
 |[]=>rfl
 |x::r=>by simp[Jb,C8 r]
def Fm.kind:Fm->Int
 |.mk k _ _ _=>k
def Fm.tm:Fm->Tm
 |.mk _ t _ _=>t
def Fm.eq:Fm->Bool
 |.mk _ _ e _=>e
def Fm.kids:Fm->List Fm
 |.mk _ _ _ ks=>ks
def Y8:Tm:=⟨[],⟨false,[]⟩⟩
def OX:Lf:=⟨[],0⟩
theorem U5:OX.tm=Y8:=by
 unfold Lf.tm OX Y8;rw[LS];rfl
def kF(k:Int)(ks:List Fm):Fm:=.mk k Y8 false ks
def MN(b:Bool):Fm:=kF (if b then 0 else 1) []
def D3(l:Lf)(e:Bool):Fm:=.mk 2 l.tm e []
def I2:Fm->List Fm
 |.mk k _ _ ks=>if k=4\/k=5 then ks else if k=3 then ks.take 1 else []
mutual
def BV:Fm->Fm
 |.mk k t e ks=>if k=0 then MN true else if k=2 then D3 t.lf.pln e else if k=3 then kF 3 (MU ks) else if k=4\/k=5 then kF k (Ir ks) else MN false
def MU:List Fm->List Fm
 |[]=>[]
 |x::_=>[BV x]
def Ir:List Fm->List Fm
 |[]=>[]
 |x::r=>BV x::Ir r
end
theorem Hp:∀ l,Ir l=l.map BV
 |[]=>rfl
 |x::r=>by simp[Ir,Hp r]
theorem RZ:∀ l,MU l=(l.take 1).map BV
 |[]=>rfl
 |x::r=>by simp[MU]
def Vp(v:Int)(e:Bool):Bool:=decide (v=0)||(!e&&decide (0<v))
mutual
def Ds(f:Int->Int):Fm->Bool
 |.mk k t e ks=>if k=0 then true else if k=2 then Vp (t.lf.val f) e else if k=3 then NS f ks else if k=4 then GI f ks else if k=5 then GJ f ks else false
def NS(f:Int->Int):List Fm->Bool
 |[]=>false
 |x::_=>!Ds f x
def GI(f:Int->Int):List Fm->Bool
 |[]=>true
 |x::r=>Ds f x&&GI f r
def GJ(f:Int->Int):List Fm->Bool
 |[]=>false
 |x::r=>Ds f x||GJ f r
end
theorem Lh(f:Int->Int)(b:Bool):Ds f (MN b)=b:=by
 cases b<;>rfl
theorem Ec(f:Int->Int)(l:Lf)(e:Bool):Ds f (D3 l e)=Vp (l.val f) e:=by
 unfold D3;rw[Ds,if_neg (by decide),if_pos rfl,DZ]
def O5(op:Int)(l r:Lf):Fm:=
 if op=0 then D3 (l.sub r) true
 else if op=1 then kF 3 [D3 (l.sub r) true]
 else if op=2 then D3 ((r.sub l).sub (.num 1)) false
 else if op=3 then D3 (r.sub l) false
 else if op=4 then D3 ((l.sub r).sub (.num 1)) false
 else if op=5 then D3 (l.sub r) false
 else MN false
def VS(op a b:Int):Bool:=
 if op=0 then decide (a=b) else if op=1 then decide (a≠b) else if op=2 then decide (a<b) else if op=3 then decide (a<=b) else if op=4 then decide (b<a) else if op=5 then decide (b<=a) else false
theorem AfO(f:Int->Int)(k:Int):(Lf.num k).val f=k:=by
 show 0+k=k
 omega
theorem Gl(v:Int)(e:Bool):Vp v e=true ↔ v=0\/e=false/\0<v:=by
 unfold Vp
 cases e<;>simp
theorem XR{f:Int->Int}(hf:∀ v,v<0->f v=0)(op:Int)(l r:Lf):Ds f (O5 op l r)=VS op (l.val f) (r.val f):=by
 have e1:=M7 hf l r;have e2:=M7 hf r l;have e3:=M7 hf (r.sub l) (.num 1);have e4:=M7 hf (l.sub r) (.num 1);rw[AfO]at e3 e4;rw[Bool.eq_iff_iff];unfold O5 VS;split
 .rw[Ec,Gl,decide_eq_true_iff];simp;omega
 split
 .unfold kF
  rw[Ds,if_neg (by decide),if_neg (by decide),if_pos rfl,NS,Bool.not_eq_true',←Bool.not_eq_true,Ec,Gl,decide_eq_true_iff];simp;omega
 split
 .rw[Ec,Gl,decide_eq_true_iff];simp;omega
 split
 .rw[Ec,Gl,decide_eq_true_iff];simp;omega
 split
 .rw[Ec,Gl,decide_eq_true_iff];simp;omega
 split
 .rw[Ec,Gl,decide_eq_true_iff];simp;omega
 rw[Lh]
mutual
inductive CanF:Fm->Prop
 |tru (b:Bool):CanF (MN b)
 |atom (l:Lf) (e:Bool) (h:l.pln=l):CanF (D3 l e)
 |no (x:Fm) (h:CanF x):CanF (kF 3 [x])
 |and (l:List Fm) (h:CanFs l):CanF (kF 4 l)
 |or (l:List Fm) (h:CanFs l):CanF (kF 5 l)
 |no0:CanF (kF 3 [])
inductive CanFs:List Fm->Prop
 |nil:CanFs []
 |cons {x:Fm} {r:List Fm} (h:CanF x) (hr:CanFs r):CanFs (x::r)
end
mutual
theorem CanF.clone:∀{x:Fm},CanF x->BV x=x
 |_,.tru b=>by cases b<;>rfl
 |_,.atom l e h=>by
  unfold D3;rw[BV,if_neg (by decide),if_pos rfl,DZ,h];rfl
 |_,.no x h=>by
  unfold kF;rw[BV,if_neg (by decide),if_neg (by decide),if_pos rfl,MU,h.clone];rfl
 |_,.and l h=>by
  unfold kF;rw[BV,if_neg (by decide),if_neg (by decide),if_neg (by decide),if_pos (.inl rfl),h.clone];rfl
 |_,.or l h=>by
  unfold kF;rw[BV,if_neg (by decide),if_neg (by decide),if_neg (by decide),if_pos (.inr rfl),h.clone];rfl
 |_,.no0=>rfl
theorem CanFs.clone:∀{l:List Fm},CanFs l->Ir l=l
 |_,.nil=>rfl
 |_,.cons h hr=>by rw[Ir,h.clone,hr.clone]
end
theorem Dz(l r:Lf):(l.sub r).pln=l.sub r:=Ae8 _
theorem ZD(op:Int)(l r:Lf):CanF (O5 op l r):=by
 unfold O5
 repeat' split
 .exact .atom _ _ (Dz _ _)
 .exact .no _ (.atom _ _ (Dz _ _))
 .exact .atom _ _ (Dz _ _)
 .exact .atom _ _ (Dz _ _)
 .exact .atom _ _ (Dz _ _)
 .exact .atom _ _ (Dz _ _)
 .exact .tru _
def LU(a b:Int):Int:=if a=0 then b else a
theorem Og{a b:Int}:LU a b=0 ↔ a=0/\b=0:=by
 unfold LU;split<;>simp_all
theorem It{a b:Int}:FR a b=0 ↔ a=b:=by
 unfold FR;split
 .omega
 .split<;>omega
def Py(p q:Int × Int):Int:=LU (FR p.1 q.1) (FR p.2 q.2)
theorem Nt{p q:Int × Int}:Py p q=0 ↔ p=q:=by
 unfold Py;rw[Og,It,It,Prod.ext_iff]
def JU:List (Int × Int)->List (Int × Int)->Option Int
 |[],_=>none
 |_::_,[]=>some 1
 |p::a,q::b=>if Py p q=0 then JU a b else some (Py p q)
def R0(a b:List (Int × Int)):Int:=match JU a b with
 |some n=>n
 |none=>if a.length<b.length then -1 else 0
theorem VT:∀{a b:List (Int × Int)} {n:Int},JU a b=some n->n≠0
 |[],_,_,h=>by cases h
 |_::_,[],n,h=>by
  rw[JU]at h;injection h with h
  omega
 |p::a,q::b,n,h=>by
  rw[JU]at h;split at h
  .exact VT h
  .rename_i h0
   injection h with h
   rw[←h];exact h0
theorem Pw:∀{a b:List (Int × Int)},JU a b=none->¬ a.length<b.length->a=b
 |[],b,_,h=>by
  cases b with
  |nil=>rfl
  |cons _ _=>simp at h
 |_::_,[],h,_=>by cases h
 |p::a,q::b,h,hl=>by
  rw[JU]at h;split at h
  .rename_i h0
   rw[Nt.1 h0,Pw h (by simpa using hl)]
  .cases h
theorem Px:∀ a:List (Int × Int),JU a a=none
 |[]=>rfl
 |p::a=>by rw[JU,if_pos (Nt.2 rfl),Px a]
theorem Ur{a b:List (Int × Int)}:R0 a b=0 ↔ a=b:=by
 unfold R0;constructor
 .intro h
  cases e:JU a b with
  |some n=>
   rw[e]at h;exact absurd h (VT e)
  |none=>
   rw[e]at h;refine Pw e λhl=>?_
   simp only[if_pos hl]at h;omega
 .rintro rfl
  rw[Px];simp
def Xv(a b:Lf):Int:=LU (R0 a.ps b.ps) (FR a.k b.k)
theorem Xw{a b:Lf}:Xv a b=0 ↔ a=b:=by
 obtain⟨p,k⟩:=a;obtain⟨q,j⟩:=b;unfold Xv;rw[Og,Ur,It];simp
def WK(e:Bool):Int:=if e then 1 else 0
def QU(a b:Lf)(e f:Bool):Int:=LU (Xv a b) (FR (WK e) (WK f))
theorem Pv{a b:Lf}{e f:Bool}:QU a b e f=0 ↔ a=b/\e=f:=by
 unfold QU;rw[Og,Xw,It]
 cases e<;>cases f<;>simp[WK]
mutual
def VY:Fm->Fm->Bool
 |.mk k t e ks,.mk j u f js=>decide (k=j)&&(!decide (k=2)||decide (QU t.lf.pln u.lf.pln e f=0))&&decide (ks.length=js.length)&&IS ks js
def IS:List Fm->List Fm->Bool
 |[],_=>true
 |_::_,[]=>false
 |x::a,y::b=>VY x y&&IS a b
end
theorem UF(k j:Int)(t u:Tm)(e f:Bool)(ks js:List Fm):VY (.mk k t e ks) (.mk j u f js)=(decide (k=j)&&(!decide (k=2)||decide (QU t.lf.pln u.lf.pln e f=0))&&decide (ks.length=js.length)&&IS ks js):=by
 rw[VY]
theorem La(x y:Fm)(a b:List Fm):IS (x::a) (y::b)=(VY x y&&IS a b):=by rw[IS]
mutual
theorem R6:∀ x:Fm,VY x x=true
 |.mk k t e ks=>by
  rw[UF,PB ks,Pv.2 ⟨rfl,rfl⟩];simp
theorem PB:∀ l:List Fm,IS l l=true
 |[]=>by rw[IS]
 |x::r=>by rw[La,R6 x,PB r];rfl
end
theorem CanFs.mem:∀{l:List Fm},CanFs l->∀ x∈l,CanF x
 |_::_,.cons h hr,x,hx=>by
  rcases ApN.1 hx with rfl|hx
  .exact h
  .exact hr.mem x hx
theorem CanF.kids{x:Fm}(h:CanF x):∀ y∈x.kids,CanF y:=by
 cases h with
 |tru b=>intro y hy;cases b<;>cases hy
 |atom l e h=>intro y hy;cases hy
 |no x h=>intro y hy;rcases Aqe.1 hy with rfl;exact h
 |and l h=>exact h.mem
 |or l h=>exact h.mem
 |no0=>intro y hy;cases hy
theorem CanF.head{x:Fm}(h:CanF x):(x.kind=2/\x.kids=[]/\∃ l:Lf,l.pln=l/\x.tm=l.tm)\/(x.kind≠2/\x.tm=Y8/\x.eq=false):=by
 cases h with
 |tru b=>exact .inr ⟨by cases b<;>decide,rfl,rfl⟩
 |atom l e h=>exact .inl ⟨rfl,rfl,l,h,rfl⟩
 |no x h=>exact .inr ⟨by show (3:Int)≠2;decide,rfl,rfl⟩
 |and l h=>exact .inr ⟨by show (4:Int)≠2;decide,rfl,rfl⟩
 |or l h=>exact .inr ⟨by show (5:Int)≠2;decide,rfl,rfl⟩
 |no0=>exact .inr ⟨by show (3:Int)≠2;decide,rfl,rfl⟩
theorem AdU:∀ n:Nat,(∀ x y:Fm,SizeOf.sizeOf x<n->CanF x->CanF y->VY x y=true->x=y)/\(∀ a b:List Fm,SizeOf.sizeOf a<n->(∀ x∈a,CanF x)->(∀ x∈b,CanF x)->a.length=b.length->IS a b=true->a=b):=by
 intro n
 induction n with
 |zero=>exact⟨λx y h=>by omega,λa b h=>by omega⟩
 |succ n ih=>
  refine⟨λx y hn hx hy h=>?_,λa b hn ha hb hl h=>?_⟩
  .have kx:=hx.kids
   have ky:=hy.kids;have dx:=hx.head;have dy:=hy.head;obtain⟨k,t,e,ks⟩:=x;obtain⟨j,u,f,js⟩:=y;rw[UF]at h;simp only[ApF,decide_eq_true_eq]at h;obtain⟨⟨⟨rfl,h2⟩,hl⟩,hs⟩:=h;have e1:=ih.2 ks js (by simp only[Fm.mk.sizeOf_spec]at hn;omega) kx ky hl hs;simp only[Fm.kind,Fm.kids,Fm.tm,Fm.eq]at dx dy;subst e1;rcases dx with⟨d0,_,l,hp,rfl⟩|⟨d0,rfl,rfl⟩
   .rcases dy with⟨_,_,m,hq,rfl⟩|⟨d1,_⟩
    .subst d0
     rw[DZ,DZ,hp,hq]at h2;have:=Pv.1 (by simpa using h2);rw[this.1,this.2]
    .exact absurd d0 d1
   .rcases dy with⟨d1,_⟩|⟨_,rfl,rfl⟩
    .exact absurd d1 d0
    .rfl
  .cases a with
   |nil=>cases b with
    |nil=>rfl
    |cons _ _=>cases hl
   |cons x a=>cases b with
    |nil=>cases hl
    |cons y b=>
     rw[La,ApF]at h;have hz:SizeOf.sizeOf (x::a)=1+SizeOf.sizeOf x+SizeOf.sizeOf a:=rfl;rw[ih.1 x y (by omega) (ha x (ApV ..)) (hb y (ApV ..)) h.1,ih.2 a b (by omega) (λz hz=>ha z (ApW _ hz)) (λz hz=>hb z (ApW _ hz)) (by simpa using hl) h.2]
theorem AdV{x y:Fm}(hx:CanF x)(hy:CanF y):VY x y=true ↔ x=y:=⟨(AdU _).1 x y (Nat.lt_succ_self _) hx hy,by rintro rfl;exact R6 x⟩
def FU:List (Int × Int)->Int × Int->List (Int × Int)
 |[],p=>if p.1<0 then [] else [p]
 |q::r,p=>if p.1<0 then q::r else if q.1=p.1 then(q.1,q.2+p.2)::r else p::q::r
theorem Ga(p:Int × Int):FU [] p=if p.1<0 then [] else [p]:=rfl
theorem EU(q:Int × Int)(r:List (Int × Int))(p:Int × Int):FU (q::r) p=if p.1<0 then q::r else if q.1=p.1 then(q.1,q.2+p.2)::r else p::q::r:=rfl
structure GrpI (s t:List (Int × Int)):Prop where
 desc:s.Pairwise λa b=>b.1<a.1
 pos:∀ q∈s,0<=q.1
 up:∀ q∈s,∀ p∈t,0<=p.1->q.1<=p.1
theorem XL(v:Int)(hv:0<=v):∀(s:List (Int × Int)) (p:Int × Int),A6 v (FU s p)=A6 v s+(if p.1=v then p.2 else 0)
 |[],p=>by
  rw[Ga];split
  .rw[if_neg (by omega)];simp[A6]
  .simp[A6]
 |q::r,p=>by
  rw[EU];split
  .rw[if_neg (by omega)];omega
  .split
   .rename_i h
    rw[A6,A6];simp only[h];split<;>omega
   .rw[A6]
    omega
theorem AaJ{s t:List (Int × Int)}{p:Int × Int}(h:GrpI s (p::t))(ht:∀ x∈t,p.1<=x.1):GrpI (FU s p) t:=by
 have ut:∀ q∈s,∀ x∈t,0<=x.1->q.1<=x.1:=λq hq x hx=>h.up q hq x (ApW _ hx)
 cases s with
 |nil=>
  rw[Ga];split
  .exact⟨.nil,by simp,by simp⟩
  .exact⟨Asd _ _,by simp;omega,λq hq x hx _=>by rw[Aqe.1 hq];exact ht x hx⟩
 |cons q r=>
  have hd:=Aqz.1 h.desc;rw[EU];split
  .exact⟨h.desc,h.pos,ut⟩
  .rename_i hp
   split
   .refine⟨Aqz.2 ⟨λx hx=>hd.1 x hx,hd.2⟩,λx hx=>?_,λx hx y hy hy0=>?_⟩
    .rcases ApN.1 hx with rfl|hx
     .exact h.pos q (ApV ..)
     .exact h.pos x (ApW _ hx)
    .rcases ApN.1 hx with rfl|hx
     .exact ut q (ApV ..) y hy hy0
     .exact ut x (ApW _ hx) y hy hy0
   .rename_i hne
    have hq:=h.up q (ApV ..) p (ApV ..) (by omega);refine⟨Aqz.2 ⟨λx hx=>?_,h.desc⟩,λx hx=>?_,λx hx y hy hy0=>?_⟩
    .rcases ApN.1 hx with rfl|hx
     .omega
     .have:=hd.1 x hx;omega
    .rcases ApN.1 hx with rfl|hx
     .omega
     .exact h.pos x hx
    .rcases ApN.1 hx with rfl|hx
     .exact ht y hy
     .exact ut x hx y hy hy0
theorem V1:∀(t s:List (Int × Int)),t.Pairwise (λa b=>a.1<=b.1)->GrpI s t->GrpI (t.foldl FU s) []/\∀ v,0<=v->A6 v (t.foldl FU s)=A6 v s+A6 v t
 |[],s,_,h=>⟨h,λv _=>by simp[A6]⟩
 |p::t,s,ht,h=>by
  have hp:=Aqz.1 ht;obtain⟨g1,g2⟩:=V1 t (FU s p) hp.2 (AaJ h hp.1);refine⟨g1,λv hv=>?_⟩;rw[Arl,g2 v hv,XL v hv,A6];omega
theorem R2(v:Int):∀ l:List (Int × Int),A6 v (l.filter λp=>!decide (p.2=0))=A6 v l
 |[]=>rfl
 |p::r=>by
  have ih:=R2 v r
  by_cases h:p.2=0
  .rw[Asa (by simp[h]),ih,A6,h]
   simp
  .rw[Asb (by simp[h]),A6,A6,ih]
theorem Ad8{t l:List (Int × Int)}(ht:t.Pairwise λa b=>a.1<=b.1)(hp:t.Perm l):((t.foldl FU []).reverse).filter (λp=>!decide (p.2=0))=D4 l:=by
 obtain⟨g1,g2⟩:=V1 t [] ht ⟨.nil,by simp,by simp⟩;refine Th ⟨?_,λp h=>?_,λp h=>?_⟩ λv hv=>?_
 .refine List.Pairwise.filter _ ?_
  rw[List.pairwise_reverse];exact g1.desc
 .have:=(Ars.1 h).1
  exact g1.pos p (List.mem_reverse.1 this)
 .simpa using (Ars.1 h).2
 .rw[R2,Nu (List.reverse_perm _),g2 v hv,Nu hp]
  simp[A6]
theorem Si{k:Nat}{s:List (Int × Int)}{p:Int × Int}(hs:∀ q∈s,InB k q.2)(hp:InB k p.2):∀ q∈FU s p,InB (k+1) q.2:=by
 cases s with
 |nil=>
  rw[Ga];split
  .simp
  .intro q hq
   rw[Aqe.1 hq];exact hp.mono (by omega)
 |cons q r=>
  rw[EU];have hq:=hs q (ApV ..);have hr:∀ x∈r,InB (k+1) x.2:=λx hx=>(hs x (ApW _ hx)).mono (by omega)
  split
  .intro x hx
   rcases ApN.1 hx with rfl|hx
   .exact hq.mono (by omega)
   .exact hr x hx
  .split
   .intro x hx
    rcases ApN.1 hx with rfl|hx
    .exact InB.add hq hp
    .exact hr x hx
   .intro x hx
    rcases ApN.1 hx with rfl|hx
    .exact hp.mono (by omega)
    .rcases ApN.1 hx with rfl|hx
     .exact hq.mono (by omega)
     .exact hr x hx
theorem Sj(s:List (Int × Int))(p:Int × Int):(FU s p).length<=s.length+1:=by
 cases s with
 |nil=>rw[Ga];split<;>simp
 |cons q r=>
  rw[EU];split
  .simp
  .split<;>simp
theorem Ff(x:Nat):Aj.conv .u32 (x:Int)=((x % 4294967296:Nat):Int):=by
 show IntKind.u32.wrap (x:Int)=_
 rw[IntKind.wrap_u32];omega
theorem BJ{x:Nat}(h:x<4294967296):Aj.conv .u32 (x:Int)=(x:Int):=by rw[Ff,Ap1 h]
theorem B4{x:Nat}(h:x<18446744073709551616):Aj.conv .u64 (x:Int)=(x:Int):=by
 show IntKind.u64.wrap (x:Int)=_
 rw[IntKind.wrap_u64];omega
theorem Da{x y:Nat}(h:x+y<18446744073709551616):Aj.add .u64 (x:Int) (y:Int)=((x+y:Nat):Int):=by
 show IntKind.u64.wrap ((x:Int)+(y:Int))=_
 rw[IntKind.wrap_u64];omega
theorem GS{x y:Nat}(h:y<=x)(h2:x<18446744073709551616):Aj.sub .u64 (x:Int) (y:Int)=((x-y:Nat):Int):=by
 show IntKind.u64.wrap ((x:Int)-(y:Int))=_
 rw[IntKind.wrap_u64];omega
theorem Rn{x y:Nat}(h:x*y<18446744073709551616):Aj.mul .u64 (x:Int) (y:Int)=((x*y:Nat):Int):=by
 show IntKind.u64.wrap ((x:Int)*(y:Int))=_
 rw[IntKind.wrap_u64,←ArH];omega
theorem Kp(x:Nat):Aj.shr .u64 (x:Int) 32=((x / 4294967296:Nat):Int):=by
 show Int.fdiv (x:Int) (2 ^ 32)=_
 have:(2 ^ 32:Int)=((4294967296:Nat):Int):=by decide
 rw[this,Int.fdiv_eq_ediv_of_nonneg _ (by omega)];rfl
theorem FK(x y:Nat):Aj.add .u32 (x:Int) (y:Int)=(((x+y) % 4294967296:Nat):Int):=by
 show IntKind.u32.wrap ((x:Int)+(y:Int))=_
 rw[IntKind.wrap_u32];omega
theorem CI(x y:Nat):Aj.mul .u32 (x:Int) (y:Int)=(((x*y) % 4294967296:Nat):Int):=by
 show IntKind.u32.wrap ((x:Int)*(y:Int))=_
 rw[IntKind.wrap_u32,←ArH];omega
theorem AmE{i j:Nat}(h:j<=i)(h2:i<4611686018427387904):Aj.sub .i64 (i:Int) (j:Int)=((i-j:Nat):Int):=by
 rw[Gk (by omega) (by omega)];omega
theorem AiF{i j:Nat}(h2:i+j<4611686018427387904):Aj.add .i64 (i:Int) (j:Int)=((i+j:Nat):Int):=by
 rw[Hb (by omega) (by omega)];omega
theorem Fq(kd:IntKind)(n:Int)(r:List AV)(k:Int->List AV->KR):At kd (.v (.int kd n)::r) k=k n r:=by simp[At]
theorem RK(kd:IntKind)(n:Int)(k:Int->KR):AT kd (.v (.int kd n)) k=k n:=by simp[AT]
theorem XA(n:Nat)(k:Int->List AV->KR)(r:List AV):At .u32 (.v (.int .u32 (n:Int))::r) k=k n r:=rfl
theorem W6(l:List Nat):Gv 1 (l.map eL)=true:=IO A4 l
theorem AjU(l:List Nat):Kd (IQ (l.map eL))=true:=by rw[E3];exact Kg (λ_=>rfl) l
theorem Ae0(l:List Nat):A8 (IQ (l.map eL))=true:=by
 rw[E3]
 induction l with
 |nil=>rfl
 |cons x r ih=>exact ih
theorem TN(l:List Nat)(n:Nat):I0 (I9 (l.map eL) n) 0=(l.take n).map eL:=by
 rw[KO,JV,ApD,ArT]
theorem Hm:∀(a b:List Nat) (c:Nat),(KV c a b).length=a.length+1
 |[],_,_=>rfl
 |x::a,b,c=>by rw[KV,ApI,Hm a,ApI]
theorem Ns{a b:Nat}(h:(AY a).length<(AY b).length):a<b:=by
 by_cases h2:a<b
 .exact h2
 .have h3:AL b=AL b:=rfl
  have h4:0<(AY b).length:=by omega
  have hb:4294967296 ^ ((AY b).length-1)<=b:=by
   by_cases h5:4294967296 ^ ((AY b).length-1)<=b
   .exact h5
   .have:=BG (n:=b) (k:=(AY b).length-1) (by omega)
    omega
  have h6:=ST (n:=a) (k:=(AY b).length-1) (by omega);omega
def CG(l:List Nat):Prop:=l.length<=1000000000
theorem GP{l:List Nat}(h:Limbs l)(h2:CG l):CG (AY (Ak l)):=by
 unfold CG at *;rw[HW l h];have:=D0 l;omega
structure CloneF (D:Orc):Prop where
 nat:∀ l:List Nat,CG l->D.ask (.fn 240) [eN l] []=some (.sl 0 0 l.length 1,[.set (ABlk.mk (Aw eL l) true true)])
theorem Xs{l:List Nat}(h:CG l):Ft 1 (Cl 1 4) [eN l] []=some (.sl 0 0 l.length 1,[.set (ABlk.mk (Aw eL l) true true)]):=by
 unfold Ft Cl eN;have h4:ApM (A1 (l.map eL)*4) 140737488355328=true:=by
  rw[Av];unfold CG at h;simp;omega
 simp only[W6,AjU,Ae0,h4,Bool.and_true,if_true,Option.map_some];rw[Av,E3]
section
variable {D:Orc} (K:Knows Al KN D)
include K
theorem AfJ(l:List Nat)(hl:CG l):∀(n:Nat),n<=l.length->C7 l<=n->D.ask (.lp 204 0) [eN l,iv (n:Int)] []=some (.tup [iv 0,eN l,iv (C7 l:Int)],[]):=by
 intro n;have hl':=hl;unfold CG at hl'
 induction n with
 |zero=>
  intro _ ht;refine K.lp' Sz _ rfl (by kernel_rfl) ((Z4 ..).trans ?_);refine ltF_go (by omega)?_;rw[show C7 l=0 by omega];rfl
 |succ n ih=>
  intro hn ht;refine K.lp' Sz _ rfl (by kernel_rfl) ((Z4 ..).trans ?_);refine Ao (by omega)?_;rw[show Aj.sub .i64 ((n+1:Nat):Int) 1=(n:Int) from (AmE (i:=n+1) (j:=1) (by omega) (by omega)).trans (by simp)];rw[AG,AD (Apy (show n<l.length by omega))];simp only[eL,XA,ND,Aa]
  by_cases h0:l[n]=0
  .refine AF (by rw[h0];rfl)?_
   refine Ab (ih (by omega) (Qo ht (by rw[Apy (show n<l.length by omega),h0])))?_;rfl
  .refine eqF_go (by omega)?_
   have:=RH (Apy (show n<l.length by omega)) h0;rw[show C7 l=n+1 by omega];rfl
theorem EO{l:List Nat}(hl:CG l)(h:Limbs l):D.ask (.fn 204) [eN l] []=some (eN (AY (Ak l)),[]):=by
 refine K.fn' Sz _ rfl ((AnS ..).trans ?_);rw[Av];refine Ab (AfJ K l hl _ (ApA _) (D0 l))?_;simp only[eN,ND,Aa];rw[AG,Av,W6,TN,KP h];rw[show J3 0 (C7 l) l.length=true by unfold J3;rw[show ApM 0 (C7 l)=true by simp];simpa using D0 l];rfl
variable (C:CloneF D)
include C
theorem Gx{l:List Nat}(hl:CG l)(h:Limbs l):D.ask (.fn 200) [eN l] []=some (eN (AY (Ak l)),[]):=by
 refine K.fn' AgV _ rfl ((AnQ ..).trans ?_);refine Ab (EO K hl h)?_;simp only[eN,ND,Aa];have g:=C.nat _ (GP h hl);unfold eN at g;refine Ab g ?_;simp only[ND,Aa];rw[A3 A4 _ (by omega)];refine Ag ?_;rw[Cs A4 _ rfl]
theorem Af1(n:Nat)(h:n<18446744073709551616):D.ask (.fn 146) [.v (.int .u64 (n:Int))] []=some (eN (AY n),[]):=by
 refine K.fn' AgC _ rfl ((Anm ..).trans ?_);refine ltF_go (by decide)?_;rw[Ff,Kp,Ff];have hl:Limbs [n % 4294967296,n / 4294967296 % 4294967296]:=BM (Aq7 _ (by omega)) (BM (Aq7 _ (by omega)) BZ);have g:=Gx K C (l:=[n % 4294967296,n / 4294967296 % 4294967296]) (by unfold CG;simp) hl;rw[show Ak [n % 4294967296,n / 4294967296 % 4294967296]=n by simp only[Ak];omega]at g;refine Ab g ?_;rfl
omit C in
theorem Aiy(a b:List Nat)(ha:Limbs a)(hb:Limbs b)(hab:a.length=b.length)(hs:CG a):∀(n:Nat),n<=a.length->D.ask (.lp 205 0) [eN a,eN b,iv ((n:Int)-1)] []
  = some (if DA (Ak (a.take n)) (Ak (b.take n))=0 then .tup [iv 1] else .tup [bv true,iv (DA (Ak (a.take n)) (Ak (b.take n)))],[]):=by
 intro n;unfold CG at hs
 induction n with
 |zero=>
  intro _;refine K.lp' SA _ rfl (by kernel_rfl) ((Z5 ..).trans ?_);refine leF_go (by omega)?_;rfl
 |succ n ih=>
  intro hn;refine K.lp' SA _ rfl (by kernel_rfl) ((Z5 ..).trans ?_);rw[show (((n+1:Nat):Int)-1)=(n:Int) by omega];refine CA (by omega)?_;have h1:n<a.length:=by omega
  have h2:n<b.length:=by omega
  have e1:a.take (n+1)=a.take n++[a[n]]:=by rw[AqI h1]
  have e2:b.take (n+1)=b.take n++[b[n]]:=by rw[AqI h2]
  rw[e1,e2,R1 (ha.take n) (hb.take n) (by simp;omega)];simp only[AG,AD (Apy h1),AD (Apy h2),eL,XA,ND,Aa]
  by_cases h3:a[n]<b[n]
  .refine Ao (by omega)?_
   rw[if_pos h3];rfl
  .refine ltF_go (by omega)?_
   rw[if_neg h3]
   by_cases h4:b[n]<a[n]
   .refine Ao (by omega)?_
    rw[if_pos h4];rfl
   .refine ltF_go (by omega)?_
    rw[if_neg h4];rw[show Aj.sub .i64 (n:Int) 1=(n:Int)-1 from Gk (by omega) (by omega)];refine Ab (ih (by omega))?_
    by_cases h5:DA (Ak (a.take n)) (Ak (b.take n))=0
    .rw[if_pos h5];rfl
    .rw[if_neg h5];rfl
omit C in
theorem Ua{a b:List Nat}(hsa:CG a)(ha:Limbs a)(hsb:CG b)(hb:Limbs b):D.ask (.fn 205) [eN a,eN b] []=some (iv (DA (Ak a) (Ak b)),[]):=by
 have s1:=GP ha hsa;have s2:=GP hb hsb;unfold CG at s1 s2;refine K.fn' SA _ rfl ((AnT ..).trans ?_);refine Ab (EO K hsa ha)?_;simp only[eN,ND,Aa];refine Ab (EO K hsb hb)?_;simp only[eN,ND,Aa,Av];generalize Ak a=x at *;generalize Ak b=y at *
 by_cases h1:(AY x).length<(AY y).length
 .refine Ao (by omega)?_
  have:=Ns h1;unfold DA;rw[if_pos this]
 .refine ltF_go (by omega)?_
  by_cases h2:(AY y).length<(AY x).length
  .refine Ao (by omega)?_
   have:=Ns h2;unfold DA;rw[if_neg (by omega),if_pos this]
  .refine ltF_go (by omega)?_
   have hx:(AY x).length=(AY y).length:=by omega
   have g:=Aiy K (AY x) (AY y) (AL x) (AL y) hx s1 (AY x).length (ApA _);rw[AqR,hx,AqR,A0,A0]at g;rw[show Aj.sub .i64 ((AY x).length:Int) 1=((AY x).length:Int)-1 from Gk (by omega) (by omega),hx];refine Ab g ?_
   by_cases h5:DA x y=0
   .rw[if_pos h5,h5];rfl
   .rw[if_neg h5];rfl
omit C in
theorem Zc(b:List Nat)(hb:Limbs b)(a:List Nat)(ha:Limbs a)(hs:CG a):∀(k i:Nat) (out:List Nat) (c:Nat),a.length-i=k->i<=a.length->b.length<=a.length->c<=1->out.length+k<=2000000000->
  ∃(o:List Nat) (c':Nat),D.ask (.lp 149 0) [eN b,.sl 0 0 out.length 1,.v (.int .u64 (c:Int)),eN a,iv (a.length:Int),iv (i:Int)] [ABlk.mk (Aw eL out) true true]
   = some (.tup [iv 0,.sl 1 0 o.length 1,.v (.int .u64 (c':Int))],[.del,.set (ABlk.mk (Aw eL o) true true)])/\c'<=1/\o++[c']=out++KV c (a.drop i) (b.drop i):=by
 intro k;unfold CG at hs
 induction k with
 |zero=>
  intro i out c hi hle hba hc ho;refine⟨out,c,?_,hc,?_⟩
  .refine K.lp' Sr _ rfl (by kernel_rfl) ((ZT ..).trans ?_)
   refine ltF_go (by omega)?_;rfl
  .rw[show a.drop i=[] from ApL (by omega)]
   rfl
 |succ k ih=>
  intro i out c hi hle hba hc ho;have hlt:i<a.length:=by omega
  have hx:=ha.get hlt;have hbd:=E7 (hb.drop i);have hdt:(b.drop i).tail=b.drop (i+1):=by rw[Aro]
  rw[show a.drop i=a[i]::a.drop (i+1) from ApE hlt];obtain⟨o,c',h1,h2,h3⟩:=ih (i+1) (out++[(a[i]+(b.drop i).headD 0+c) % 4294967296]) ((a[i]+(b.drop i).headD 0+c) / 4294967296) (by omega) (by omega) hba (by omega) (by simp;omega);refine⟨o,c',?_,h2,?_⟩
  .refine K.lp' Sr _ rfl (by kernel_rfl) ((ZT ..).trans ?_)
   refine Ao (by omega)?_;rw[AG,AD (Apy hlt)];have hf:Bp (out.length+1) 4=true:=AS (by omega) (by omega);have hb1:ApM (0+out.length*1) (Aw eL out).length=true:=A3 A4 out (by omega);have e3:∀ s:Nat,ApK 0 (ApG (0+out.length*1) (Aw eL out))++[.v (.int .u32 (s:Int))]=Aw eL (out++[s]):=λs=>by
    rw[ApD,Bf A4 out (by omega)];exact Bg eL out s
   rw[ApH,Aql]at h1;simp only[eL,XA,ND,Aa,Av];rw[Bh (by omega)]
   by_cases hib:i<b.length
   .have hd:(b.drop i).headD 0=b[i]:=by rw[ApE hib];rfl
    rw[hd]at h1 hbd;refine Ao (by omega)?_;rw[AG,AD (Apy hib)];simp only[eL,XA,ND,Aa];rw[B4 (by omega),B4 (by omega),Da (by omega),Da (by omega),Ff,Kp,hf,hb1,e3];rw[show a[i]+c+b[i]=a[i]+b[i]+c by omega];refine Ag ?_;refine Ag ?_;refine ltF_go (by decide)?_;refine Ab h1 ?_;rfl
   .have hd:(b.drop i).headD 0=0:=by rw[ApL (by omega)];rfl
    rw[hd]at h1;refine ltF_go (by omega)?_;rw[B4 (by omega),Da (by omega),Ff,Kp,hf,hb1,e3];rw[show a[i]+c=a[i]+0+c by omega];refine Ag ?_;refine Ag ?_;refine ltF_go (by decide)?_;refine Ab h1 ?_;rfl
  .rw[h3,KV,hdt,Ap9]
   rfl
theorem Aix{a b:List Nat}(hsa:a.length<=999999999)(ha:Limbs a)(hsb:b.length<=999999999)(hb:Limbs b):D.ask (.fn 149) [eN a,eN b] []=some (eN (AY (Ak a+Ak b)),[]):=by
 have s1:=GP ha (by unfold CG;omega);have s2:=GP hb (by unfold CG;omega);have t1:(AY (Ak a)).length<=999999999:=by rw[HW a ha];have:=D0 a;omega
 have t2:(AY (Ak b)).length<=999999999:=by rw[HW b hb];have:=D0 b;omega
 refine K.fn' Sr _ rfl ((Anp ..).trans ?_);refine Ab (EO K (by unfold CG;omega) ha)?_;simp only[eN,ND,Aa];refine Ab (EO K (by unfold CG;omega) hb)?_;simp only[eN,ND,Aa,Av];generalize Ak a=x at *;generalize Ak b=y at *
 by_cases h1:(AY x).length<(AY y).length
 .refine Ao (by omega)?_
  have hl:Limbs (KV 0 (AY y) (AY x)):=Jd _ _ _ (AL _) (AL _) (by omega);obtain⟨o,c',g,hc,ho⟩:=Zc K (AY x) (AL x) (AY y) (AL y) s2 (AY y).length 0 [] 0 (by omega) (by omega) (by omega) (by omega) (by unfold CG at s2;simp;omega);rw[Ap4,ApD,ApD]at ho;have hol:o.length=(AY y).length:=by
   have:=congrArg AsD ho;rw[ApH,Hm]at this;simpa using this
  have hsx:=s2;unfold CG at hsx;rw[show Aj.add .i64 ((AY y).length:Int) 1=(((AY y).length+1:Nat):Int) from Bh (by omega),AG];rw[AS (n:=(AY y).length+1) (b:=4) (by omega) (by omega)];refine Ag ?_;refine Ab g ?_;simp only[Fq,ND,Aa];rw[BJ (by omega)];have e3:ApK 0 (ApG (0+o.length*1) (Aw eL o))++[.v (.int .u32 (c':Int))]=Aw eL (o++[c']):=by
   rw[ApD,Bf A4 o (by omega)];exact Bg eL o c'
  rw[AS (n:=o.length+1) (b:=4) (by omega) (by omega),A3 A4 o (by omega),e3,A3 A4 (o++[c']) (by simp)];refine Ag ?_;refine Ag ?_;refine Ag ?_;rw[ApD,Bf A4 (o++[c']) (by simp),show BA (o.length+1) 1 (Aw eL (o++[c']))=(o++[c']).map eL from by have:=C2 A4 (o++[c']);rwa [ApH]at this];rw[ho];have gt:=Gx K C (l:=KV 0 (AY y) (AY x)) (by unfold CG;rw[Hm];omega) hl;rw[LR _ _ _ (by omega),A0,A0]at gt;refine Ab gt ?_;rw[show 0+y+x=x+y by omega];rfl
 .refine ltF_go (by omega)?_
  have hl:Limbs (KV 0 (AY x) (AY y)):=Jd _ _ _ (AL _) (AL _) (by omega);obtain⟨o,c',g,hc,ho⟩:=Zc K (AY y) (AL y) (AY x) (AL x) s1 (AY x).length 0 [] 0 (by omega) (by omega) (by omega) (by omega) (by unfold CG at s1;simp;omega);rw[Ap4,ApD,ApD]at ho;have hol:o.length=(AY x).length:=by
   have:=congrArg AsD ho;rw[ApH,Hm]at this;simpa using this
  have hsx:=s1;unfold CG at hsx;rw[show Aj.add .i64 ((AY x).length:Int) 1=(((AY x).length+1:Nat):Int) from Bh (by omega),AG];rw[AS (n:=(AY x).length+1) (b:=4) (by omega) (by omega)];refine Ag ?_;refine Ab g ?_;simp only[Fq,ND,Aa];rw[BJ (by omega)];have e3:ApK 0 (ApG (0+o.length*1) (Aw eL o))++[.v (.int .u32 (c':Int))]=Aw eL (o++[c']):=by
   rw[ApD,Bf A4 o (by omega)];exact Bg eL o c'
  rw[AS (n:=o.length+1) (b:=4) (by omega) (by omega),A3 A4 o (by omega),e3,A3 A4 (o++[c']) (by simp)];refine Ag ?_;refine Ag ?_;refine Ag ?_;rw[ApD,Bf A4 (o++[c']) (by simp),show BA (o.length+1) 1 (Aw eL (o++[c']))=(o++[c']).map eL from by have:=C2 A4 (o++[c']);rwa [ApH]at this];rw[ho];have gt:=Gx K C (l:=KV 0 (AY x) (AY y)) (by unfold CG;rw[Hm];omega) hl;rw[LR _ _ _ (by omega),A0,A0]at gt;refine Ab gt ?_;rw[show 0+x+y=x+y by omega];rfl
omit C in
theorem AiD(b:List Nat)(hb:Limbs b)(a:List Nat)(ha:Limbs a)(hs:CG a):∀(k i:Nat) (out:List Nat) (c:Nat),a.length-i=k->i<=a.length->c<=1->out.length+k<=2000000000->
  D.ask (.lp 150 0) [eN b,.sl 0 0 out.length 1,.v (.int .u64 (c:Int)),eN a,iv (a.length:Int),iv (i:Int)] [ABlk.mk (Aw eL out) true true]
   = some (.tup [iv 0,.sl 1 0 (out++GY c (a.drop i) (b.drop i)).length 1],[.del,.set (ABlk.mk (Aw eL (out++GY c (a.drop i) (b.drop i))) true true)]):=by
 intro k;unfold CG at hs
 induction k with
 |zero=>
  intro i out c hi hle hc ho;refine K.lp' Ss _ rfl (by kernel_rfl) ((ZU ..).trans ?_);refine ltF_go (by omega)?_;rw[show a.drop i=[] from ApL (by omega)];simp only[GY,List.append_nil]
  all_goals rfl
 |succ k ih=>
  intro i out c hi hle hc ho;have hlt:i<a.length:=by omega
  have hx:=ha.get hlt;have hbd:=E7 (hb.drop i);have hdt:(b.drop i).tail=b.drop (i+1):=by rw[Aro]
  rw[show a.drop i=a[i]::a.drop (i+1) from ApE hlt,GY,hdt];have h1:=ih (i+1) (out++[if a[i]<(b.drop i).headD 0+c then a[i]+4294967296-((b.drop i).headD 0+c) else a[i]-((b.drop i).headD 0+c)]) (if a[i]<(b.drop i).headD 0+c then 1 else 0) (by omega) (by omega) (by split<;>omega) (by simp;omega);rw[Ap9,ApH,Aql]at h1;refine K.lp' Ss _ rfl (by kernel_rfl) ((ZU ..).trans ?_);refine Ao (by omega)?_;rw[AG,AD (Apy hlt)];have hf:Bp (out.length+1) 4=true:=AS (by omega) (by omega);have hb1:ApM (0+out.length*1) (Aw eL out).length=true:=A3 A4 out (by omega);have e3:∀ s:Nat,ApK 0 (ApG (0+out.length*1) (Aw eL out))++[.v (.int .u32 (s:Int))]=Aw eL (out++[s]):=λs=>by
   rw[ApD,Bf A4 out (by omega)];exact Bg eL out s
  simp only[eL,XA,ND,Aa,Av];rw[Bh (by omega)]
  by_cases hib:i<b.length
  .have hd:(b.drop i).headD 0=b[i]:=by rw[ApE hib];rfl
   rw[hd]at h1 hbd;rw[hd];refine Ao (by omega)?_;rw[AG,AD (Apy hib)];simp only[eL,XA,ND,Aa];rw[B4 (show a[i]<_ by omega),B4 (show b[i]<_ by omega),Da (by omega)]
   by_cases hlt2:a[i]<b[i]+c
   .refine Ao (by omega)?_
    rw[if_pos hlt2,if_pos hlt2]at h1;rw[if_pos hlt2,if_pos hlt2];rw[show (4294967296:Int)=((4294967296:Nat):Int) from rfl,Da (by omega),show c+b[i]=b[i]+c by omega,GS (by omega) (by omega),BJ (by omega),hf,hb1,e3];refine Ag ?_;refine Ag ?_;refine Ab h1 ?_;rfl
   .refine ltF_go (by omega)?_
    rw[if_neg hlt2,if_neg hlt2]at h1;rw[if_neg hlt2,if_neg hlt2];rw[show c+b[i]=b[i]+c by omega,GS (by omega) (by omega),BJ (by omega),hf,hb1,e3];refine Ag ?_;refine Ag ?_;refine Ab h1 ?_;rfl
  .have hd:(b.drop i).headD 0=0:=by rw[ApL (by omega)];rfl
   rw[hd]at h1;rw[hd];refine ltF_go (by omega)?_;rw[B4 (show a[i]<_ by omega)];rw[ApX]at h1;simp only[show (0:Nat)+c=c by omega]
   by_cases hlt2:a[i]<c
   .refine Ao (by omega)?_
    rw[if_pos hlt2,if_pos hlt2]at h1;rw[if_pos hlt2,if_pos hlt2];rw[show (4294967296:Int)=((4294967296:Nat):Int) from rfl,Da (by omega),GS (by omega) (by omega),BJ (by omega),hf,hb1,e3];refine Ag ?_;refine Ag ?_;refine Ab h1 ?_;rfl
   .refine ltF_go (by omega)?_
    rw[if_neg hlt2,if_neg hlt2]at h1;rw[if_neg hlt2,if_neg hlt2];rw[GS (by omega) (by omega),BJ (by omega),hf,hb1,e3];refine Ag ?_;refine Ag ?_;refine Ab h1 ?_;rfl
def Nx(x y:Nat):AV:=if y<=x then .tup [eN (AY (x-y)),bv true] else .tup [eN [],bv false]
theorem Zg{a b:List Nat}(hsa:CG a)(ha:Limbs a)(hsb:CG b)(hb:Limbs b):D.ask (.fn 150) [eN a,eN b] []=some (Nx (Ak a) (Ak b),[]):=by
 have s1:=GP ha hsa;have s2:=GP hb hsb;refine K.fn' Ss _ rfl ((Anq ..).trans ?_);refine Ab (EO K hsa ha)?_;simp only[eN,ND,Aa];refine Ab (EO K hsb hb)?_;simp only[eN,ND,Aa,Av];have gc:=Ua K s1 (AL _) s2 (AL _);rw[A0,A0]at gc;refine Ab gc ?_;simp only[ND,Aa];generalize Ak a=x at *;generalize Ak b=y at *;unfold Nx;unfold CG at s1 s2
 by_cases h1:x<y
 .rw[show DA x y=-1 by unfold DA;rw[if_pos h1]]
  refine Ao (by decide)?_;rw[if_neg (by omega)];rfl
 .refine ltF_go (by unfold DA;rw[if_neg h1];split<;>omega)?_
  rw[if_pos (by omega)];have hle:(AY y).length<=(AY x).length:=by
   by_cases h:(AY x).length<(AY y).length
   .have:=Ns h;omega
   .omega
  rw[AS (n:=(AY x).length) (b:=4) (by omega) (by omega)];refine Ag ?_;have g:=AiD K (AY y) (AL y) (AY x) (AL x) s1 (AY x).length 0 [] 0 (by omega) (by omega) (by omega) (by simp;omega);refine Ab g ?_;simp only[ND,Aa,ApD,Ap4];rw[A3 A4 _ (by omega)];refine Ag ?_;rw[Cs A4 _ rfl];have gt:=Gx K C (l:=GY 0 (AY x) (AY y)) (by unfold CG;rw[KK];exact s1) (GZ _ _ _ (AL _) (AL _) (by omega));rw[TW (AL _) (AL _) hle (by rw[A0,A0];omega),A0,A0]at gt;refine Ab gt ?_;rfl
end
def eC(n:Nat):AV:=.v (.int .u32 (n:Int))
theorem GV:∀ l:List Nat,Aw eL l=l.map eC
 |[]=>rfl
 |x::r=>by
  have ih:=GV r;unfold Aw at ih ⊢;rw[List.flatMap_cons,ih];rfl
theorem Qe(l:List Nat)(i v:Nat)(h:i<l.length):Ba (Aw eL l) (0+i*1) [.v (.int .u32 (v:Int))]=Aw eL (l.set i v):=by
 rw[GV,GV,Ard,if_pos h];unfold Ba;simp only[ApX,Asi,List.map_append,Ap2,ArT,List.map_drop,Aql];rw[Ap9];rfl
theorem AbX(l:List Nat)(i:Nat)(h:i<l.length)(k:List AV->KR):IG (Aw eL l) (0+i*1) 1 k=k [.v (.int .u32 (l[i]:Int))]:=by
 have hx:(Aw eL l)[i]? = some (.v (.int .u32 (l[i]:Int))):=by
  rw[GV,List.getElem?_map,Apy h];rfl
 obtain⟨hl,hx⟩:=List.getElem?_eq_some_iff.1 hx;unfold IG;have:ApM (0+i*1+1) (Aw eL l).length=true:=by simp;omega
 rw[this];simp only[ApX,Asi];rw[ApE hl,hx];rfl
theorem Ac0(n:Nat):Cw [.v (.int .u32 0)] (n*1)=Aw eL (Ary n 0):=by
 rw[GV,Asi];unfold Cw;rw[List.map_replicate];refine List.ext_getElem (by simp) λi h1 h2=>?_
 simp[As0,eC]
theorem PY:∀(x:Nat) (b o:List Nat) (c:Nat),(N6 x c b o).drop (b.length+1)=o.drop (b.length+1)
 |x,[],o,c=>by
  rw[N6]
  cases o<;>simp
 |x,y::b,o,c=>by
  rw[N6,ApI,List.drop_succ_cons,PY x b o.tail]
  cases o with
  |nil=>simp
  |cons z o=>rfl
def Hl(j:Nat)(l:List Nat):Prop:=∀ y∈l.drop j,y=0
theorem Y6{j:Nat}{l:List Nat}(h:Hl j l):(l.drop j).headD 0=0:=by
 unfold Hl at h
 cases e:l.drop j with
 |nil=>rfl
 |cons z r=>
  rw[e]at h;exact h z (ApV ..)
theorem BF{a b:Nat}(h:a<b):Nat.blt a b=true:=by simpa using h
section
variable {D:Orc} (K:Knows Al KN D)
include K
theorem Yz(a b:List Nat)(hb:Limbs b)(i:Nat)(hi:i<a.length)(hsz:a.length+b.length<=1000000000)(x:Nat)(hx:x<4294967296):∀(m k:Nat) (out:List Nat) (c:Nat),b.length-k=m->k<=b.length->Limbs out->c<4294967296->out.length=a.length+b.length->
  ∃(o:List Nat) (c':Nat),D.ask (.lp 282 1) [eN b,.sl 0 0 out.length 1,iv (i:Int),.v (.int .u32 (x:Int)),.v (.int .u64 (c:Int)),eN a,iv (a.length:Int),iv (i:Int),eN b,iv (b.length:Int),iv (k:Int)] [ABlk.mk (Aw eL out) true true]
   = some (.tup [iv 2,eN b,.sl 1 0 out.length 1,iv (i:Int),.v (.int .u64 (c':Int)),eN a,iv (a.length:Int),iv (i:Int)],[.del,.set (ABlk.mk (Aw eL o) true true)])
   ∧ c'<4294967296/\Limbs o/\o.length=out.length/\o.set (i+b.length) c'=out.take (i+k)++N6 x c (b.drop k) (out.drop (i+k)):=by
 intro m
 induction m with
 |zero=>
  intro k out c hm hk ho hc hlen;obtain rfl:k=b.length:=by omega
  refine⟨out,c,?_,hc,ho,rfl,?_⟩
  .refine K.lp' Mb _ rfl (by kernel_rfl) ((Aak ..).trans ?_)
   refine ltF_go (by omega)?_;rfl
  .rw[List.drop_length,N6,Ard,if_pos (by omega),Aro]
 |succ m ih=>
  intro k out c hm hk ho hc hlen;have hlt:k<b.length:=by omega
  have hik:i+k<out.length:=by omega
  have hy:=hb.get hlt;have hz:=ho.get hik;have hp:=N8 hx hy;have hd:(out.drop (i+k)).headD 0=out[i+k]:=by rw[ApE hik];rfl
  obtain⟨o,c',h1,h2,h3,h4,h5⟩:=ih (k+1) (out.set (i+k) ((x*b[k]+out[i+k]+c) % 4294967296)) ((x*b[k]+out[i+k]+c) / 4294967296) (by omega) (by omega)
   (λz hz'=>by
    rcases List.mem_or_eq_of_mem_set hz' with h|h
    .exact ho z h
    .rw[h];exact Aq7 _ (by omega)) (by omega) (by rw[Aqa];exact hlen)
  rw[Aqa]at h1 h4;refine⟨o,c',?_,h2,h3,h4,?_⟩
  .refine K.lp' Mb _ rfl (by kernel_rfl) ((Aak ..).trans ?_)
   refine Ao (by omega)?_;rw[AG,AD (Apy hlt)];simp only[eL,Fq,ND,Aa];rw[AiF (by omega),AG,BF hik];refine Ag ?_;refine(AbX out _ hik _).trans ?_;simp only[Fq,ND,Aa];rw[AG,BF hik];refine Ag ?_;rw[show ApM (0+(i+k)*1+1) (Aw eL out).length=true by rw[BB A4];simp;omega];refine Ag ?_;refine ltF_go (by decide)?_;rw[B4 (show x<_ by omega),B4 (show b[k]<_ by omega),B4 (show out[i+k]<_ by omega),Rn (by omega),Da (by omega),Da (by omega),Ff,Kp,Qe _ _ _ hik,Bh (by omega)];refine Ab h1 ?_;rfl
  .rw[h5,ApE hlt,N6,hd]
   have e1:ApG (i+(k+1)) (out.set (i+k) ((x*b[k]+out[i+k]+c) % 4294967296))=out.take (i+k)++[(x*b[k]+out[i+k]+c) % 4294967296]:=by
    rw[show i+(k+1)=i+k+1 by omega,AqI (by rw[Aqa];exact hik),List.getElem_set_self,List.take_set_of_le (ApA _)]
   have e2:ApK (i+(k+1)) (out.set (i+k) ((x*b[k]+out[i+k]+c) % 4294967296))=(out.drop (i+k)).tail:=by
    rw[List.drop_set_of_lt (by omega),Aro];rfl
   rw[e1,e2,Ap9];rfl
theorem YA(a b:List Nat)(ha:Limbs a)(hb:Limbs b)(hsz:a.length+b.length<=1000000000):∀(m i:Nat) (out:List Nat),a.length-i=m->i<=a.length->Limbs out->out.length=a.length+b.length->Hl (i+b.length) out->
  ∃ o:List Nat,D.ask (.lp 282 0) [eN b,.sl 0 0 out.length 1,eN a,iv (a.length:Int),iv (i:Int)] [ABlk.mk (Aw eL out) true true]=some (.tup [iv 0,.sl 1 0 o.length 1],[.del,.set (ABlk.mk (Aw eL o) true true)])
   ∧ Limbs o/\o.length=out.length/\Ak o=Ak out+4294967296 ^ i*Ak (a.drop i)*Ak b:=by
 intro m
 induction m with
 |zero=>
  intro i out hm hi ho hlen hz;refine⟨out,?_,ho,rfl,?_⟩
  .refine K.lp' Mb _ rfl (by kernel_rfl) ((Aaj ..).trans ?_)
   refine ltF_go (by omega)?_;rfl
  .rw[show a.drop i=[] from ApL (by omega)]
   simp[Ak]
 |succ m ih=>
  intro i out hm hi ho hlen hz;have hlt:i<a.length:=by omega
  have hx:=ha.get hlt;obtain⟨o,c',g1,g2,g3,g4,g5⟩:=Yz K a b hb i hlt hsz a[i] hx b.length 0 out 0 (by omega) (by omega) ho (by omega) hlen;rw[Aqs,ApD]at g5;have hdl:(out.drop i).length=a.length+b.length-i:=by rw[List.length_drop];omega
  have hlm:Limbs (o.set (i+b.length) c'):=by
   rw[g5];exact PP (ho.take i) (N7 _ _ _ _ hx hb (ho.drop i) (by omega))
  have hhead:((out.drop i).drop b.length).headD 0=0:=by
   rw[Arw];exact Y6 hz
  have hv:Ak (o.set (i+b.length) c')=Ak out+4294967296 ^ i*(a[i]*Ak b):=by
   rw[g5,Fo,Qr _ _ _ _ hhead];have e:Ak out=Ak (out.take i)+4294967296 ^ i*Ak (out.drop i):=by
    have:=Fo (out.take i) (out.drop i);rw[List.take_append_drop,Ap0,AqK (by omega)]at this;exact this
   rw[e,Ap0,AqK (by omega),Aqs,ArC];omega
  have hz2:Hl (i+1+b.length) (o.set (i+b.length) c'):=by
   unfold Hl;rw[g5,Ar2,ApL (by rw[Ap0];omega),Ap4,Ap0,AqK (by omega),show i+1+b.length-i=b.length+1 by omega,PY,Arw];intro y hy;exact hz y (by
    have:ApK (i+(b.length+1)) out=ApK 1 (ApK (i+b.length) out):=by rw[Arw];rfl
    rw[this]at hy;exact AqE hy)
  obtain⟨o2,k1,k2,k3,k4⟩:=ih (i+1) (o.set (i+b.length) c') (by omega) (by omega) hlm (by rw[Aqa,g4,hlen]) hz2;rw[Aqa,g4]at k1 k3;refine⟨o2,?_,k2,k3,?_⟩
  .refine K.lp' Mb _ rfl (by kernel_rfl) ((Aaj ..).trans ?_)
   refine Ao (by omega)?_;rw[AG,AD (Apy hlt)];simp only[eL,Fq,Av,ND,Aa];refine Ab g1 ?_;simp only[eN,Fq,Av,ND,Aa];rw[AiF (by omega),AG,BF (by omega)];refine Ag ?_;rw[show ApM (0+(i+b.length)*1+1) (Aw eL o).length=true by rw[BB A4];simp;omega];refine Ag ?_;rw[BJ g2,Qe _ _ _ (by omega),Bh (by omega)];refine Ab k1 ?_;rfl
  .rw[k4,hv,ApE hlt,Ak,AqT]
   have e1:4294967296 ^ i*(a[i]+4294967296*Ak (ApK (i+1) a))*Ak b=4294967296 ^ i*(a[i]*Ak b)+4294967296 ^ i*4294967296*Ak (ApK (i+1) a)*Ak b:=by
    rw[ArC,Aqq,AqY _ a[i],AqY (4294967296 ^ i) 4294967296]
   rw[e1];omega
variable (C:CloneF D)
include C
theorem YB{a b:List Nat}(ha:Limbs a)(hb:Limbs b)(hsz:a.length+b.length<=1000000000):D.ask (.fn 282) [eN a,eN b] []=some (eN (AY (Ak a*Ak b)),[]):=by
 obtain⟨o,k1,k2,k3,k4⟩:=YA K a b ha hb hsz a.length 0 (Ary (a.length+b.length) 0) (by omega) (by omega) (λx hx=>by rw[(Asv.1 hx).2];omega) (by simp) (λy hy=>(Asv.1 (AqE hy)).2);rw[List.length_replicate]at k1 k3;have hz:∀ n,Ak (Ary n 0)=0:=λn=>by
  induction n with
  |zero=>rfl
  |succ n ih=>rw[List.replicate_succ,Ak,ih]
 rw[hz,ApD,Nat.pow_zero,Nat.one_mul,ApX]at k4;refine K.fn' Mb _ rfl ((Aoo ..).trans ?_);rw[Av,Av,AiF (by omega)];simp only[AG];rw[show ApM (a.length+b.length) (a.length+b.length)=true by simp,AS (n:=a.length+b.length) (b:=4) (by omega) (by omega),Ac0];refine Ag ?_;refine Ag ?_;refine Ab k1 ?_;simp only[ND,Aa];rw[A3 A4 _ (by omega)];refine Ag ?_;rw[Cs A4 _ rfl];have gt:=Gx K C (l:=o) (by unfold CG;omega) k2;rw[k4]at gt;refine Ab gt ?_;rfl
theorem AiB{a b:List Nat}(hsa:a.length<=400000000)(ha:Limbs a)(hsb:b.length<=400000000)(hb:Limbs b)(h24:a.length<24\/b.length<24):D.ask (.fn 275) [eN a,eN b] []=some (eN (AY (Ak a*Ak b)),[]):=by
 have t1:(AY (Ak a)).length<=a.length:=by rw[HW a ha];exact D0 a
 have t2:(AY (Ak b)).length<=b.length:=by rw[HW b hb];exact D0 b
 refine K.fn' Ahb _ rfl ((Aok ..).trans ?_);refine Ab (EO K (by unfold CG;omega) ha)?_;simp only[eN,ND,Aa];refine Ab (EO K (by unfold CG;omega) hb)?_;simp only[eN,ND,Aa,Av];have g:=YB K C (AL (Ak a)) (AL (Ak b)) (by omega);rw[A0,A0]at g
 by_cases h1:(AY (Ak a)).length<24
 .refine Ao (by omega)?_
  refine Ab g ?_;rfl
 .refine ltF_go (by omega)?_
  refine Ao (by omega)?_;refine Ab g ?_;rfl
end
section
variable {D:Orc} (K:Knows Al KN D) (Z:Knows Al Qm D) (C:CloneF D)
include K Z C
theorem Fw(neg:Bool){a:List Nat}(ha:Limbs a)(hs:CG a):D.ask (.fn 145) [bv neg,eN a] []=some (.agg (eZ (AO (D5 neg (Ak a)))),[]):=by
 refine Z.fn' AgB _ rfl ((Anl ..).trans ?_);refine Ab (Gx K C hs ha)?_;simp only[eN,ND,Aa,Av];rw[W8];unfold eZ eN
 cases neg with
 |false=>rfl
 |true=>
  refine Ag ?_;refine Ag ?_;refine Ag ?_;have hp:=@EK (Ak a)
  by_cases h:0<Ak a
  .refine Ao (by have:=hp.2 h;omega)?_
   rw[decide_eq_true h];rfl
  .refine ltF_go (by intro e;exact h (hp.1 (by omega)))?_
   rw[decide_eq_false h];rfl
theorem ZB{z:Zi}(hz:Lz 1000000000 z):D.ask (.fn 209) [.agg (eZ z)] []=some (.agg (eZ (AO (zv z))),[]):=by
 refine Z.fn' AgY _ rfl ((AnX ..).trans ?_);refine Ab (Fw K Z C z.neg hz.lim hz.len)?_;rfl
theorem AfY{z:Zi}(hz:Lz 1000000000 z):D.ask (.fn 86) [.agg (eZ z)] []=some (.agg (eZ (AO (-zv z))),[]):=by
 have e:-zv z=D5 (!z.neg) (Ak z.abs):=by
  unfold zv D5
  cases z.neg<;>simp
 rw[e];refine Z.fn' Ald _ rfl ((e86 ..).trans ?_);rw[AbU];have g:=λb=>Fw K Z C b hz.lim hz.len
 cases z.neg with
 |false=>
  refine Ag ?_;refine Ab (g true)?_;rfl
 |true=>
  refine brF_go ?_;refine Ab (g false)?_;rfl
theorem OU{z:Zi}(hz:Lz 1000000000 z):D.ask (.fn 158) [.agg (eZ z)] []=some (iv (CH (zv z)),[]):=by
 refine Z.fn' AgJ _ rfl ((Anw ..).trans ?_);refine Ab (ZB K Z C hz)?_;simp only[eZ,eN,ND,Aa,Av];unfold AO CH
 by_cases h:zv z<0
 .rw[if_pos h,decide_eq_true h]
  rfl
 .rw[if_neg h,decide_eq_false h]
  refine brF_go ?_;have hp:=@EK (zv z).natAbs
  by_cases h2:0<zv z
  .rw[if_pos h2]
   refine Ao (by have:=hp.2 (by omega);dsimp only;omega)?_;rfl
  .rw[if_neg h2]
   refine ltF_go (by dsimp only;intro e;have:=hp.1 (by omega);omega)?_;rfl
theorem Akk(n:Int)(h1:-9223372036854775808<=n)(h2:n<9223372036854775808):D.ask (.fn 84) [iv n] []=some (.agg (eZ (AO n)),[]):=by
 refine Z.fn' Alb _ rfl ((e84 ..).trans ?_);have hl:∀ m:Nat,m<18446744073709551616->(AY m).length<=2:=λm h=>BG (by omega)
 by_cases h:n<0
 .refine Ao h ?_
  have e1:Aj.add .i64 n 1=n+1:=Hb (by omega) (by omega);have e2:Aj.sub .i64 0 (n+1)=((n.natAbs-1:Nat):Int):=by rw[Gk (by omega) (by omega)];omega
  rw[e1,e2,B4 (by omega),show (1:Int)=((1:Nat):Int) from rfl,Da (by omega),show n.natAbs-1+1=n.natAbs by omega];refine Ab (Af1 K C n.natAbs (by omega))?_;simp only[eN,ND,Aa];have g:=Fw K Z C true (AL n.natAbs) (by unfold CG;have:=hl n.natAbs (by omega);omega);rw[A0,show D5 true n.natAbs=n by unfold D5;rw[if_pos rfl];omega]at g;refine Ab g ?_;rfl
 .refine ltF_go h ?_
  obtain⟨m,rfl⟩:=Int.eq_ofNat_of_zero_le (show 0<=n by omega);rw[B4 (by omega)];refine Ab (Af1 K C m (by omega))?_;simp only[eN,ND,Aa];have g:=Fw K Z C false (AL m) (by unfold CG;have:=hl m (by omega);omega);rw[A0,show D5 false m=(m:Int) from rfl]at g;refine Ab g ?_;rfl
theorem AfW{a b:Zi}(ha:Lz 1000000000 a)(hb:Lz 1000000000 b):D.ask (.fn 285) [.agg (eZ a),.agg (eZ b)] []=some (iv (FR (zv a) (zv b)),[]):=by
 refine Z.fn' Ahf _ rfl ((Aoq ..).trans ?_);refine Ab (OU K Z C ha)?_;simp only[ND,Aa];refine Ab (OU K Z C hb)?_;simp only[ND,Aa];have g1:=Ua K (a:=b.abs) (b:=a.abs) hb.len hb.lim ha.len ha.lim;have g2:=Ua K (a:=a.abs) (b:=b.abs) ha.len ha.lim hb.len hb.lim;have na:=Ac1 a;have nb:=Ac1 b;have za:=Xa a;have zb:=Xa b;have va:zv a=D5 a.neg (Ak a.abs):=rfl;have vb:zv b=D5 b.neg (Ak b.abs):=rfl;unfold CH
 by_cases h1:zv a<0
 .rw[if_pos h1]
  rw[D5,if_pos (na.1 h1).1]at va
  by_cases h2:zv b<0
  .rw[if_pos h2]
   rw[D5,if_pos (nb.1 h2).1]at vb;refine ltF_go (by decide)?_;refine ltF_go (by decide)?_;refine Ao (by decide)?_;refine Ab g1 ?_;rw[show FR (zv a) (zv b)=DA (Ak b.abs) (Ak a.abs) by
    unfold FR DA;rw[va,vb]
    by_cases h3:Ak b.abs<Ak a.abs
    .rw[if_pos (by omega),if_pos h3]
    .rw[if_neg (by omega),if_neg h3]
     by_cases h4:Ak a.abs<Ak b.abs
     .rw[if_pos (by omega),if_pos h4]
     .rw[if_neg (by omega),if_neg h4]]
   rfl
  .rw[if_neg h2]
   rw[show FR (zv a) (zv b)=-1 by unfold FR;rw[if_pos (by omega)]]
   by_cases h3:0<zv b
   .rw[if_pos h3];rfl
   .rw[if_neg h3];rfl
 .rw[if_neg h1]
  by_cases h2:zv b<0
  .rw[if_pos h2]
   rw[show FR (zv a) (zv b)=1 by unfold FR;rw[if_neg (by omega),if_pos (by omega)]]
   by_cases h3:0<zv a
   .rw[if_pos h3];rfl
   .rw[if_neg h3];rfl
  .rw[if_neg h2]
   have ea:zv a=(Ak a.abs:Int):=by
    by_cases h:0<Ak a.abs
    .rw[va,D5,if_neg (λe=>h1 (na.2 ⟨e,h⟩))]
    .rw[za.2 (by omega)];omega
   have eb:zv b=(Ak b.abs:Int):=by
    by_cases h:0<Ak b.abs
    .rw[vb,D5,if_neg (λe=>h2 (nb.2 ⟨e,h⟩))]
    .rw[zb.2 (by omega)];omega
   have ec:FR (zv a) (zv b)=DA (Ak a.abs) (Ak b.abs):=by
    unfold FR DA;rw[ea,eb]
    by_cases h3:Ak a.abs<Ak b.abs
    .rw[if_pos (by omega),if_pos h3]
    .rw[if_neg (by omega),if_neg h3]
     by_cases h4:Ak b.abs<Ak a.abs
     .rw[if_pos (by omega),if_pos h4]
     .rw[if_neg (by omega),if_neg h4]
   rw[ec]
   by_cases h3:0<zv a
   .rw[if_pos h3]
    by_cases h4:0<zv b
    .rw[if_pos h4]
     refine ltF_go (by decide)?_;refine ltF_go (by decide)?_;refine ltF_go (by decide)?_;refine Ab g2 ?_;rfl
    .rw[if_neg h4]
     refine ltF_go (by decide)?_;refine Ao (by decide)?_;rw[show DA (Ak a.abs) (Ak b.abs)=1 by unfold DA;rw[if_neg (by omega),if_pos (by omega)]]
   .rw[if_neg h3]
    by_cases h4:0<zv b
    .rw[if_pos h4]
     refine Ao (by decide)?_;rw[show DA (Ak a.abs) (Ak b.abs)=-1 by unfold DA;rw[if_pos (by omega)]]
    .rw[if_neg h4]
     refine ltF_go (by decide)?_;refine ltF_go (by decide)?_;refine ltF_go (by decide)?_;refine Ab g2 ?_;rfl
theorem AfV{k:Nat}(hk:k<=900000000){a b:Zi}(ha:Lz k a)(hb:Lz k b):D.ask (.fn 87) [.agg (eZ a),.agg (eZ b)] []=some (.agg (eZ (AO (zv a+zv b))),[]):=by
 have la:=ha.len;have lb:=hb.len;refine Z.fn' Ale _ rfl ((e87 ..).trans ?_);have hfr:∀(neg:Bool) (n:Nat),n<4294967296 ^ (k+1)->D.ask (.fn 145) [bv neg,eN (AY n)] []=some (.agg (eZ (AO (D5 neg n))),[]):=λneg n h=>by
  have:=Fw K Z C neg (AL n) (by unfold CG;have:=BG h;omega)
  rwa [A0]at this
 have ba:=CX ha.lim;have bb:=CX hb.lim;have pa:4294967296 ^ a.abs.length<=4294967296 ^ k:=Aq0 (by omega) la;have pb:4294967296 ^ b.abs.length<=4294967296 ^ k:=Aq0 (by omega) lb;have ps:4294967296 ^ (k+1)=4294967296 ^ k*4294967296:=AqT ..
 by_cases h:a.neg=b.neg
 .rw[WJ,show (a.neg == b.neg)=true by simpa using h]
  refine Ag ?_;refine Ab (Aix K C (by omega) ha.lim (by omega) hb.lim)?_;simp only[eN,ND,Aa];refine Ab (hfr a.neg (Ak a.abs+Ak b.abs) (by omega))?_;rw[show D5 a.neg (Ak a.abs+Ak b.abs)=zv a+zv b by
   unfold zv;rw[←h];unfold D5;split<;>omega]
  rfl
 .rw[WJ,show (a.neg == b.neg)=false by simpa using h]
  refine brF_go ?_;have hop:zv a+zv b=D5 a.neg (Ak a.abs)+D5 (!a.neg) (Ak b.abs):=by
   unfold zv;have:b.neg = !a.neg:=by
    revert h
    cases a.neg<;>cases b.neg<;>simp
   rw[this]
  have g1:=Zg K C (a:=a.abs) (b:=b.abs) (by unfold CG;omega) ha.lim (by unfold CG;omega) hb.lim;have g2:=Zg K C (a:=b.abs) (b:=a.abs) (by unfold CG;omega) hb.lim (by unfold CG;omega) ha.lim;unfold Nx at g1 g2;refine Ab g1 ?_
  by_cases hle:Ak b.abs<=Ak a.abs
  .rw[if_pos hle]
   simp only[eN,ND,Aa];refine Ab (hfr a.neg (Ak a.abs-Ak b.abs) (by omega))?_;rw[show D5 a.neg (Ak a.abs-Ak b.abs)=zv a+zv b by
    rw[hop];unfold D5
    cases a.neg<;>simp<;>omega]
   rfl
  .rw[if_neg hle]
   rw[if_pos (by omega)]at g2;simp only[eN,ND,Aa];refine Ab g2 ?_;simp only[eN,ND,Aa];refine Ab (hfr b.neg (Ak b.abs-Ak a.abs) (by omega))?_;rw[show D5 b.neg (Ak b.abs-Ak a.abs)=zv a+zv b by
    rw[hop];have:b.neg = !a.neg:=by
     revert h
     cases a.neg<;>cases b.neg<;>simp
    rw[this];unfold D5
    cases a.neg<;>simp<;>omega]
   rfl
theorem AfX{k m:Nat}(hk:k<=400000000)(hkm:m<=400000000){a b:Zi}(ha:Lz k a)(hb:Lz m b)(h24:a.abs.length<24\/b.abs.length<24):D.ask (.fn 264) [.agg (eZ a),.agg (eZ b)] []=some (.agg (eZ (AO (zv a*zv b))),[]):=by
 have la:=ha.len;have lb:=hb.len;refine Z.fn' Ag9 _ rfl ((Aoh ..).trans ?_);have hm:InB (k+m) (zv a*zv b):=ha.inb.mul hb.inb;have hab:(zv a*zv b).natAbs=Ak a.abs*Ak b.abs:=by
  have f:∀ z:Zi,(zv z).natAbs=Ak z.abs:=λz=>by
   unfold zv D5;split
   .rw[Arf];rfl
   .rfl
  rw[AsM,f,f]
 unfold InB at hm;rw[hab]at hm;have hl:=BG hm;have hfr:∀(neg:Bool),D.ask (.fn 145) [bv neg,eN (AY (Ak a.abs*Ak b.abs))] []=some (.agg (eZ (AO (D5 neg (Ak a.abs*Ak b.abs)))),[]):=λneg=>by
  have:=Fw K Z C neg (AL (Ak a.abs*Ak b.abs)) (by unfold CG;omega)
  rwa [A0]at this
 have g:=AiB K C (by omega) ha.lim (by omega) hb.lim h24;have hs:D5 (a.neg != b.neg) (Ak a.abs*Ak b.abs)=zv a*zv b:=by
  unfold zv D5
  cases a.neg<;>cases b.neg<;>simp[Int.mul_neg,Int.neg_mul]
 rw[AbU,WJ]
 by_cases h:a.neg=b.neg
 .rw[show (!(a.neg == b.neg))=false by simp[h]]
  rw[show (a.neg != b.neg)=false by simp[h]]at hs;refine brF_go ?_;refine Ab g ?_;simp only[eN,ND,Aa];refine Ab (hfr false)?_;rw[hs];rfl
 .rw[show (!(a.neg == b.neg))=true by simp[h]]
  rw[show (a.neg != b.neg)=true by simp[h]]at hs;refine Ag ?_;refine Ab g ?_;simp only[eN,ND,Aa];refine Ab (hfr true)?_;rw[hs];rfl
end
def GM(c:UInt8):Bool:=decide (48<=c.toNat)&&decide (c.toNat<=57)
theorem ZN{c:UInt8}(h:GM c=true):c.toNat-48<=9:=by
 have h2:=(Arq.1 h);have h4:=of_decide_eq_true h2.2;omega
theorem AkB{c:UInt8}(h:GM c=true):48<=c.toNat/\c.toNat<=57:=by
 have h2:=(Arq.1 h);exact⟨of_decide_eq_true h2.1,of_decide_eq_true h2.2⟩
theorem AkC{c:UInt8}(h:GM c=false):c.toNat<48\/¬ c.toNat<48/\57<c.toNat:=by
 by_cases h1:c.toNat<48
 .exact .inl h1
 .refine .inr ⟨h1,?_⟩
  by_cases h2:57<c.toNat
  .exact h2
  .unfold GM at h
   rw[decide_eq_true (by omega),decide_eq_true (by omega)]at h
   cases h
theorem Aiq{c:UInt8}(h:48<=c.toNat/\c.toNat<=57):Aj.sub .u8 (c.toNat:Int) 48=((c.toNat-48:Nat):Int):=by
 show IntKind.u8.wrap ((c.toNat:Int)-48)=_
 rw[IntKind.wrap_u8];omega
def LO(v:Nat)(l:List UInt8):Nat:=l.foldl (λv c=>v*10+(c.toNat-48)) v
theorem NT(v:Nat)(c:UInt8)(l:List UInt8):LO v (c::l)=LO (v*10+(c.toNat-48)) l:=by
 unfold LO;exact Arl ..
theorem UV:∀(l:List UInt8) {v i:Nat},l.all GM=true->v<4294967296 ^ i->LO v l<4294967296 ^ (i+l.length)
 |[],v,i,_,hv=>hv
 |c::l,v,i,h,hv=>by
  rw[ArR,Arq]at h;have h1:=ZN h.1;have:=UV l (v:=v*10+(c.toNat-48)) (i:=i+1) h.2 (by rw[AqT];omega);rw[NT,ApI,show i+(l.length+1)=i+1+l.length by omega];exact this
theorem DR{s:ByteArray}{i:Nat}(h:i<s.size):Aj.sat s i=((s.data.toList[i]'(by simpa using h)).toNat:Int):=by
 show (match s[i]? with|some c=>Int.ofNat c.toNat|none=>0)=_
 rw[getElem?_pos s i h];rfl
def ScN(q:Nat):Prop:=q=1\/q=10\/q=100\/q=1000\/q=10000\/q=100000\/q=1000000\/q=10000000\/q=100000000
theorem ScN.next{q:Nat}(h:ScN q):q=100000000\/q<100000000/\ScN (q*10):=by
 unfold ScN at *;omega
theorem ScN.le{q:Nat}(h:ScN q):1<=q/\q<=100000000:=by
 unfold ScN at h;omega
theorem SL(v q p d:Nat):v*(q*10)+(p*10+d)=(v*q+p)*10+d:=by
 rw[Aqq,AqY];omega
theorem Mp:∀(m c:Nat) (a:List Nat),(DW m c a).length=a.length+1
 |_,_,[]=>rfl
 |m,c,x::a=>by rw[DW,ApI,Mp,ApI]
section
variable {D:Orc} (K:Knows Al KN D)
include K
theorem Xz{c:UInt8}(h:GM c=true):D.ask (.fn 202) [.v (.int .u8 (c.toNat:Int))] []=some (.tup [.v (.int .u32 ((c.toNat-48:Nat):Int)),bv true],[]):=by
 have h2:=(Arq.1 h);have h3:=of_decide_eq_true h2.1;have h4:=of_decide_eq_true h2.2;refine K.fn' AaQ _ rfl ((AkN ..).trans ?_);refine CA (by omega)?_;refine CA (by omega)?_;rw[show Aj.sub .u8 (c.toNat:Int) 48=((c.toNat-48:Nat):Int) from by
  show IntKind.u8.wrap ((c.toNat:Int)-48)=_
  rw[IntKind.wrap_u8];omega,BJ (by omega)]
theorem ZO{c:UInt8}(h:GM c=false):∃ x:Int,D.ask (.fn 202) [.v (.int .u8 (c.toNat:Int))] []=some (.tup [.v (.int .u32 x),bv false],[]):=by
 refine⟨Aj.conv .u32 (Aj.sub .u8 (c.toNat:Int) 48),K.fn' AaQ _ rfl ((AkN ..).trans ?_)⟩
 by_cases h1:48<=c.toNat
 .refine CA (by omega)?_
  refine(AiU ?_).trans rfl;intro h2;unfold GM at h;rw[decide_eq_true h1,decide_eq_true (by omega)]at h
  cases h
 .exact leF_go (by omega)rfl
theorem Ad7{a:List Nat}(ha:Limbs a)(hs:a.length<=999999999)(m:Nat)(hm:m<4294967296):∀(k i:Nat) (out:List Nat) (c:Nat),a.length-i=k->i<=a.length->c<4294967296->out.length=i->
  ∃(o:List Nat) (c':Nat),D.ask (.lp 203 0) [.v (.int .u32 (m:Int)),.sl 0 0 out.length 1,.v (.int .u64 (c:Int)),eN a,iv (a.length:Int),iv (i:Int)] [ABlk.mk (Aw eL out) true true]
   = some (.tup [iv 0,.sl 1 0 o.length 1,.v (.int .u64 (c':Int))],[.del,.set (ABlk.mk (Aw eL o) true true)])/\c'<4294967296/\o++[c']=out++DW m c (a.drop i):=by
 intro k
 induction k with
 |zero=>
  intro i out c hi hle hc ho;refine⟨out,c,?_,hc,?_⟩
  .refine K.lp' PJ _ rfl (by kernel_rfl) ((Z3 ..).trans ?_)
   refine ltF_go (by omega)?_;rfl
  .rw[show a.drop i=[] from ApL (by omega)]
   rfl
 |succ k ih=>
  intro i out c hi hle hc ho;have hlt:i<a.length:=by omega
  have hx:=ha.get hlt;have hp:=N8 hx hm;obtain⟨o,c',h1,h2,h3⟩:=ih (i+1) (out++[(a[i]*m+c) % 4294967296]) ((a[i]*m+c) / 4294967296) (by omega) (by omega) (by omega) (by simp;omega);refine⟨o,c',?_,h2,?_⟩
  .refine K.lp' PJ _ rfl (by kernel_rfl) ((Z3 ..).trans ?_)
   refine Ao (by omega)?_;rw[AG,AD (Apy hlt)];simp only[eL,Fq,ND,Aa];have hf:Bp (out.length+1) 4=true:=AS (by omega) (by omega);have hb1:ApM (0+out.length*1) (Aw eL out).length=true:=A3 A4 out (by omega);have e3:∀ s:Nat,ApK 0 (ApG (0+out.length*1) (Aw eL out))++[.v (.int .u32 (s:Int))]=Aw eL (out++[s]):=λs=>by
    rw[ApD,Bf A4 out (by omega)];exact Bg eL out s
   rw[ApH,Aql]at h1;rw[B4 (show a[i]<_ by omega),B4 (show m<_ by omega),Rn (by omega),Da (by omega),Ff,Kp,Bh (by omega),hf,hb1,e3];refine Ag ?_;refine Ag ?_;refine ltF_go (by decide)?_;refine Ab h1 ?_;rfl
  .rw[h3,ApE hlt,DW,Ap9]
   rfl
theorem V0{a:List Nat}(ha:Limbs a)(hs:a.length<=999999999){m:Nat}(hm:m<4294967296){c:Nat}(hc:c<4294967296):∃ L:List Nat,D.ask (.fn 203) [eN a,.v (.int .u32 (m:Int)),.v (.int .u32 (c:Int))] []=some (eN L,[])/\Limbs L/\Ak L=Ak a*m+c/\L.length<=a.length+1:=by
 obtain⟨o,c',g,hc',ho⟩:=Ad7 K ha hs m hm a.length 0 [] c (by omega) (by omega) hc rfl;rw[Ap4,ApD]at ho;have hol:o.length=a.length:=by
  have:=congrArg AsD ho;rw[ApH,Mp]at this;simpa using this
 have hL:=GX m a c hm ha hc;have hV:=Il m a c;rw[←ho]at hL hV
 by_cases h0:c'=0
 .subst h0
  refine⟨o,?_,λx hx=>hL x (List.mem_append_left _ hx),?_,by omega⟩
  .refine K.fn' PJ _ rfl ((AkO ..).trans ?_)
   rw[Av,Bh (by omega),AG,AS (by omega) (by omega)];refine Ag ?_;rw[B4 (show c<_ by omega)];refine Ab g ?_;simp only[Fq,ND,Aa];refine ltF_go (by omega)?_;rw[A3 A4 o (by omega)];refine Ag ?_;rw[Bf A4 o rfl,C2 A4 o];rfl
  .rw[←hV,Fo]
   simp[Ak]
 .refine⟨o++[c'],?_,hL,hV,by simp;omega⟩
  refine K.fn' PJ _ rfl ((AkO ..).trans ?_);rw[Av,Bh (by omega),AG,AS (by omega) (by omega)];refine Ag ?_;rw[B4 (show c<_ by omega)];refine Ab g ?_;simp only[Fq,ND,Aa];refine Ao (by omega)?_;rw[BJ hc'];have e3:ApK 0 (ApG (0+o.length*1) (Aw eL o))++[.v (.int .u32 (c':Int))]=Aw eL (o++[c']):=by
   rw[ApD,Bf A4 o (by omega)];exact Bg eL o c'
  rw[AS (n:=o.length+1) (b:=4) (by omega) (by omega),A3 A4 o (by omega),e3,A3 A4 (o++[c']) (by simp)];refine Ag ?_;refine Ag ?_;refine Ag ?_;rw[ApD,Bf A4 (o++[c']) (by simp),show BA (o.length+1) 1 (Aw eL (o++[c']))=(o++[c']).map eL from by have:=C2 A4 (o++[c']);rwa [ApH]at this];rfl
def Aku(x:AV)(L:List Nat):Prop:=x=eN L\/(x=.v (.slice none 0 0)/\L=[])
set_option maxHeartbeats 4000000 in
theorem Yf{s:ByteArray}(hs:s.size<=4000):∀(m i:Nat) (x:AV) (L:List Nat) (p q:Nat),s.size-i=m->i<=s.size->Aku x L->Limbs L->L.length<=i->p<q->ScN q->
  ((s.data.toList.drop i).all GM=true->∃(L':List Nat) (p' q':Nat),D.ask (.lp 148 0) [sv s,x,.v (.int .u32 (p:Int)),.v (.int .u32 (q:Int)),iv (s.size:Int),iv (i:Int)] []=some (.tup [iv 1,eN L',.v (.int .u32 (p':Int)),.v (.int .u32 (q':Int))],[])
    ∧ Limbs L'/\L'.length<=s.size/\p'<q'/\ScN q'/\Ak L'*q'+p'=LO (Ak L*q+p) (s.data.toList.drop i))
  ∧ ((s.data.toList.drop i).all GM=false->D.ask (.lp 148 0) [sv s,x,.v (.int .u32 (p:Int)),.v (.int .u32 (q:Int)),iv (s.size:Int),iv (i:Int)] []=some (.tup [bv true,.ls [],iv 20],[])):=by
 intro m;have hsl:s.data.toList.length=s.size:=by simp
 induction m with
 |zero=>
  intro i x L p q hm hi hx hL hLl hp hq;have e:s.data.toList.drop i=[]:=ApL (by omega);rw[e];refine⟨λ_=>⟨L,p,q,?_,hL,by omega,hp,hq,rfl⟩,λh=>by cases h⟩;rcases hx with rfl|⟨rfl,rfl⟩
  .refine K.lp' EG _ rfl (by kernel_rfl) ((K8 ..).trans ?_)
   exact ltF_go (by omega)rfl
  .refine K.lp' EG _ rfl (by kernel_rfl) ((Iw ..).trans ?_)
   exact ltF_go (by omega)rfl
 |succ m ih=>
  intro i x L p q hm hi hx hL hLl hp hq;have hlt:i<s.size:=by omega
  have hlt':i<s.data.toList.length:=by omega
  have e:s.data.toList.drop i=s.data.toList[i]::s.data.toList.drop (i+1):=ApE hlt';rw[e,ArR];have hq1:=hq.le
  cases hd:GM s.data.toList[i]with
  |false=>
   refine⟨λh=>by simp at h,λ_=>?_⟩;obtain⟨z,hz⟩:=ZO K hd;rcases hx with rfl|⟨rfl,rfl⟩
   .refine K.lp' EG _ rfl (by kernel_rfl) ((K8 ..).trans ?_)
    refine Ao (by omega)?_;rw[AG,Cu,BF hlt];refine Ag ?_;rw[DR hlt];refine Ab hz ?_;simp only[Fq,ND,Aa];rfl
   .refine K.lp' EG _ rfl (by kernel_rfl) ((Iw ..).trans ?_)
    refine Ao (by omega)?_;rw[AG,Cu,BF hlt];refine Ag ?_;rw[DR hlt];refine Ab hz ?_;simp only[Fq,ND,Aa];rfl
  |true=>
   have hy:=Xz K hd;have hdd:=ZN hd;rw[ApZ,NT];rcases hq.next with h8|⟨h8,hq2⟩
   .obtain⟨L2,g,hL2,hV2,hl2⟩:=V0 K hL (by omega) (m:=q*10) (by omega) (c:=p*10+(s.data.toList[i].toNat-48)) (by omega)
    have ih':=ih (i+1) (eN L2) L2 0 1 (by omega) (by omega) (.inl rfl) hL2 (by omega) (by omega) (.inl rfl);rw[show Ak L2*1+0=(Ak L*q+p)*10+(s.data.toList[i].toNat-48) by rw[Asi,Aqs,hV2,SL]]at ih';refine⟨λh=>?_,λh=>?_⟩
    .obtain⟨L',p',q',h1,h2⟩:=ih'.1 h
     refine⟨L',p',q',?_,h2⟩;rcases hx with rfl|⟨rfl,rfl⟩
     .refine K.lp' EG _ rfl (by kernel_rfl) ((K8 ..).trans ?_)
      refine Ao (by omega)?_;rw[AG,Cu,BF hlt];refine Ag ?_;rw[DR hlt];refine Ab hy ?_;simp only[Fq,ND,Aa];refine brF_go ?_;rw[show (10:Int)=((10:Nat):Int) from rfl,CI,CI,FK,Ap1 (show q*10<4294967296 by omega),Ap1 (show p*10<4294967296 by omega),Ap1 (show p*10+(s.data.toList[i].toNat-48)<4294967296 by omega),Bh (by omega)];refine AF (by omega)?_;refine Ab g ?_;simp only[eN,ND,Aa];refine Ab h1 ?_;rfl
     .refine K.lp' EG _ rfl (by kernel_rfl) ((Iw ..).trans ?_)
      refine Ao (by omega)?_;rw[AG,Cu,BF hlt];refine Ag ?_;rw[DR hlt];refine Ab hy ?_;simp only[Fq,ND,Aa];refine brF_go ?_;rw[show (10:Int)=((10:Nat):Int) from rfl,CI,CI,FK,Ap1 (show q*10<4294967296 by omega),Ap1 (show p*10<4294967296 by omega),Ap1 (show p*10+(s.data.toList[i].toNat-48)<4294967296 by omega),Bh (by omega)];refine AF (by omega)?_;refine Ab g ?_;simp only[eN,ND,Aa];refine Ab h1 ?_;rfl
    .have h1:=ih'.2 h
     rcases hx with rfl|⟨rfl,rfl⟩
     .refine K.lp' EG _ rfl (by kernel_rfl) ((K8 ..).trans ?_)
      refine Ao (by omega)?_;rw[AG,Cu,BF hlt];refine Ag ?_;rw[DR hlt];refine Ab hy ?_;simp only[Fq,ND,Aa];refine brF_go ?_;rw[show (10:Int)=((10:Nat):Int) from rfl,CI,CI,FK,Ap1 (show q*10<4294967296 by omega),Ap1 (show p*10<4294967296 by omega),Ap1 (show p*10+(s.data.toList[i].toNat-48)<4294967296 by omega),Bh (by omega)];refine AF (by omega)?_;refine Ab g ?_;simp only[eN,ND,Aa];refine Ab h1 ?_;rfl
     .refine K.lp' EG _ rfl (by kernel_rfl) ((Iw ..).trans ?_)
      refine Ao (by omega)?_;rw[AG,Cu,BF hlt];refine Ag ?_;rw[DR hlt];refine Ab hy ?_;simp only[Fq,ND,Aa];refine brF_go ?_;rw[show (10:Int)=((10:Nat):Int) from rfl,CI,CI,FK,Ap1 (show q*10<4294967296 by omega),Ap1 (show p*10<4294967296 by omega),Ap1 (show p*10+(s.data.toList[i].toNat-48)<4294967296 by omega),Bh (by omega)];refine AF (by omega)?_;refine Ab g ?_;simp only[eN,ND,Aa];refine Ab h1 ?_;rfl
   .have ih':=ih (i+1) x L (p*10+(s.data.toList[i].toNat-48)) (q*10) (by omega) (by omega) hx hL (by omega) (by omega) hq2
    rw[SL]at ih';refine⟨λh=>?_,λh=>?_⟩
    .obtain⟨L',p',q',h1,h2⟩:=ih'.1 h
     refine⟨L',p',q',?_,h2⟩;rcases hx with rfl|⟨rfl,rfl⟩
     .refine K.lp' EG _ rfl (by kernel_rfl) ((K8 ..).trans ?_)
      refine Ao (by omega)?_;rw[AG,Cu,BF hlt];refine Ag ?_;rw[DR hlt];refine Ab hy ?_;simp only[Fq,ND,Aa];refine brF_go ?_;rw[show (10:Int)=((10:Nat):Int) from rfl,CI,CI,FK,Ap1 (show q*10<4294967296 by omega),Ap1 (show p*10<4294967296 by omega),Ap1 (show p*10+(s.data.toList[i].toNat-48)<4294967296 by omega),Bh (by omega)];refine eqF_go (by omega)?_;refine Ab h1 ?_;rfl
     .refine K.lp' EG _ rfl (by kernel_rfl) ((Iw ..).trans ?_)
      refine Ao (by omega)?_;rw[AG,Cu,BF hlt];refine Ag ?_;rw[DR hlt];refine Ab hy ?_;simp only[Fq,ND,Aa];refine brF_go ?_;rw[show (10:Int)=((10:Nat):Int) from rfl,CI,CI,FK,Ap1 (show q*10<4294967296 by omega),Ap1 (show p*10<4294967296 by omega),Ap1 (show p*10+(s.data.toList[i].toNat-48)<4294967296 by omega),Bh (by omega)];refine eqF_go (by omega)?_;refine Ab h1 ?_;rfl
    .have h1:=ih'.2 h
     rcases hx with rfl|⟨rfl,rfl⟩
     .refine K.lp' EG _ rfl (by kernel_rfl) ((K8 ..).trans ?_)
      refine Ao (by omega)?_;rw[AG,Cu,BF hlt];refine Ag ?_;rw[DR hlt];refine Ab hy ?_;simp only[Fq,ND,Aa];refine brF_go ?_;rw[show (10:Int)=((10:Nat):Int) from rfl,CI,CI,FK,Ap1 (show q*10<4294967296 by omega),Ap1 (show p*10<4294967296 by omega),Ap1 (show p*10+(s.data.toList[i].toNat-48)<4294967296 by omega),Bh (by omega)];refine eqF_go (by omega)?_;refine Ab h1 ?_;rfl
     .refine K.lp' EG _ rfl (by kernel_rfl) ((Iw ..).trans ?_)
      refine Ao (by omega)?_;rw[AG,Cu,BF hlt];refine Ag ?_;rw[DR hlt];refine Ab hy ?_;simp only[Fq,ND,Aa];refine brF_go ?_;rw[show (10:Int)=((10:Nat):Int) from rfl,CI,CI,FK,Ap1 (show q*10<4294967296 by omega),Ap1 (show p*10<4294967296 by omega),Ap1 (show p*10+(s.data.toList[i].toNat-48)<4294967296 by omega),Bh (by omega)];refine eqF_go (by omega)?_;refine Ab h1 ?_;rfl
def Hf(s:ByteArray):List Nat × Int:=
 if 4000<s.size then([],2) else if s.size=0 then([],20) else if s.data.toList.all GM=true then(AY (LO 0 s.data.toList),0) else([],20)
variable (C:CloneF D)
include C
theorem Yg(s:ByteArray):D.ask (.fn 148) [sv s] []=some (.tup [eN (Hf s).1,iv (Hf s).2],[]):=by
 refine K.fn' EG _ rfl ((Ano ..).trans ?_);unfold Hf;rw[Cu]
 by_cases h1:4000<s.size
 .rw[if_pos h1]
  exact Ao (by omega)rfl
 rw[if_neg h1];refine ltF_go (by omega)?_
 by_cases h2:s.size=0
 .rw[if_pos h2]
  have h3:s=ByteArray.empty:=by simpa using h2
  exact Dm (by rw[h3];rfl)rfl
 rw[if_neg h2];refine(En (λh=>h2 (by rw[h];rfl))).trans ?_;have g:=Yf K (s:=s) (by omega) s.size 0 (.v (.slice none 0 0)) [] 0 1 (by omega) (by omega) (.inr ⟨rfl,rfl⟩) BZ (by simp) (by omega) (.inl rfl);rw[ApD]at g
 by_cases h3:s.data.toList.all GM=true
 .rw[if_pos h3]
  obtain⟨L',p',q',h4,hL,hl,hp,hq,hv⟩:=g.1 h3;have hq1:=hq.le;obtain⟨L2,g2,hL2,hV2,hl2⟩:=V0 K hL (by omega) (m:=q') (by omega) (c:=p') (by omega);refine Ab h4 ?_;simp only[eN,Fq,ND,Aa];refine Ag ?_;refine Ab g2 ?_;simp only[eN,ND,Aa];refine Ab (Gx K C (by unfold CG;omega) hL2)?_;rw[hV2,hv];rfl
 .rw[if_neg h3]
  refine Ab (g.2 (by simpa using h3))?_;rfl
end
theorem Fa(s:ByteArray):Limbs (Hf s).1:=by
 unfold Hf;split
 .exact BZ
 split
 .exact BZ
 split
 .exact AL _
 .exact BZ
theorem Ia(s:ByteArray):(Hf s).1.length<=4000:=by
 unfold Hf;split
 .simp
 split
 .simp
 split
 .rename_i h1 h2 h3
  refine Nat.le_trans (BG (k:=s.size) ?_) (by omega);have:=UV s.data.toList h3 (v:=0) (i:=0) (by simp)
  rwa [ApX,show s.data.toList.length=s.size by simp]at this
 .simp
def MH(s:ByteArray):Prop:=1<=s.size/\s.extract 0 1=AI [45]
instance (s:ByteArray):Decidable (MH s):=by unfold MH;exact inferInstance
def He(s:ByteArray):ByteArray × Bool:=if MH s then(s.extract 1 s.size,true) else(s,false)
def Gj(s:ByteArray):Zi × Int:=if(Hf (He s).1).2=0 then(AO (D5 (He s).2 (Ak (Hf (He s).1).1)),0) else(⟨false,[]⟩,(Hf (He s).1).2)
section
variable {D:Orc} (K:Knows Al KN D) (Z:Knows Al Qm D) (C:CloneF D)
include Z
theorem Ad9(s:ByteArray):D.ask (.fn 241) [sv s,sv (AI [45])] []=some (bv (decide (MH s)),[]):=by
 refine Z.fn' Ag7 _ rfl ((Aoa ..).trans ?_);rw[Cu,Cu,show (AI [45]).size=1 from rfl]
 by_cases h1:1<=s.size
 .refine CA (by omega)?_
  rw[show J3 0 1 s.size=true by unfold J3;simp;omega];refine Ag ?_
  by_cases h2:s.extract 0 1=AI [45]
  .rw[decide_eq_true (show MH s from ⟨h1,h2⟩)]
   exact Dm h2 rfl
  .rw[decide_eq_false (show ¬ MH s from λh=>h2 h.2)]
   exact(En h2).trans rfl
 .rw[decide_eq_false (show ¬ MH s from λh=>h1 h.1)]
  exact leF_go (by omega)rfl
theorem AdR(s:ByteArray):D.ask (.fn 201) [sv s,sv (AI [45])] []=some (.tup [sv (He s).1,bv (He s).2],[]):=by
 refine Z.fn' AgW _ rfl ((AnR ..).trans ?_);refine Ab (Ad9 Z s)?_;simp only[ND,Aa];unfold He
 by_cases h:MH s
 .have h1:=h.1
  rw[if_pos h,decide_eq_true h,Cu,Cu,show (AI [45]).size=1 from rfl];refine Ag ?_;rw[show J3 1 s.size s.size=true by unfold J3;rw[AqB h1,AqB (ApA _)]];rfl
 .rw[if_neg h,decide_eq_false h]
  exact brF_go rfl
theorem Ai2(s:ByteArray):D.ask (.fn 147) [sv s,sv (AI [45])] []=some (.tup [sv (He s).1,bv (He s).2],[]):=by
 refine Z.fn' AgD _ rfl ((Ann ..).trans ?_);refine Ab (AdR Z s)?_;rfl
include K C
theorem Y5(s:ByteArray):D.ask (.fn 85) [sv s] []=some (.tup [.agg (eZ (Gj s).1),iv (Gj s).2],[]):=by
 refine Z.fn' Alc _ rfl ((e85 ..).trans ?_);refine Ab (Ai2 Z s)?_;simp only[ND,Aa];refine Ab (Yg K C (He s).1)?_;simp only[eN,Fq,ND,Aa];unfold Gj
 by_cases h:(Hf (He s).1).2=0
 .rw[if_pos h]
  refine AF h ?_;refine Ab (Fw K Z C (He s).2 (Fa _) (by unfold CG;have:=Ia (He s).1;omega))?_;rfl
 .rw[if_neg h]
  exact eqF_go h rfl
end
end Go.Proofs.YtlmhajfbpplpoaaGreat
