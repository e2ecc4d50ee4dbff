/-
  Numbers as limbs of 32 bits, the lowest first. No program in sight.
  Sums, differences and products of limbs, limb by limb. No program in sight.
  Numbers below 0, too: sign and limbs. No program in sight.
  Sums of variables, each so many times: the plain ones. No program in sight.
  Rows put in order by a number: neighbours change places. No program in sight.
  Branches whose truth is known.
  What functions may be called, and which arguments go over as they are.
  Functions of the program as trees: what a call comes to.
  What the sort functions come to: insertion.
  Sums of variables as they lie in cells, and as numbers. No program in sight.
-/
import Derived.Test.YtpncilciembjdaaGreatDoorTAK
import Derived.Test.YtpncilciembjdaaGreatDoorChecked
set_option linter.unusedSectionVars false
set_option linter.unusedSimpArgs false
set_option linter.unusedVariables false
namespace Go.Proofs.YtpncilciembjdaaGreatDoor
open Go.RowKit

def valL:List Nat->Nat
 |[]=>0
 |x::r=>x+4294967296*valL r
def Limbs(l:List Nat):Prop:=∀ x∈l,x<4294967296
def natL(n:Nat):List Nat:=if n=0 then [] else(n % 4294967296)::natL (n / 4294967296)
termination_by n
decreasing_by omega
theorem natL_0:natL 0=[]:=by rw[natL];rfl
theorem natL_pos{n:Nat}(h:n≠0):natL n=(n % 4294967296)::natL (n / 4294967296):=by rw[natL,if_neg h]
theorem natL_limbs:∀(n:Nat),Limbs (natL n):=by
 intro n
 induction n using Nat.strongRecOn with
 |ind n ih=>
  by_cases h:n=0
  .subst h;rw[natL_0];intro x hx;cases hx
  .rw[natL_pos h]
   intro x hx
   rcases List.mem_cons.1 hx with rfl|hx
   .exact Nat.mod_lt _ (by omega)
   .exact ih (n / 4294967296) (by omega) x hx
theorem valL_natL:∀(n:Nat),valL (natL n)=n:=by
 intro n
 induction n using Nat.strongRecOn with
 |ind n ih=>
  by_cases h:n=0
  .subst h;rw[natL_0];rfl
  .rw[natL_pos h,valL,ih (n / 4294967296) (by omega)]
   omega
def topL:List Nat->Nat
 |[]=>0
 |x::r=>if topL r=0/\x=0 then 0 else topL r+1
theorem topL_le:∀ l:List Nat,topL l<=l.length
 |[]=>Nat.le_refl _
 |x::r=>by
  have:=topL_le r
  unfold topL
  rw[List.length_cons]
  split<;>omega
theorem Limbs.cons{x:Nat}{r:List Nat}(h:Limbs (x::r)):x<4294967296/\Limbs r:=⟨h x (List.mem_cons_self ..),fun y hy=>h y (List.mem_cons_of_mem _ hy)⟩
theorem limbs_nil:Limbs []:=fun _ h=>by cases h
theorem limbs_cons{x:Nat}{r:List Nat}(h:x<4294967296)(h2:Limbs r):Limbs (x::r):=fun y hy=>by
 rcases List.mem_cons.1 hy with rfl|hy
 .exact h
 .exact h2 y hy
theorem limbs_app{a b:List Nat}(h:Limbs a)(h2:Limbs b):Limbs (a++b):=fun x hx=>by
 rcases List.mem_append.1 hx with hx|hx
 .exact h x hx
 .exact h2 x hx
theorem Limbs.take{l:List Nat}(h:Limbs l)(n:Nat):Limbs (l.take n):=fun x hx=>h x (List.mem_of_mem_take hx)
theorem Limbs.drop{l:List Nat}(h:Limbs l)(n:Nat):Limbs (l.drop n):=fun x hx=>h x (List.mem_of_mem_drop hx)
theorem Limbs.get{l:List Nat}(h:Limbs l){i:Nat}(hi:i<l.length):l[i]<4294967296:=h _ (List.getElem_mem hi)
theorem topL_0:∀{l:List Nat},topL l=0->valL l=0
 |[],_=>rfl
 |x::r,h=>by
  unfold topL at h
  split at h
  .rename_i h2
   rw[valL,topL_0 h2.1,h2.2]
  .omega
theorem valL_0:∀{l:List Nat},valL l=0->topL l=0
 |[],_=>rfl
 |x::r,h=>by
  rw[valL]at h
  unfold topL
  rw[if_pos ⟨valL_0 (by omega),by omega⟩]
theorem take_top:∀{l:List Nat},Limbs l->l.take (topL l)=natL (valL l)
 |[],_=>by rw[valL,natL_0];rfl
 |x::r,h=>by
  obtain⟨h1,h2⟩:=h.cons
  have ih:=take_top h2
  unfold topL
  split
  .rename_i h3
   rw[List.take_zero,valL,topL_0 h3.1,h3.2,natL_0]
  .rename_i h3
   have h0:valL (x::r)≠0:=by
    intro h0
    rw[valL]at h0
    exact h3 ⟨valL_0 (by omega),by omega⟩
   rw[List.take_succ_cons,natL_pos h0,valL]
   have e1:(x+4294967296*valL r) % 4294967296=x:=by omega
   have e2:(x+4294967296*valL r) / 4294967296=valL r:=by omega
   rw[e1,e2,ih]
theorem valL_app:∀(a b:List Nat),valL (a++b)=valL a+4294967296 ^ a.length*valL b
 |[],b=>by simp[valL]
 |x::r,b=>by
  rw[List.cons_append,valL,valL_app r b,valL,List.length_cons,Nat.pow_succ,Nat.mul_add,←Nat.mul_assoc,Nat.mul_comm 4294967296 (4294967296 ^ r.length)]
  omega
theorem valL_lt:∀{l:List Nat},Limbs l->valL l<4294967296 ^ l.length
 |[],_=>by simp[valL]
 |x::r,h=>by
  obtain⟨h1,h2⟩:=h.cons
  have:=valL_lt h2
  rw[valL,List.length_cons,Nat.pow_succ]
  omega
theorem natL_len(l:List Nat)(h:Limbs l):(natL (valL l)).length=topL l:=by
 rw[←take_top h,List.length_take]
 have:=topL_le l
 omega
theorem natL_len_le{n k:Nat}(h:n<4294967296 ^ k):(natL n).length<=k:=by
 induction k generalizing n with
 |zero=>
  have:n=0:=by simpa using h
  subst this;rw[natL_0];exact Nat.le_refl _
 |succ k ih=>
  by_cases h0:n=0
  .subst h0;rw[natL_0];exact Nat.zero_le _
  .rw[natL_pos h0,List.length_cons]
   have:n / 4294967296<4294967296 ^ k:=by
    rw[Nat.div_lt_iff_lt_mul (by omega)]
    rw[Nat.pow_succ]at h
    exact h
   have:=ih this
   omega
theorem le_natL_len{n k:Nat}(h:4294967296 ^ k<=n):k<(natL n).length:=by
 by_cases h2:k<(natL n).length
 .exact h2
 .have h3:=valL_lt (natL_limbs n)
  rw[valL_natL]at h3
  have h4:4294967296 ^ (natL n).length<=4294967296 ^ k:=Nat.pow_le_pow_right (by omega) (by omega)
  omega
theorem topL_last:∀{l:List Nat},0<topL l->∃ x,l[topL l-1]? = some x/\x≠0
 |[],h=>by simp[topL]at h
 |y::r,h=>by
  by_cases h1:topL r=0
  .have h2:y≠0:=by
    intro h2
    unfold topL at h
    rw[if_pos ⟨h1,h2⟩]at h
    omega
   refine⟨y,?_,h2⟩
   unfold topL
   rw[if_neg (fun e=>h2 e.2),h1]
   rfl
  .obtain⟨x,h3,h4⟩:=topL_last (l:=r) (by omega)
   refine⟨x,?_,h4⟩
   unfold topL
   rw[if_neg (fun e=>h1 e.1)]
   have:topL r+1-1=(topL r-1)+1:=by omega
   rw[this,List.getElem?_cons_succ,h3]
theorem topL_ge:∀{l:List Nat} {i x:Nat},l[i]? = some x->x≠0->i<topL l
 |[],i,x,h,_=>by simp at h
 |y::r,0,x,h,h2=>by
  have h:y=x:=by simpa using h
  unfold topL
  rw[if_neg (fun e=>h2 (by rw[←h];exact e.2))]
  omega
 |y::r,i+1,x,h,h2=>by
  rw[List.getElem?_cons_succ]at h
  have:=topL_ge h h2
  unfold topL
  rw[if_neg (fun e=>by omega)]
  omega
theorem topL_down{l:List Nat}{n:Nat}(h:topL l<=n+1)(h2:l[n]? = some 0):topL l<=n:=by
 by_cases h3:topL l=n+1
 .obtain⟨x,h4,h5⟩:=topL_last (l:=l) (by omega)
  rw[h3,Nat.add_sub_cancel,h2]at h4
  injection h4 with h4
  exact absurd h4.symm h5
 .omega
def eL(n:Nat):List AV:=[.v (.int .u32 (n:Int))]
def eN(l:List Nat):AV:=.ls (l.map eL)
theorem eL_len(x:Nat):(eL x).length=1:=rfl
end Go.Proofs.YtpncilciembjdaaGreatDoor
namespace Go.Proofs.YtpncilciembjdaaGreatDoor
open Go.RowKit

def addL:Nat->List Nat->List Nat->List Nat
 |c,[],_=>[c]
 |c,x::a,b=>((x+b.headD 0+c) % 4294967296)::addL ((x+b.headD 0+c) / 4294967296) a b.tail
theorem headD_lt{b:List Nat}(h:Limbs b):b.headD 0<4294967296:=by
 cases b with
 |nil=>simp
 |cons y b=>exact h.cons.1
theorem Limbs.tail{b:List Nat}(h:Limbs b):Limbs b.tail:=by
 cases b with
 |nil=>exact h
 |cons y b=>exact h.cons.2
theorem valL_ht(b:List Nat):valL b=b.headD 0+4294967296*valL b.tail:=by
 cases b<;>rfl
theorem valL_addL:∀(a b:List Nat) (c:Nat),b.length<=a.length->valL (addL c a b)=c+valL a+valL b
 |[],b,c,h=>by
  obtain rfl:b=[]:=List.length_eq_zero_iff.1 (by simpa using h)
  simp[addL,valL]
 |x::a,b,c,h=>by
  have ih:=valL_addL a b.tail ((x+b.headD 0+c) / 4294967296) (by simp at h ⊢;omega)
  rw[addL,valL,ih,valL,valL_ht b]
  omega
theorem addL_limbs:∀(a b:List Nat) (c:Nat),Limbs a->Limbs b->c<=1->Limbs (addL c a b)
 |[],b,c,_,_,hc=>limbs_cons (by omega) limbs_nil
 |x::a,b,c,ha,hb,hc=>by
  have h1:=headD_lt hb
  have h2:=ha.cons
  exact limbs_cons (Nat.mod_lt _ (by omega)) (addL_limbs a b.tail _ h2.2 hb.tail (by omega))
def subL:Nat->List Nat->List Nat->List Nat
 |_,[],_=>[]
 |c,x::a,b=>(if x<b.headD 0+c then x+4294967296-(b.headD 0+c) else x-(b.headD 0+c))::subL (if x<b.headD 0+c then 1 else 0) a b.tail
def subC:Nat->List Nat->List Nat->Nat
 |c,[],_=>c
 |c,x::a,b=>subC (if x<b.headD 0+c then 1 else 0) a b.tail
theorem subC_le:∀(a b:List Nat) (c:Nat),c<=1->subC c a b<=1
 |[],_,_,h=>h
 |x::a,b,c,h=>subC_le a b.tail _ (by split<;>omega)
theorem valL_subL:∀(a b:List Nat) (c:Nat),Limbs a->Limbs b->c<=1->b.length<=a.length->valL (subL c a b)+valL b+c=valL a+4294967296 ^ a.length*subC c a b
 |[],b,c,_,_,_,h=>by
  obtain rfl:b=[]:=List.length_eq_zero_iff.1 (by simpa using h)
  simp[subL,subC,valL]
 |x::a,b,c,ha,hb,hc,h=>by
  have h1:=headD_lt hb
  have h2:=ha.cons
  rw[subL,subC,valL,valL,valL_ht b,List.length_cons,Nat.pow_succ]
  have ih:=valL_subL a b.tail (if x<b.headD 0+c then 1 else 0) h2.2 hb.tail (by split<;>omega) (by simp at h ⊢;omega)
  rw[Nat.mul_comm (4294967296 ^ a.length) 4294967296,Nat.mul_assoc]
  revert ih
  generalize 4294967296 ^ a.length*subC (if x<b.headD 0+c then 1 else 0) a b.tail=z
  generalize valL (subL (if x<b.headD 0+c then 1 else 0) a b.tail)=s
  intro ih
  split at ih
  .rename_i h3
   rw[if_pos h3]
   omega
  .rename_i h3
   rw[if_neg h3]
   omega
theorem subL_limbs:∀(a b:List Nat) (c:Nat),Limbs a->Limbs b->c<=1->Limbs (subL c a b)
 |[],_,_,_,_,_=>limbs_nil
 |x::a,b,c,ha,hb,hc=>by
  have h1:=headD_lt hb
  have h2:=ha.cons
  refine limbs_cons ?_ (subL_limbs a b.tail _ h2.2 hb.tail (by split<;>omega))
  split<;>omega
theorem subL_len:∀(a b:List Nat) (c:Nat),(subL c a b).length=a.length
 |[],_,_=>rfl
 |x::a,b,c=>by rw[subL,List.length_cons,subL_len a,List.length_cons]
theorem valL_sub{a b:List Nat}(ha:Limbs a)(hb:Limbs b)(h:b.length<=a.length)(hv:valL b<=valL a):valL (subL 0 a b)=valL a-valL b:=by
 have h1:=valL_subL a b 0 ha hb (by omega) h
 have h2:=valL_lt (subL_limbs a b 0 ha hb (by omega))
 rw[subL_len]at h2
 have h3:=subC_le a b 0 (by omega)
 have h4:=valL_lt ha
 rcases Nat.lt_or_ge (subC 0 a b) 1 with h5|h5
 .rw[show subC 0 a b=0 by omega]at h1
  omega
 .rw[show subC 0 a b=1 by omega]at h1
  omega
def mulR:Nat->Nat->List Nat->List Nat->List Nat
 |_,c,[],o=>c::o.tail
 |x,c,y::b,o=>((x*y+o.headD 0+c) % 4294967296)::mulR x ((x*y+o.headD 0+c) / 4294967296) b o.tail
theorem valL_mulR:∀(x:Nat) (b o:List Nat) (c:Nat),(o.drop b.length).headD 0=0->valL (mulR x c b o)=x*valL b+valL o+c
 |x,[],o,c,h=>by
  have h:o.headD 0=0:=h
  rw[mulR,valL,valL,valL_ht o,h]
  omega
 |x,y::b,o,c,h=>by
  have h2:(o.tail.drop b.length).headD 0=0:=by
   rw[List.length_cons]at h
   cases o with
   |nil=>simp
   |cons z o=>exact h
  have ih:=valL_mulR x b o.tail ((x*y+o.headD 0+c) / 4294967296) h2
  have e:x*(y+4294967296*valL b)=x*y+4294967296*(x*valL b):=by
   rw[Nat.mul_add,←Nat.mul_assoc,Nat.mul_comm x 4294967296,Nat.mul_assoc]
  rw[mulR,valL,ih,valL,valL_ht o,e]
  omega
theorem mul_lt{x y:Nat}(hx:x<4294967296)(hy:y<4294967296):x*y<=18446744065119617025:=by
 have:=Nat.mul_le_mul (show x<=4294967295 by omega) (show y<=4294967295 by omega)
 omega
theorem mulR_limbs:∀(x:Nat) (b o:List Nat) (c:Nat),x<4294967296->Limbs b->Limbs o->c<4294967296->Limbs (mulR x c b o)
 |x,[],o,c,_,_,ho,hc=>limbs_cons hc ho.tail
 |x,y::b,o,c,hx,hb,ho,hc=>by
  have h1:=headD_lt ho
  have h2:=hb.cons
  have h3:=mul_lt hx h2.1
  exact limbs_cons (Nat.mod_lt _ (by omega)) (mulR_limbs x b o.tail _ hx h2.2 ho.tail (by omega))
def cmpN(a b:Nat):Int:=if a<b then -1 else if b<a then 1 else 0
theorem cmp_snoc{a b:List Nat}(ha:Limbs a)(hb:Limbs b)(h:a.length=b.length)(x y:Nat):cmpN (valL (a++[x])) (valL (b++[y]))=if x<y then -1 else if y<x then 1 else cmpN (valL a) (valL b):=by
 rw[valL_app,valL_app,←h]
 have h1:=valL_lt ha
 have h2:=valL_lt hb
 rw[←h]at h2
 simp only[valL,Nat.mul_zero,Nat.add_zero]
 revert h1 h2
 generalize 4294967296 ^ a.length=k
 generalize valL a=p
 generalize valL b=q
 intro h1 h2
 by_cases h3:x<y
 .rw[if_pos h3]
  have:k*(x+1)<=k*y:=Nat.mul_le_mul_left _ h3
  rw[Nat.mul_add]at this
  unfold cmpN
  rw[if_pos (by omega)]
 .rw[if_neg h3]
  by_cases h4:y<x
  .rw[if_pos h4]
   have:k*(y+1)<=k*x:=Nat.mul_le_mul_left _ h4
   rw[Nat.mul_add]at this
   unfold cmpN
   rw[if_neg (by omega),if_pos (by omega)]
  .rw[if_neg h4]
   obtain rfl:x=y:=by omega
   unfold cmpN
   by_cases h5:p<q
   .rw[if_pos (by omega),if_pos h5]
   .rw[if_neg (by omega),if_neg h5]
    by_cases h6:q<p
    .rw[if_pos (by omega),if_pos h6]
    .rw[if_neg (by omega),if_neg h6]
end Go.Proofs.YtpncilciembjdaaGreatDoor
namespace Go.Proofs.YtpncilciembjdaaGreatDoor
open Go.RowKit

structure Zi where
 neg:Bool
 abs:List Nat
def sgI(neg:Bool)(n:Nat):Int:=if neg then -(n:Int) else n
def zv(z:Zi):Int:=sgI z.neg (valL z.abs)
def ziOf(n:Int):Zi:=⟨decide (n<0),natL n.natAbs⟩
def eZ(z:Zi):List AV:=[bv z.neg,eN z.abs]
theorem sgI_abs(n:Int):sgI (decide (n<0)) n.natAbs=n:=by
 unfold sgI
 by_cases h:n<0
 .rw[decide_eq_true h,if_pos rfl];omega
 .rw[decide_eq_false h,if_neg (by simp)];omega
theorem zv_ziOf(n:Int):zv (ziOf n)=n:=by
 unfold zv ziOf
 rw[valL_natL]
 exact sgI_abs n
theorem ziOf_sg(neg:Bool)(v:Nat):ziOf (sgI neg v)=⟨neg&&decide (0<v),natL v⟩:=by
 unfold ziOf sgI
 cases neg with
 |false=>
  rw[if_neg (by simp),Bool.false_and,decide_eq_false (by omega)]
  rfl
 |true=>
  rw[if_pos rfl,Bool.true_and,Int.natAbs_neg,Int.natAbs_natCast]
  congr 1
  by_cases h:0<v
  .rw[decide_eq_true h,decide_eq_true (by omega)]
  .rw[decide_eq_false h,decide_eq_false (by omega)]
structure Lz (k:Nat) (z:Zi):Prop where
 lim:Limbs z.abs
 len:z.abs.length<=k
theorem Lz.mono{k m:Nat}{z:Zi}(h:Lz k z)(hm:k<=m):Lz m z:=⟨h.lim,by have:=h.len;omega⟩
def InB(k:Nat)(n:Int):Prop:=n.natAbs<4294967296 ^ k
theorem InB.lz{k:Nat}{n:Int}(h:InB k n):Lz k (ziOf n):=⟨natL_limbs _,natL_len_le h⟩
theorem Lz.inb{k:Nat}{z:Zi}(h:Lz k z):InB k (zv z):=by
 unfold InB zv
 have h1:=valL_lt h.lim
 have h2:4294967296 ^ z.abs.length<=4294967296 ^ k:=Nat.pow_le_pow_right (by omega) h.len
 have h3:(sgI z.neg (valL z.abs)).natAbs=valL z.abs:=by
  unfold sgI
  split
  .rw[Int.natAbs_neg];rfl
  .rfl
 omega
theorem InB.mono{k m:Nat}{n:Int}(h:InB k n)(hm:k<=m):InB m n:=by
 unfold InB at *
 have h2:4294967296 ^ k<=4294967296 ^ m:=Nat.pow_le_pow_right (by omega) hm
 omega
theorem InB.add{k:Nat}{a b:Int}(ha:InB k a)(hb:InB k b):InB (k+1) (a+b):=by
 unfold InB at *
 have:=Int.natAbs_add_le a b
 rw[Nat.pow_succ]
 omega
theorem InB.neg{k:Nat}{a:Int}(ha:InB k a):InB k (-a):=by
 unfold InB at *
 rw[Int.natAbs_neg]
 exact ha
theorem InB.mul{k m:Nat}{a b:Int}(ha:InB k a)(hb:InB m b):InB (k+m) (a*b):=by
 unfold InB at *
 rw[Int.natAbs_mul,Nat.pow_add]
 have h1:a.natAbs*b.natAbs<=a.natAbs*4294967296 ^ m:=Nat.mul_le_mul_left _ (Nat.le_of_lt hb)
 have h2:a.natAbs*4294967296 ^ m<4294967296 ^ k*4294967296 ^ m:=Nat.mul_lt_mul_of_pos_right ha (Nat.pow_pos (by omega))
 omega
theorem InB.zero(k:Nat):InB k 0:=by
 unfold InB
 exact Nat.pow_pos (by omega)
theorem InB.one{k:Nat}(h:1<=k):InB k 1:=by
 have:InB 1 1:=by unfold InB;decide
 exact this.mono h
def cmpZ(a b:Int):Int:=if a<b then -1 else if b<a then 1 else 0
def sgnZ(n:Int):Int:=if n<0 then -1 else if 0<n then 1 else 0
theorem zv_neg(z:Zi):zv z<0 ↔ z.neg=true/\0<valL z.abs:=by
 obtain⟨n,l⟩:=z
 cases n with
 |true=>
  show (-(valL l:Int)<0) ↔ (true=true/\0<valL l)
  exact⟨fun h=>⟨rfl,by omega⟩,fun h=>by have:=h.2;omega⟩
 |false=>
  show ((valL l:Int)<0) ↔ (false=true/\0<valL l)
  exact⟨fun h=>by omega,fun h=>by cases h.1⟩
theorem zv_zero(z:Zi):zv z=0 ↔ valL z.abs=0:=by
 unfold zv sgI
 split<;>omega
theorem natL_pos_iff{n:Nat}:0<(natL n).length ↔ 0<n:=by
 constructor
 .intro h
  by_cases h0:n=0
  .subst h0;rw[natL_0]at h;simp at h
  .omega
 .intro h
  rw[natL_pos (by omega)]
  simp
end Go.Proofs.YtpncilciembjdaaGreatDoor
namespace Go.Proofs.YtpncilciembjdaaGreatDoor
open Go.RowKit

def coefL(v:Int):List (Int × Int)->Int
 |[]=>0
 |p::r=>(if p.1=v then p.2 else 0)+coefL v r
theorem coefL_none{v:Int}:∀{l:List (Int × Int)},(∀ p∈l,p.1≠v)->coefL v l=0
 |[],_=>rfl
 |p::r,h=>by
  rw[coefL,if_neg (h p (List.mem_cons_self ..)),coefL_none fun q hq=>h q (List.mem_cons_of_mem _ hq)]
  rfl
theorem coefL_perm{v:Int}{a b:List (Int × Int)}(h:a.Perm b):coefL v a=coefL v b:=by
 induction h with
 |nil=>rfl
 |cons x _ ih=>rw[coefL,coefL,ih]
 |swap x y l=>rw[coefL,coefL,coefL,coefL];omega
 |trans _ _ ih1 ih2=>rw[ih1,ih2]
structure Pln (l:List (Int × Int)):Prop where
 asc:l.Pairwise fun a b=>a.1<b.1
 pos:∀ p∈l,0<=p.1
 nz:∀ p∈l,p.2≠0
theorem pln_nil:Pln []:=⟨.nil,by simp,by simp⟩
theorem Pln.tail{p:Int × Int}{r:List (Int × Int)}(h:Pln (p::r)):Pln r:=⟨(List.pairwise_cons.1 h.asc).2,fun q hq=>h.pos q (List.mem_cons_of_mem _ hq),fun q hq=>h.nz q (List.mem_cons_of_mem _ hq)⟩
theorem Pln.head{p:Int × Int}{r:List (Int × Int)}(h:Pln (p::r)):coefL p.1 (p::r)=p.2:=by
 rw[coefL,if_pos rfl,coefL_none fun q hq=>by have:=(List.pairwise_cons.1 h.asc).1 q hq;omega]
 omega
theorem Pln.below{p:Int × Int}{r:List (Int × Int)}(h:Pln (p::r)){v:Int}(hv:v<p.1):coefL v (p::r)=0:=by
 refine coefL_none fun q hq=>?_
 rcases List.mem_cons.1 hq with rfl|hq
 .omega
 .have:=(List.pairwise_cons.1 h.asc).1 q hq
  omega
theorem Pln.ext:∀{a b:List (Int × Int)},Pln a->Pln b->(∀ v,coefL v a=coefL v b)->a=b
 |[],[],_,_,_=>rfl
 |[],q::s,_,hb,h=>by
  have h1:=hb.head
  rw[←h q.1]at h1
  exact absurd h1.symm (hb.nz q (List.mem_cons_self ..))
 |p::r,[],ha,_,h=>by
  have h1:=ha.head
  rw[h p.1]at h1
  exact absurd h1.symm (ha.nz p (List.mem_cons_self ..))
 |p::r,q::s,ha,hb,h=>by
  have h1:=ha.head
  have h2:=hb.head
  have n1:=ha.nz p (List.mem_cons_self ..)
  have n2:=hb.nz q (List.mem_cons_self ..)
  have e:p.1=q.1:=by
   rcases Int.lt_trichotomy p.1 q.1 with h3|h3|h3
   .rw[h p.1,hb.below h3]at h1
    exact absurd h1.symm n1
   .exact h3
   .rw[←h q.1,ha.below h3]at h2
    exact absurd h2.symm n2
  have e2:p.2=q.2:=by rw[←h1,←h2,h p.1,e]
  have ep:p=q:=Prod.ext e e2
  rw[ep,Pln.ext ha.tail hb.tail fun v=>by
   have:=h v
   rw[coefL,coefL,ep]at this
   omega]
def insP(v c:Int):List (Int × Int)->List (Int × Int)
 |[]=>if c=0 then [] else [(v,c)]
 |p::r=>if v<p.1 then(if c=0 then p::r else(v,c)::p::r) else if p.1<v then p::insP v c r else if p.2+c=0 then r else(v,p.2+c)::r
theorem insP_coef(v c u:Int):∀ l:List (Int × Int),coefL u (insP v c l)=(if v=u then c else 0)+coefL u l
 |[]=>by
  unfold insP
  split
  .rename_i h;simp[coefL,h]
  .simp[coefL]
 |p::r=>by
  have ih:=insP_coef v c u r
  unfold insP
  split
  .split
   .rename_i h;rw[h];simp
   .rfl
  .split
   .rw[coefL,ih,coefL];omega
   .have e:p.1=v:=by omega
    split
    .rename_i h
     rw[coefL,e]
     split<;>omega
    .rw[coefL,coefL,e]
     split<;>omega
theorem insP_mem{v c:Int}:∀{l:List (Int × Int)} {q:Int × Int},q∈insP v c l->q.1=v\/q∈l
 |[],q,h=>by
  unfold insP at h
  split at h
  .exact .inr h
  .rw[List.mem_singleton.1 h];exact .inl rfl
 |p::r,q,h=>by
  unfold insP at h
  split at h
  .split at h
   .exact .inr h
   .rcases List.mem_cons.1 h with h|h
    .rw[h];exact .inl rfl
    .exact .inr h
  .split at h
   .rcases List.mem_cons.1 h with h|h
    .rw[h];exact .inr (List.mem_cons_self ..)
    .rcases insP_mem h with h|h
     .exact .inl h
     .exact .inr (List.mem_cons_of_mem _ h)
   .split at h
    .exact .inr (List.mem_cons_of_mem _ h)
    .rcases List.mem_cons.1 h with h|h
     .rw[h];exact .inl rfl
     .exact .inr (List.mem_cons_of_mem _ h)
theorem insP_pln{v c:Int}(hv:0<=v):∀{l:List (Int × Int)},Pln l->Pln (insP v c l)
 |[],_=>by
  unfold insP
  split
  .exact pln_nil
  .rename_i h
   exact⟨List.pairwise_singleton _ _,by simpa using hv,by simpa using h⟩
 |p::r,h=>by
  have ih:=insP_pln (c:=c) hv h.tail
  have hp:=List.pairwise_cons.1 h.asc
  unfold insP
  split
  .rename_i h1
   split
   .exact h
   .rename_i h2
    refine⟨List.pairwise_cons.2 ⟨fun q hq=>?_,h.asc⟩,fun q hq=>?_,fun q hq=>?_⟩
    .rcases List.mem_cons.1 hq with rfl|hq
     .exact h1
     .have:=hp.1 q hq;simp only;omega
    .rcases List.mem_cons.1 hq with rfl|hq
     .exact hv
     .exact h.pos q hq
    .rcases List.mem_cons.1 hq with rfl|hq
     .exact h2
     .exact h.nz q hq
  .split
   .rename_i h1 h2
    refine⟨List.pairwise_cons.2 ⟨fun q hq=>?_,ih.asc⟩,fun q hq=>?_,fun q hq=>?_⟩
    .rcases insP_mem hq with e|hq
     .rw[e];exact h2
     .exact hp.1 q hq
    .rcases List.mem_cons.1 hq with rfl|hq
     .exact h.pos _ (List.mem_cons_self ..)
     .exact ih.pos q hq
    .rcases List.mem_cons.1 hq with rfl|hq
     .exact h.nz _ (List.mem_cons_self ..)
     .exact ih.nz q hq
   .rename_i h1 h2
    split
    .exact h.tail
    .rename_i h3
     refine⟨List.pairwise_cons.2 ⟨fun q hq=>?_,hp.2⟩,fun q hq=>?_,fun q hq=>?_⟩
     .have:=hp.1 q hq;simp only;omega
     .rcases List.mem_cons.1 hq with rfl|hq
      .exact hv
      .exact h.tail.pos q hq
     .rcases List.mem_cons.1 hq with rfl|hq
      .exact h3
      .exact h.tail.nz q hq
def plnOf:List (Int × Int)->List (Int × Int)
 |[]=>[]
 |p::r=>if 0<=p.1 then insP p.1 p.2 (plnOf r) else plnOf r
theorem plnOf_pln:∀ l:List (Int × Int),Pln (plnOf l)
 |[]=>pln_nil
 |p::r=>by
  unfold plnOf
  split
  .rename_i h;exact insP_pln h (plnOf_pln r)
  .exact plnOf_pln r
theorem plnOf_coef(v:Int):∀ l:List (Int × Int),coefL v (plnOf l)=if 0<=v then coefL v l else 0
 |[]=>by simp[plnOf,coefL]
 |p::r=>by
  have ih:=plnOf_coef v r
  unfold plnOf
  by_cases h:0<=p.1
  .by_cases hv:0<=v
   .rw[if_pos h,insP_coef,ih,coefL,if_pos hv,if_pos hv]
   .rw[if_pos h,insP_coef,ih,if_neg hv,if_neg hv,if_neg (by omega)]
    rfl
  .by_cases hv:0<=v
   .rw[if_neg h,ih,coefL,if_pos hv,if_pos hv,if_neg (show ¬ p.1=v by omega)]
    omega
   .rw[if_neg h,ih,if_neg hv,if_neg hv]
theorem plnOf_eq{l r:List (Int × Int)}(h:Pln r)(hc:∀ v,0<=v->coefL v r=coefL v l):r=plnOf l:=by
 refine Pln.ext h (plnOf_pln l) fun v=>?_
 rw[plnOf_coef]
 by_cases hv:0<=v
 .rw[if_pos hv,hc v hv]
 .rw[if_neg hv]
  refine coefL_none fun p hp e=>?_
  have:=h.pos p hp
  omega
theorem plnOf_self{l:List (Int × Int)}(h:Pln l):plnOf l=l:=(plnOf_eq h fun _ _=>rfl).symm
theorem plnOf_len:∀ l:List (Int × Int),(plnOf l).length<=l.length
 |[]=>Nat.le_refl _
 |p::r=>by
  have ih:=plnOf_len r
  have ins:∀ l:List (Int × Int),(insP p.1 p.2 l).length<=l.length+1:=fun l=>by
   induction l with
   |nil=>unfold insP;split<;>simp
   |cons q s ih=>
    unfold insP
    split
    .split<;>simp
    .split
     .simpa using ih
     .split
      .simp;omega
      .simp
  unfold plnOf
  split
  .have:=ins (plnOf r)
   rw[List.length_cons]
   omega
  .rw[List.length_cons]
   omega
end Go.Proofs.YtpncilciembjdaaGreatDoor
namespace Go.Proofs.YtpncilciembjdaaGreatDoor
open Go.RowKit

section
variable {α:Type} (key:α->Int)
def kf(l:List α)(p:Nat):Int:=match l[p]? with
 |some x=>key x
 |none=>0
theorem kf_get{l:List α}{p:Nat}(h:p<l.length):kf key l p=key l[p]:=by
 unfold kf
 rw[List.getElem?_eq_getElem h]
def swapL(l:List α)(i j:Nat):List α:=match l[i]?,l[j]? with
 |some x,some y=>(l.set i y).set j x
 |_,_=>l
theorem swapL_eq{l:List α}{i j:Nat}(hi:i<l.length)(hj:j<l.length):swapL l i j=(l.set i l[j]).set j l[i]:=by
 unfold swapL
 rw[List.getElem?_eq_getElem hi,List.getElem?_eq_getElem hj]
theorem swapL_len(l:List α)(i j:Nat):(swapL l i j).length=l.length:=by
 unfold swapL
 split<;>simp
theorem kf_swap{l:List α}{i j:Nat}(hi:i<l.length)(hj:j<l.length)(p:Nat):kf key (swapL l i j) p=if p=j then kf key l i else if p=i then kf key l j else kf key l p:=by
 rw[swapL_eq hi hj]
 unfold kf
 by_cases h1:p=j
 .subst h1
  rw[if_pos rfl,List.getElem?_set_self (by simpa using hj),List.getElem?_eq_getElem hi]
 .rw[if_neg h1,List.getElem?_set_ne (fun e=>h1 e.symm)]
  by_cases h2:p=i
  .subst h2
   rw[if_pos rfl,List.getElem?_set_self hi,List.getElem?_eq_getElem hj]
  .rw[if_neg h2,List.getElem?_set_ne (fun e=>h2 e.symm)]
theorem swapL_perm(l:List α)(i j:Nat):(swapL l i j).Perm l:=by
 by_cases hi:i<l.length
 .by_cases hj:j<l.length
  .rw[swapL_eq hi hj]
   have:=Array.swap_perm (xs:=l.toArray) (i:=i) (j:=j) (by simpa using hi) (by simpa using hj)
   have h2:=this.toList
   simpa[Array.swap]using h2
  .unfold swapL
   rw[List.getElem?_eq_none (show l.length<=j by omega)]
   split
   .rename_i h;cases h
   .exact List.Perm.refl _
 .unfold swapL
  rw[List.getElem?_eq_none (show l.length<=i by omega)]
theorem swapL_get{l:List α}{i j p:Nat}(h1:p≠i)(h2:p≠j):(swapL l i j)[p]? = l[p]?:=by
 unfold swapL
 split
 .rw[List.getElem?_set_ne (fun e=>h2 e.symm),List.getElem?_set_ne (fun e=>h1 e.symm)]
 .rfl
def Srt(l:List α)(a b:Nat):Prop:=∀ p q,a<=p->p<q->q<b->kf key l p<=kf key l q
def SrtJ(l:List α)(a i j:Nat):Prop:=∀ p q,a<=p->p<q->q<=i->q≠j->kf key l p<=kf key l q
def Same0(l r:List α)(a b:Nat):Prop:=∀ p,(p<a\/b<=p)->r[p]? = l[p]?
theorem same0_refl(l:List α)(a b:Nat):Same0 l l a b:=fun _ _=>rfl
theorem Same0.trans{l r s:List α}{a b:Nat}(h1:Same0 l r a b)(h2:Same0 r s a b):Same0 l s a b:=fun p hp=>(h2 p hp).trans (h1 p hp)
theorem Same0.wide{l r:List α}{a b c d:Nat}(h1:Same0 l r a b)(hc:c<=a)(hd:b<=d):Same0 l r c d:=fun p hp=>h1 p (by omega)
theorem Same0.kf{l r:List α}{a b p:Nat}(h:Same0 l r a b)(hp:p<a\/b<=p):kf key r p=kf key l p:=by
 unfold Go.Proofs.YtpncilciembjdaaGreatDoor.kf
 rw[h p hp]
theorem swap_same{l:List α}{i j a b:Nat}(h1:a<=i)(h2:i<b)(h3:a<=j)(h4:j<b):Same0 l (swapL l i j) a b:=fun p hp=>swapL_get (by omega) (by omega)
theorem srtJ_step{l:List α}{a i j:Nat}(hi:i<l.length)(ha:a<j)(hj:j<=i)(h:SrtJ key l a i j)(hlt:kf key l j<kf key l (j-1)):SrtJ key (swapL l j (j-1)) a i (j-1):=by
 intro p q h1 h2 h3 h4
 rw[kf_swap key (by omega) (by omega),kf_swap key (by omega) (by omega)]
 by_cases q1:q=j
 .subst q1
  rw[if_neg (show ¬ q=q-1 by omega),if_pos rfl]
  by_cases p1:p=q-1
  .rw[if_pos p1];omega
  .rw[if_neg p1,if_neg (by omega)]
   exact h p (q-1) h1 (by omega) (by omega) (by omega)
 .rw[if_neg h4,if_neg q1]
  by_cases p1:p=j-1
  .rw[if_pos p1]
   exact h j q (by omega) (by omega) h3 q1
  .rw[if_neg p1]
   by_cases p2:p=j
   .rw[if_pos p2]
    exact h (j-1) q (by omega) (by omega) h3 q1
   .rw[if_neg p2]
    exact h p q h1 h2 h3 q1
theorem srtJ_end{l:List α}{a i j:Nat}(hj:j<=i)(h:SrtJ key l a i j)(he:j=a\/kf key l (j-1)<=kf key l j):Srt key l a (i+1):=by
 intro p q h1 h2 h3
 by_cases hq:q=j
 .subst hq
  rcases he with he|he
  .omega
  .by_cases hp:p=q-1
   .rw[hp];exact he
   .have:=h p (q-1) h1 (by omega) (by omega) (by omega)
    omega
 .exact h p q h1 h2 (by omega) hq
theorem srtJ_begin{l:List α}{a i:Nat}(h:Srt key l a i):SrtJ key l a i i:=fun p q h1 h2 h3 h4=>h p q h1 h2 (by omega)
theorem srt_pairwise{l:List α}(h:Srt key l 0 l.length):l.Pairwise fun x y=>key x<=key y:=by
 rw[List.pairwise_iff_getElem]
 intro i j hi hj hij
 have:=h i j (by omega) hij hj
 rwa [kf_get key hi,kf_get key hj]at this
theorem srt_one(l:List α)(a:Nat):Srt key l a (a+1):=fun p q h1 h2 h3=>by omega
theorem srt_nil(l:List α)(a:Nat):Srt key l a a:=fun p q h1 h2 h3=>by omega
end
end Go.Proofs.YtpncilciembjdaaGreatDoor
namespace Go.Proofs.YtpncilciembjdaaGreatDoor
open Go.RowKit

theorem br_eqT{a b:Int}(h:a=b){x y:KR}:br (realA.eq a b) x y=x:=by rw[r_eq,decide_eq_true h];rfl
theorem br_eqF{a b:Int}(h:¬ a=b){x y:KR}:br (realA.eq a b) x y=y:=by rw[r_eq,decide_eq_false h];rfl
theorem br_seqT{a b:ByteArray}(h:a=b){x y:KR}:br (realA.seq a b) x y=x:=by rw[r_seq,decide_eq_true h];rfl
theorem br_ltT{a b:Int}(h:a<b){x y:KR}:br (realA.lt a b) x y=x:=by rw[r_lt,decide_eq_true h];rfl
theorem br_ltF{a b:Int}(h:¬ a<b){x y:KR}:br (realA.lt a b) x y=y:=by rw[r_lt,decide_eq_false h];rfl
theorem br_leT{a b:Int}(h:a<=b){x y:KR}:br (realA.le a b) x y=x:=by rw[r_le,decide_eq_true h];rfl
theorem br_leF{a b:Int}(h:¬ a<=b){x y:KR}:br (realA.le a b) x y=y:=by rw[r_le,decide_eq_false h];rfl
end Go.Proofs.YtpncilciembjdaaGreatDoor
namespace Go.Proofs.YtpncilciembjdaaGreatDoor
def entsC:Nat:=1042962668542029374677668987337996011341198353761632795856419847799597962473998426758556155900
def ownC:List (Nat × Nat):=[(262,0),(240,0),(241,0),(136,0),(196,0),(234,0),(235,0),(265,0),(275,0),(140,0),(199,0)]
end Go.Proofs.YtpncilciembjdaaGreatDoor
namespace Go.Proofs.YtpncilciembjdaaGreatDoor
open Go.RowKit
def hs157:Hints:=[]
noncomputable def mf157:MFn:=mfD Tryz.prog entsC hs157 false false 157
def hn157:Hnt:=⟨[],[],[]⟩
def hs84:Hints:=[]
noncomputable def mf84:MFn:=mfD Tryz.prog entsC hs84 false false 84
def hn84:Hnt:=⟨[(157,(.bool,[]))],[],[]⟩
def hs137:Hints:=[]
noncomputable def mf137:MFn:=mfD Tryz.prog entsC hs137 false false 137
def hn137:Hnt:=⟨[(84,(.int .i64,[]))],[],[(6,[.int .i64]),(8,[.int .i64])]⟩
def hs141:Hints:=[]
noncomputable def mf141:MFn:=mfD Tryz.prog entsC hs141 false false 141
def hn141:Hnt:=⟨[(64,(.int .i64,[]))],[],[(4,[.bool,.ls])]⟩
def hs136:Hints:=[]
noncomputable def mf136:MFn:=mfD Tryz.prog entsC hs136 false true 136
def hn136:Hnt:=⟨[(137,(.int .i64,[])),(196,(.tup [],[.row true]))],[],[]⟩
def hs196:Hints:=[⟨63,[true,true,true,false,false,false,true,true,true],[],[],[(1,([true,true,true,false,false,false,true,true],([],[1000000])))]⟩,⟨63,[true,true,true,false,false,false,true],[],[],[(3,([true],([],[1000000])))]⟩,⟨63,[true,true,true,false,false,false,true,true,true],[],[],[(5,([true,true,true,false,false,false,true,true],([],[1000000])))]⟩]
noncomputable def mf196:MFn:=mfD Tryz.prog entsC hs196 false true 196
def hn196:Hnt:=⟨[(137,(.int .i64,[])),(234,(.tup [],[.row true])),(235,(.tup [],[.row true]))],[(0,[(1,([.sl 0 3,.int .i64,.fnc 137,.int .i64,.int .i64],[.row true]))]),(1,[(3,([.sl 0 3],[.row true]))]),(2,[(5,([.sl 0 3,.int .i64,.fnc 137,.int .i64,.int .i64],[.row true]))])],[]⟩
def hs234:Hints:=[⟨53,[true,true,true,true,false,false,false,false,true],[],[],[(1,([true],([],[1000000])))]⟩,⟨53,[true,true,true,true,false,false,false,false,true,true],[],[],[(3,([true,true,true,true,false,false,false,false,true],([],[1000000])))]⟩]
noncomputable def mf234:MFn:=mfD Tryz.prog entsC hs234 false true 234
def hn234:Hnt:=⟨[(137,(.int .i64,[]))],[(0,[(1,([.sl 0 3],[.row true]))]),(1,[(3,([.sl 0 3,.int .i64,.int .i64,.fnc 137,.int .i64],[.row true]))])],[(25,[.int .i64,.bool,.ls]),(26,[.int .i64,.bool,.ls]),(30,[.int .i64,.bool,.ls]),(31,[.int .i64,.bool,.ls]),(45,[.int .i64,.bool,.ls]),(46,[.int .i64,.bool,.ls]),(49,[.int .i64,.bool,.ls]),(50,[.int .i64,.bool,.ls]),(51,[.int .i64,.bool,.ls]),(52,[.int .i64,.bool,.ls])]⟩
def hs235:Hints:=[⟨220,[true,true,false,false,true,false,false,false,false,false,true,true],[],[],[(1,([true,true,false,false,false,false,false,false,false,false,true],([],[1000000])))]⟩,⟨220,[true,false,false,false,false,false,false,false,false,false,true,false,false,true],[],[],[(3,([true],([],[1000000])))]⟩,⟨220,[true,false,true,false,true,false,false,false,false,false,false,false,false,false,true,true],[],[],[(5,([true,false,true,false,false,false,false,false,false,false,false,false,false,false,true],([],[1000000])))]⟩,⟨220,[true,false,false,false,false,false,false,false,false,false,false,false,false,false,true,false,false,true],[],[],[(7,([true],([],[1000000])))]⟩,⟨220,[true,true,true,true,true,false,false,false,false,false,false,false,false,false,false,false,false,false,true,true,true,true,true],[],[],[(9,([true,true,true,true,true,false,false,false,false,false,false,false,false,false,false,false,false,false,true,true,true],([],[1000000])))]⟩]
noncomputable def mf235:MFn:=mfD Tryz.prog entsC hs235 false true 235
def hn235:Hnt:=⟨[(137,(.int .i64,[])),(235,(.tup [],[.row true])),(265,(.tup [],[.row true]))],[(0,[(1,([.sl 0 3,.int .i64,.int .i64],[.row true]))]),(1,[(3,([.sl 0 3],[.row true]))]),(2,[(5,([.sl 0 3,.int .i64,.int .i64],[.row true]))]),(3,[(7,([.sl 0 3],[.row true]))]),(4,[(9,([.sl 0 3,.int .i64,.int .i64,.int .i64,.fnc 137,.int .i64,.int .i64,.int .i64],[.row true]))])],[(43,[.int .i64,.bool,.ls]),(44,[.int .i64,.bool,.ls]),(47,[.int .i64,.bool,.ls]),(48,[.int .i64,.bool,.ls]),(69,[.int .i64,.bool,.ls]),(70,[.int .i64,.bool,.ls]),(73,[.int .i64,.bool,.ls]),(74,[.int .i64,.bool,.ls]),(75,[.int .i64,.bool,.ls]),(76,[.int .i64,.bool,.ls]),(95,[.int .i64,.bool,.ls]),(96,[.int .i64,.bool,.ls]),(99,[.int .i64,.bool,.ls]),(100,[.int .i64,.bool,.ls]),(121,[.int .i64,.bool,.ls]),(122,[.int .i64,.bool,.ls]),(125,[.int .i64,.bool,.ls]),(126,[.int .i64,.bool,.ls]),(127,[.int .i64,.bool,.ls]),(128,[.int .i64,.bool,.ls]),(163,[.int .i64,.bool,.ls]),(164,[.int .i64,.bool,.ls]),(167,[.int .i64,.bool,.ls]),(168,[.int .i64,.bool,.ls])]⟩
def hs265:Hints:=[⟨58,[true,false,true,false,true,false,false,false,false,false,true,true],[],[],[(1,([true,false,true,false,true,false,false,false,false,false,true],([],[1000000])))]⟩]
noncomputable def mf265:MFn:=mfD Tryz.prog entsC hs265 false true 265
def hn265:Hnt:=⟨[(137,(.int .i64,[])),(275,(.tup [],[.row true]))],[(0,[(1,([.sl 0 3,.int .i64,.fnc 137,.int .i64],[.row true]))])],[]⟩
def hs275:Hints:=[⟨38,[true,true,true,true,false,false,false,false,false,false,true],[],[],[(1,([true],([],[1000000])))]⟩]
noncomputable def mf275:MFn:=mfD Tryz.prog entsC hs275 false true 275
def hn275:Hnt:=⟨[(137,(.int .i64,[]))],[(0,[(1,([.sl 0 3],[.row true]))])],[(28,[.int .i64,.bool,.ls]),(29,[.int .i64,.bool,.ls]),(34,[.int .i64,.bool,.ls]),(35,[.int .i64,.bool,.ls]),(36,[.int .i64,.bool,.ls]),(37,[.int .i64,.bool,.ls])]⟩
def hs140:Hints:=[⟨42,[true,true,false,false,false,true,true],[],[],[(1,([true,false,false,false,false,true],([],[1000000])))]⟩]
noncomputable def mf140:MFn:=mfD Tryz.prog entsC hs140 true true 140
def hn140:Hnt:=⟨[(141,(.bool,[])),(199,(.int .i64,[.row true]))],[(0,[(1,([.sl 0 3,.int .i64],[.row true]))])],[(24,[.int .i64,.bool,.ls]),(25,[.int .i64,.bool,.ls]),(27,[.int .i64,.bool,.ls]),(32,[.int .i64,.bool,.ls]),(33,[.int .i64,.bool,.ls])]⟩
def hs199:Hints:=[⟨19,[true,true,false,false,false,false,false,true,true],[],[],[(0,([true,false,false,false,true],([],[1000000]))),(1,([true],([],[1000000])))]⟩]
noncomputable def mf199:MFn:=mfD Tryz.prog entsC hs199 false true 199
def hn199:Hnt:=⟨[(141,(.bool,[]))],[(0,[(0,([.sl 0 3,.int .i64],[.row true])),(1,([.sl 0 3],[.row true]))])],[(14,[.int .i64,.bool,.ls]),(15,[.int .i64,.bool,.ls])]⟩
noncomputable def tabSo:List (Nat × MFn):=[(157,mf157),(84,mf84),(137,mf137),(141,mf141),(136,mf136),(196,mf196),(234,mf234),(235,mf235),(265,mf265),(275,mf275),(140,mf140),(199,mf199)]
variable (A:Ar) (D:Orc)
theorem e157(x0:Int):fnK A D ownC hn157 .n 157 mf157 [iv x0] [] =
 br (A.eq x0 x0)
 (some ((bv false,[])))
 (some ((bv true,[]))):=by kernel_rfl

theorem e84(x0 x1:Int):fnK A D ownC hn84 .n 84 mf84 [iv x0,iv x1] [] =
 askD D (Key.fn 157) [iv x0] [] [.b,.E] fun b=>
 br b
 (askD D (Key.fn 157) [iv x1] [] [.b,.E] fun b1=>
 br b1
 (some ((iv 0,[])))
 (some ((iv (-1),[]))))
 (askD D (Key.fn 157) [iv x1] [] [.b,.E] fun b1=>
 br b1
 (some ((iv 1,[])))
 (br (A.lt x0 x1)
 (some ((iv (-1),[])))
 (br (A.lt x1 x0)
 (some ((iv 1,[])))
 (some ((iv 0,[])))))):=by kernel_rfl

theorem e137(x0_0:Int)(x0_1:Bool)(x0_2:Rw)(x1_0:Int)(x1_1:Bool)(x1_2:Rw):fnK A D ownC hn137 .n 137 mf137 [AV.agg [iv x0_0,bv x0_1,AV.ls x0_2],AV.agg [iv x1_0,bv x1_1,AV.ls x1_2]] [] =
 askD D (Key.fn 84) [iv x0_0,iv x1_0] [] [.i,.E] fun n=>
 some ((iv n,[])):=by kernel_rfl

theorem e141(x0_0:Int)(x0_1:Bool)(x0_2:Rw):fnK A D ownC hn141 .n 141 mf141 [AV.agg [iv x0_0,bv x0_1,AV.ls x0_2]] [] =
 askD D (Key.fn 64) [AV.agg [bv x0_1,AV.ls x0_2]] [] [.i,.E] fun n=>
 br (A.eq n 0)
 (some ((bv true,[])))
 (some ((bv false,[]))):=by kernel_rfl

theorem e136(n0:Nat)(c0:List AV):fnK A D ownC hn136 .n 136 mf136 [AV.sl 0 0 n0 3,AV.fn (Fn.func 137) [] []] [{ cells:=c0,st:=true,ex:=true }] =
 askD D (Key.fn 196) [AV.sl 0 0 n0 3,iv ↑n0,AV.fn (Fn.func 137) [] []] [ABlk.mk c0 true true] [.t,.N,.R,.X,.E] fun cs1=>
 some ((AV.tup [],[BO.set (ABlk.mk cs1 true true)])):=by kernel_rfl

theorem e196(n0:Nat)(c0:List AV)(x1:Int):fnK A D ownC hn196 .n 196 mf196 [AV.sl 0 0 n0 3,iv x1,AV.fn (Fn.func 137) [] []] [{ cells:=c0,st:=true,ex:=true }] =
 askD D (Key.lp 196 0) [AV.sl 0 0 n0 3,iv x1,AV.fn (Fn.func 137) [] [],iv 20,iv 0,iv 20] [ABlk.mk c0 true true] [.t,.C,.x,.X,.Y] fun c l o=>
 br (axIs 1 c)
 (dk [.C,.q 0 3,.I,.C,.f 137,.I,.I,.N,.R,.X,.E] [.l l,.o o] fun n n1 n2 n3 cs1=>
 askD D (Key.fn 234) [AV.sl 0 0 n 3,iv n3,iv n1,AV.fn (Fn.func 137) [] []] [ABlk.mk cs1 true true] [.t,.N,.R,.X,.E] fun cs3=>
 askD D (Key.lp 196 1) [AV.sl 0 0 n 3,iv n1,AV.fn (Fn.func 137) [] [],iv n2] [ABlk.mk cs3 true true] [.t,.C,.x,.X,.Y] fun c5 l8 o2=>
 br (axIs 3 c5)
 (dk [.C,.q 0 3,.N,.R,.X,.E] [.l l8,.o o2] fun _ cs5=>
 some ((AV.tup [],[BO.set (ABlk.mk cs5 true true)])))
 (none))
 (none):=by kernel_rfl

theorem e196_0(n0:Nat)(c0:List AV)(t1 t6 t7 t8:Int):lpK A D ownC hn196 .n 196 0 (lpAt mf196 0).fst (lpAt mf196 0).snd [AV.sl 0 0 n0 3,iv t1,AV.fn (Fn.func 137) [] [],iv t6,iv t7,iv t8] [{ cells:=c0,st:=true,ex:=true }] =
 br (A.le t8 t1)
 (askD D (Key.fn 234) [AV.sl 0 0 n0 3,iv t7,iv t8,AV.fn (Fn.func 137) [] []] [ABlk.mk c0 true true] [.t,.N,.R,.X,.E] fun cs1=>
 askK D (Key.lp 196 0) [AV.sl 0 0 n0 3,iv t1,AV.fn (Fn.func 137) [] [],iv t6,iv t8,iv (A.add IntKind.i64 t8 t6)] [ABlk.mk cs1 true true] fun r1 o1=>
 tailK 1 [0] (AH.mk [(0,ABlk.mk cs1 true true)] 1 none) [0] r1 o1)
 (some ((AV.tup [iv 0,AV.sl 0 0 n0 3,iv t1,AV.fn (Fn.func 137) [] [],iv t6,iv t7],[BO.set (ABlk.mk c0 true true)]))):=by kernel_rfl

theorem e196_1(n0:Nat)(c0:List AV)(t1 t6:Int):lpK A D ownC hn196 .n 196 1 (lpAt mf196 1).fst (lpAt mf196 1).snd [AV.sl 0 0 n0 3,iv t1,AV.fn (Fn.func 137) [] [],iv t6] [{ cells:=c0,st:=true,ex:=true }] =
 br (A.lt t6 t1)
 (askD D (Key.lp 196 2) [AV.sl 0 0 n0 3,iv t1,AV.fn (Fn.func 137) [] [],iv t6,iv 0,iv (A.mul IntKind.i64 2 t6)] [ABlk.mk c0 true true] [.t,.C,.x,.X,.Y] fun c l o=>
 br (axIs 5 c)
 (dk [.C,.q 0 3,.I,.C,.f 137,.I,.I,.N,.R,.X,.E] [.l l,.o o] fun n n1 n2 n3 cs1=>
 br (A.lt (A.add IntKind.i64 n3 n2) n1)
 (askD D (Key.fn 235) [AV.sl 0 0 n 3,iv n3,iv (A.add IntKind.i64 n3 n2),iv n1,AV.fn (Fn.func 137) [] []] [ABlk.mk cs1 true true] [.t,.N,.R,.X,.E] fun cs3=>
 askK D (Key.lp 196 1) [AV.sl 0 0 n 3,iv n1,AV.fn (Fn.func 137) [] [],iv (A.mul IntKind.i64 n2 2)] [ABlk.mk cs3 true true] fun r2 o2=>
 tailK 1 [0] (AH.mk [(0,ABlk.mk cs3 true true)] 1 none) [0] r2 o2)
 (askK D (Key.lp 196 1) [AV.sl 0 0 n 3,iv n1,AV.fn (Fn.func 137) [] [],iv (A.mul IntKind.i64 n2 2)] [ABlk.mk cs1 true true] fun r1 o1=>
 tailK 1 [0] (AH.mk [(0,ABlk.mk cs1 true true)] 1 none) [0] r1 o1))
 (none))
 (some ((AV.tup [iv 2,AV.sl 0 0 n0 3],[BO.set (ABlk.mk c0 true true)]))):=by kernel_rfl

theorem e196_2(n0:Nat)(c0:List AV)(t1 t6 t7 t8:Int):lpK A D ownC hn196 .n 196 2 (lpAt mf196 2).fst (lpAt mf196 2).snd [AV.sl 0 0 n0 3,iv t1,AV.fn (Fn.func 137) [] [],iv t6,iv t7,iv t8] [{ cells:=c0,st:=true,ex:=true }] =
 br (A.le t8 t1)
 (askD D (Key.fn 235) [AV.sl 0 0 n0 3,iv t7,iv (A.add IntKind.i64 t7 t6),iv t8,AV.fn (Fn.func 137) [] []] [ABlk.mk c0 true true] [.t,.N,.R,.X,.E] fun cs1=>
 askK D (Key.lp 196 2) [AV.sl 0 0 n0 3,iv t1,AV.fn (Fn.func 137) [] [],iv t6,iv t8,iv (A.add IntKind.i64 t8 (A.mul IntKind.i64 2 t6))] [ABlk.mk cs1 true true] fun r1 o1=>
 tailK 1 [0] (AH.mk [(0,ABlk.mk cs1 true true)] 1 none) [0] r1 o1)
 (some ((AV.tup [iv 4,AV.sl 0 0 n0 3,iv t1,AV.fn (Fn.func 137) [] [],iv t6,iv t7],[BO.set (ABlk.mk c0 true true)]))):=by kernel_rfl

theorem e234(n0:Nat)(c0:List AV)(x1 x2:Int):fnK A D ownC hn234 .n 234 mf234 [AV.sl 0 0 n0 3,iv x1,iv x2,AV.fn (Fn.func 137) [] []] [{ cells:=c0,st:=true,ex:=true }] =
 askD D (Key.lp 234 0) [AV.sl 0 0 n0 3,iv x1,iv x2,AV.fn (Fn.func 137) [] [],iv (A.add IntKind.i64 x1 1)] [ABlk.mk c0 true true] [.t,.C,.x,.X,.Y] fun c l o=>
 br (axIs 1 c)
 (dk [.C,.q 0 3,.N,.R,.X,.E] [.l l,.o o] fun _ cs1=>
 some ((AV.tup [],[BO.set (ABlk.mk cs1 true true)])))
 (none):=by kernel_rfl

theorem e234_0(n0:Nat)(c0:List AV)(t1 t2 t8:Int):lpK A D ownC hn234 .n 234 0 (lpAt mf234 0).fst (lpAt mf234 0).snd [AV.sl 0 0 n0 3,iv t1,iv t2,AV.fn (Fn.func 137) [] [],iv t8] [{ cells:=c0,st:=true,ex:=true }] =
 br (A.lt t8 t2)
 (askD D (Key.lp 234 1) [AV.sl 0 0 n0 3,iv t1,iv t2,AV.fn (Fn.func 137) [] [],iv t8,iv t8] [ABlk.mk c0 true true] [.t,.C,.x,.X,.Y] fun c l o=>
 br (axIs 3 c)
 (dk [.C,.q 0 3,.I,.I,.C,.f 137,.I,.N,.R,.X,.E] [.l l,.o o] fun n n1 n2 n3 cs1=>
 askK D (Key.lp 234 0) [AV.sl 0 0 n 3,iv n1,iv n2,AV.fn (Fn.func 137) [] [],iv (A.add IntKind.i64 n3 1)] [ABlk.mk cs1 true true] fun r1 o1=>
 tailK 1 [0] (AH.mk [(0,ABlk.mk cs1 true true)] 1 none) [0] r1 o1)
 (none))
 (some ((AV.tup [iv 0,AV.sl 0 0 n0 3],[BO.set (ABlk.mk c0 true true)]))):=by kernel_rfl

theorem e234_1(n0:Nat)(c0:List AV)(t1 t2 t8 t9:Int):lpK A D ownC hn234 .n 234 1 (lpAt mf234 1).fst (lpAt mf234 1).snd [AV.sl 0 0 n0 3,iv t1,iv t2,AV.fn (Fn.func 137) [] [],iv t8,iv t9] [{ cells:=c0,st:=true,ex:=true }] =
 br (A.lt t1 t9)
 (unI t9 fun i=>
 br (i.blt n0) (rdK c0 (0+i*3) 3 fun cs=>
 dk [.I,.B,.L,.N] [.l cs] fun n b xs=>
 unI (A.sub IntKind.i64 t9 1) fun i1=>
 br (i1.blt n0) (rdK c0 (0+i1*3) 3 fun cs1=>
 dk [.I,.B,.L,.N] [.l cs1] fun n1 b1 xs1=>
 askD D (Key.fn 137) [AV.agg [iv n,bv b,AV.ls xs],AV.agg [iv n1,bv b1,AV.ls xs1]] [] [.i,.E] fun n2=>
 br (A.lt n2 0)
 (unI (A.sub IntKind.i64 t9 1) fun i2=>
 br (i2.blt n0) (rdK c0 (0+i2*3) 3 fun cs2=>
 dk [.I,.B,.L,.N] [.l cs2] fun n3 b2 xs2=>
 unI t9 fun i3=>
 br (i3.blt n0) (rdK c0 (0+i3*3) 3 fun cs3=>
 dk [.I,.B,.L,.N] [.l cs3] fun n4 b3 xs3=>
 unI t9 fun i4=>
 br (i4.blt n0) (br ((0+i4*3+3).ble c0.length) (unI (A.sub IntKind.i64 t9 1) fun i5=>
 br (i5.blt n0) (br ((0+i5*3+3).ble (splice c0 (0+i4*3) [iv n3,bv b2,AV.ls xs2]).length) (askK D (Key.lp 234 1) [AV.sl 0 0 n0 3,iv t1,iv t2,AV.fn (Fn.func 137) [] [],iv t8,iv (A.sub IntKind.i64 t9 1)] [ABlk.mk (splice (splice c0 (0+i4*3) [iv n3,bv b2,AV.ls xs2]) (0+i5*3) [iv n4,bv b3,AV.ls xs3]) true true] fun r1 o1=>
 tailK 1 [0] (AH.mk [(0,ABlk.mk (splice (splice c0 (0+i4*3) [iv n3,bv b2,AV.ls xs2]) (0+i5*3) [iv n4,bv b3,AV.ls xs3]) true true)] 1 none) [0] r1 o1) none) none) none) none) none) none)
 (some ((AV.tup [iv 2,AV.sl 0 0 n0 3,iv t1,iv t2,AV.fn (Fn.func 137) [] [],iv t8],[BO.set (ABlk.mk c0 true true)])))) none) none)
 (some ((AV.tup [iv 2,AV.sl 0 0 n0 3,iv t1,iv t2,AV.fn (Fn.func 137) [] [],iv t8],[BO.set (ABlk.mk c0 true true)]))):=by kernel_rfl

theorem e235(n0:Nat)(c0:List AV)(x1 x2 x3:Int):fnK A D ownC hn235 .n 235 mf235 [AV.sl 0 0 n0 3,iv x1,iv x2,iv x3,AV.fn (Fn.func 137) [] []] [{ cells:=c0,st:=true,ex:=true }] =
 br (A.eq (A.sub IntKind.i64 x2 x1) 1)
 (askD D (Key.lp 235 0) [AV.sl 0 0 n0 3,iv x1,AV.fn (Fn.func 137) [] [],iv x2,iv x3] [ABlk.mk c0 true true] [.t,.C,.x,.X,.Y] fun c l o=>
 br (axIs 1 c)
 (dk [.C,.q 0 3,.I,.I,.N,.R,.X,.E] [.l l,.o o] fun n n1 n2 cs1=>
 askD D (Key.lp 235 1) [AV.sl 0 0 n 3,iv n2,iv n1] [ABlk.mk cs1 true true] [.t,.C,.x,.X,.Y] fun c3 l5 o1=>
 br (axIs 3 c3)
 (dk [.C,.q 0 3,.N,.R,.X,.E] [.l l5,.o o1] fun _ cs3=>
 some ((AV.tup [],[BO.set (ABlk.mk cs3 true true)])))
 (none))
 (none))
 (br (A.eq (A.sub IntKind.i64 x3 x2) 1)
 (askD D (Key.lp 235 2) [AV.sl 0 0 n0 3,iv x2,AV.fn (Fn.func 137) [] [],iv x1,iv x2] [ABlk.mk c0 true true] [.t,.C,.x,.X,.Y] fun c l o=>
 br (axIs 5 c)
 (dk [.C,.q 0 3,.I,.I,.N,.R,.X,.E] [.l l,.o o] fun n n1 n2 cs1=>
 askD D (Key.lp 235 3) [AV.sl 0 0 n 3,iv n2,iv n1] [ABlk.mk cs1 true true] [.t,.C,.x,.X,.Y] fun c3 l5 o1=>
 br (axIs 7 c3)
 (dk [.C,.q 0 3,.N,.R,.X,.E] [.l l5,.o o1] fun _ cs3=>
 some ((AV.tup [],[BO.set (ABlk.mk cs3 true true)])))
 (none))
 (none))
 (br (A.lt 1 0)
 (none)
 (br (A.lt (A.conv IntKind.i64 (A.shr IntKind.u64 (A.conv IntKind.u64 (A.add IntKind.i64 x1 x3)) 1)) x2)
 (askD D (Key.lp 235 4) [AV.sl 0 0 n0 3,iv x1,iv x2,iv x3,AV.fn (Fn.func 137) [] [],iv (A.conv IntKind.i64 (A.shr IntKind.u64 (A.conv IntKind.u64 (A.add IntKind.i64 x1 x3)) 1)),iv (A.add IntKind.i64 (A.conv IntKind.i64 (A.shr IntKind.u64 (A.conv IntKind.u64 (A.add IntKind.i64 x1 x3)) 1)) x2),iv (A.sub IntKind.i64 (A.add IntKind.i64 (A.conv IntKind.i64 (A.shr IntKind.u64 (A.conv IntKind.u64 (A.add IntKind.i64 x1 x3)) 1)) x2) x3),iv (A.conv IntKind.i64 (A.shr IntKind.u64 (A.conv IntKind.u64 (A.add IntKind.i64 x1 x3)) 1)),iv (A.sub IntKind.i64 (A.add IntKind.i64 (A.conv IntKind.i64 (A.shr IntKind.u64 (A.conv IntKind.u64 (A.add IntKind.i64 x1 x3)) 1)) x2) 1)] [ABlk.mk c0 true true] [.t,.C,.x,.X,.Y] fun c l o=>
 br (axIs 9 c)
 (dk [.C,.q 0 3,.I,.I,.I,.C,.f 137,.I,.I,.I,.N,.R,.X,.E] [.l l,.o o] fun n n1 n2 n3 n4 n5 n6 cs1=>
 br (A.lt n6 n2)
 (br (A.lt n2 (A.sub IntKind.i64 n5 n6))
 (askD D (Key.fn 265) [AV.sl 0 0 n 3,iv n6,iv n2,iv (A.sub IntKind.i64 n5 n6),AV.fn (Fn.func 137) [] []] [ABlk.mk cs1 true true] [.t,.N,.R,.X,.E] fun cs3=>
 br (A.lt n1 n6)
 (br (A.lt n6 n4)
 (askD D (Key.fn 235) [AV.sl 0 0 n 3,iv n1,iv n6,iv n4,AV.fn (Fn.func 137) [] []] [ABlk.mk cs3 true true] [.t,.N,.R,.X,.E] fun cs5=>
 br (A.lt n4 (A.sub IntKind.i64 n5 n6))
 (br (A.lt (A.sub IntKind.i64 n5 n6) n3)
 (askD D (Key.fn 235) [AV.sl 0 0 n 3,iv n4,iv (A.sub IntKind.i64 n5 n6),iv n3,AV.fn (Fn.func 137) [] []] [ABlk.mk cs5 true true] [.t,.N,.R,.X,.E] fun cs7=>
 some ((AV.tup [],[BO.set (ABlk.mk cs7 true true)])))
 (some ((AV.tup [],[BO.set (ABlk.mk cs5 true true)]))))
 (some ((AV.tup [],[BO.set (ABlk.mk cs5 true true)]))))
 (br (A.lt n4 (A.sub IntKind.i64 n5 n6))
 (br (A.lt (A.sub IntKind.i64 n5 n6) n3)
 (askD D (Key.fn 235) [AV.sl 0 0 n 3,iv n4,iv (A.sub IntKind.i64 n5 n6),iv n3,AV.fn (Fn.func 137) [] []] [ABlk.mk cs3 true true] [.t,.N,.R,.X,.E] fun cs5=>
 some ((AV.tup [],[BO.set (ABlk.mk cs5 true true)])))
 (some ((AV.tup [],[BO.set (ABlk.mk cs3 true true)]))))
 (some ((AV.tup [],[BO.set (ABlk.mk cs3 true true)])))))
 (br (A.lt n4 (A.sub IntKind.i64 n5 n6))
 (br (A.lt (A.sub IntKind.i64 n5 n6) n3)
 (askD D (Key.fn 235) [AV.sl 0 0 n 3,iv n4,iv (A.sub IntKind.i64 n5 n6),iv n3,AV.fn (Fn.func 137) [] []] [ABlk.mk cs3 true true] [.t,.N,.R,.X,.E] fun cs5=>
 some ((AV.tup [],[BO.set (ABlk.mk cs5 true true)])))
 (some ((AV.tup [],[BO.set (ABlk.mk cs3 true true)]))))
 (some ((AV.tup [],[BO.set (ABlk.mk cs3 true true)])))))
 (br (A.lt n1 n6)
 (br (A.lt n6 n4)
 (askD D (Key.fn 235) [AV.sl 0 0 n 3,iv n1,iv n6,iv n4,AV.fn (Fn.func 137) [] []] [ABlk.mk cs1 true true] [.t,.N,.R,.X,.E] fun cs3=>
 br (A.lt n4 (A.sub IntKind.i64 n5 n6))
 (br (A.lt (A.sub IntKind.i64 n5 n6) n3)
 (askD D (Key.fn 235) [AV.sl 0 0 n 3,iv n4,iv (A.sub IntKind.i64 n5 n6),iv n3,AV.fn (Fn.func 137) [] []] [ABlk.mk cs3 true true] [.t,.N,.R,.X,.E] fun cs5=>
 some ((AV.tup [],[BO.set (ABlk.mk cs5 true true)])))
 (some ((AV.tup [],[BO.set (ABlk.mk cs3 true true)]))))
 (some ((AV.tup [],[BO.set (ABlk.mk cs3 true true)]))))
 (br (A.lt n4 (A.sub IntKind.i64 n5 n6))
 (br (A.lt (A.sub IntKind.i64 n5 n6) n3)
 (askD D (Key.fn 235) [AV.sl 0 0 n 3,iv n4,iv (A.sub IntKind.i64 n5 n6),iv n3,AV.fn (Fn.func 137) [] []] [ABlk.mk cs1 true true] [.t,.N,.R,.X,.E] fun cs3=>
 some ((AV.tup [],[BO.set (ABlk.mk cs3 true true)])))
 (some ((AV.tup [],[BO.set (ABlk.mk cs1 true true)]))))
 (some ((AV.tup [],[BO.set (ABlk.mk cs1 true true)])))))
 (br (A.lt n4 (A.sub IntKind.i64 n5 n6))
 (br (A.lt (A.sub IntKind.i64 n5 n6) n3)
 (askD D (Key.fn 235) [AV.sl 0 0 n 3,iv n4,iv (A.sub IntKind.i64 n5 n6),iv n3,AV.fn (Fn.func 137) [] []] [ABlk.mk cs1 true true] [.t,.N,.R,.X,.E] fun cs3=>
 some ((AV.tup [],[BO.set (ABlk.mk cs3 true true)])))
 (some ((AV.tup [],[BO.set (ABlk.mk cs1 true true)]))))
 (some ((AV.tup [],[BO.set (ABlk.mk cs1 true true)]))))))
 (br (A.lt n1 n6)
 (br (A.lt n6 n4)
 (askD D (Key.fn 235) [AV.sl 0 0 n 3,iv n1,iv n6,iv n4,AV.fn (Fn.func 137) [] []] [ABlk.mk cs1 true true] [.t,.N,.R,.X,.E] fun cs3=>
 br (A.lt n4 (A.sub IntKind.i64 n5 n6))
 (br (A.lt (A.sub IntKind.i64 n5 n6) n3)
 (askD D (Key.fn 235) [AV.sl 0 0 n 3,iv n4,iv (A.sub IntKind.i64 n5 n6),iv n3,AV.fn (Fn.func 137) [] []] [ABlk.mk cs3 true true] [.t,.N,.R,.X,.E] fun cs5=>
 some ((AV.tup [],[BO.set (ABlk.mk cs5 true true)])))
 (some ((AV.tup [],[BO.set (ABlk.mk cs3 true true)]))))
 (some ((AV.tup [],[BO.set (ABlk.mk cs3 true true)]))))
 (br (A.lt n4 (A.sub IntKind.i64 n5 n6))
 (br (A.lt (A.sub IntKind.i64 n5 n6) n3)
 (askD D (Key.fn 235) [AV.sl 0 0 n 3,iv n4,iv (A.sub IntKind.i64 n5 n6),iv n3,AV.fn (Fn.func 137) [] []] [ABlk.mk cs1 true true] [.t,.N,.R,.X,.E] fun cs3=>
 some ((AV.tup [],[BO.set (ABlk.mk cs3 true true)])))
 (some ((AV.tup [],[BO.set (ABlk.mk cs1 true true)]))))
 (some ((AV.tup [],[BO.set (ABlk.mk cs1 true true)])))))
 (br (A.lt n4 (A.sub IntKind.i64 n5 n6))
 (br (A.lt (A.sub IntKind.i64 n5 n6) n3)
 (askD D (Key.fn 235) [AV.sl 0 0 n 3,iv n4,iv (A.sub IntKind.i64 n5 n6),iv n3,AV.fn (Fn.func 137) [] []] [ABlk.mk cs1 true true] [.t,.N,.R,.X,.E] fun cs3=>
 some ((AV.tup [],[BO.set (ABlk.mk cs3 true true)])))
 (some ((AV.tup [],[BO.set (ABlk.mk cs1 true true)]))))
 (some ((AV.tup [],[BO.set (ABlk.mk cs1 true true)]))))))
 (none))
 (askD D (Key.lp 235 4) [AV.sl 0 0 n0 3,iv x1,iv x2,iv x3,AV.fn (Fn.func 137) [] [],iv (A.conv IntKind.i64 (A.shr IntKind.u64 (A.conv IntKind.u64 (A.add IntKind.i64 x1 x3)) 1)),iv (A.add IntKind.i64 (A.conv IntKind.i64 (A.shr IntKind.u64 (A.conv IntKind.u64 (A.add IntKind.i64 x1 x3)) 1)) x2),iv x1,iv x2,iv (A.sub IntKind.i64 (A.add IntKind.i64 (A.conv IntKind.i64 (A.shr IntKind.u64 (A.conv IntKind.u64 (A.add IntKind.i64 x1 x3)) 1)) x2) 1)] [ABlk.mk c0 true true] [.t,.C,.x,.X,.Y] fun c l o=>
 br (axIs 9 c)
 (dk [.C,.q 0 3,.I,.I,.I,.C,.f 137,.I,.I,.I,.N,.R,.X,.E] [.l l,.o o] fun n n1 n2 n3 n4 n5 n6 cs1=>
 br (A.lt n6 n2)
 (br (A.lt n2 (A.sub IntKind.i64 n5 n6))
 (askD D (Key.fn 265) [AV.sl 0 0 n 3,iv n6,iv n2,iv (A.sub IntKind.i64 n5 n6),AV.fn (Fn.func 137) [] []] [ABlk.mk cs1 true true] [.t,.N,.R,.X,.E] fun cs3=>
 br (A.lt n1 n6)
 (br (A.lt n6 n4)
 (askD D (Key.fn 235) [AV.sl 0 0 n 3,iv n1,iv n6,iv n4,AV.fn (Fn.func 137) [] []] [ABlk.mk cs3 true true] [.t,.N,.R,.X,.E] fun cs5=>
 br (A.lt n4 (A.sub IntKind.i64 n5 n6))
 (br (A.lt (A.sub IntKind.i64 n5 n6) n3)
 (askD D (Key.fn 235) [AV.sl 0 0 n 3,iv n4,iv (A.sub IntKind.i64 n5 n6),iv n3,AV.fn (Fn.func 137) [] []] [ABlk.mk cs5 true true] [.t,.N,.R,.X,.E] fun cs7=>
 some ((AV.tup [],[BO.set (ABlk.mk cs7 true true)])))
 (some ((AV.tup [],[BO.set (ABlk.mk cs5 true true)]))))
 (some ((AV.tup [],[BO.set (ABlk.mk cs5 true true)]))))
 (br (A.lt n4 (A.sub IntKind.i64 n5 n6))
 (br (A.lt (A.sub IntKind.i64 n5 n6) n3)
 (askD D (Key.fn 235) [AV.sl 0 0 n 3,iv n4,iv (A.sub IntKind.i64 n5 n6),iv n3,AV.fn (Fn.func 137) [] []] [ABlk.mk cs3 true true] [.t,.N,.R,.X,.E] fun cs5=>
 some ((AV.tup [],[BO.set (ABlk.mk cs5 true true)])))
 (some ((AV.tup [],[BO.set (ABlk.mk cs3 true true)]))))
 (some ((AV.tup [],[BO.set (ABlk.mk cs3 true true)])))))
 (br (A.lt n4 (A.sub IntKind.i64 n5 n6))
 (br (A.lt (A.sub IntKind.i64 n5 n6) n3)
 (askD D (Key.fn 235) [AV.sl 0 0 n 3,iv n4,iv (A.sub IntKind.i64 n5 n6),iv n3,AV.fn (Fn.func 137) [] []] [ABlk.mk cs3 true true] [.t,.N,.R,.X,.E] fun cs5=>
 some ((AV.tup [],[BO.set (ABlk.mk cs5 true true)])))
 (some ((AV.tup [],[BO.set (ABlk.mk cs3 true true)]))))
 (some ((AV.tup [],[BO.set (ABlk.mk cs3 true true)])))))
 (br (A.lt n1 n6)
 (br (A.lt n6 n4)
 (askD D (Key.fn 235) [AV.sl 0 0 n 3,iv n1,iv n6,iv n4,AV.fn (Fn.func 137) [] []] [ABlk.mk cs1 true true] [.t,.N,.R,.X,.E] fun cs3=>
 br (A.lt n4 (A.sub IntKind.i64 n5 n6))
 (br (A.lt (A.sub IntKind.i64 n5 n6) n3)
 (askD D (Key.fn 235) [AV.sl 0 0 n 3,iv n4,iv (A.sub IntKind.i64 n5 n6),iv n3,AV.fn (Fn.func 137) [] []] [ABlk.mk cs3 true true] [.t,.N,.R,.X,.E] fun cs5=>
 some ((AV.tup [],[BO.set (ABlk.mk cs5 true true)])))
 (some ((AV.tup [],[BO.set (ABlk.mk cs3 true true)]))))
 (some ((AV.tup [],[BO.set (ABlk.mk cs3 true true)]))))
 (br (A.lt n4 (A.sub IntKind.i64 n5 n6))
 (br (A.lt (A.sub IntKind.i64 n5 n6) n3)
 (askD D (Key.fn 235) [AV.sl 0 0 n 3,iv n4,iv (A.sub IntKind.i64 n5 n6),iv n3,AV.fn (Fn.func 137) [] []] [ABlk.mk cs1 true true] [.t,.N,.R,.X,.E] fun cs3=>
 some ((AV.tup [],[BO.set (ABlk.mk cs3 true true)])))
 (some ((AV.tup [],[BO.set (ABlk.mk cs1 true true)]))))
 (some ((AV.tup [],[BO.set (ABlk.mk cs1 true true)])))))
 (br (A.lt n4 (A.sub IntKind.i64 n5 n6))
 (br (A.lt (A.sub IntKind.i64 n5 n6) n3)
 (askD D (Key.fn 235) [AV.sl 0 0 n 3,iv n4,iv (A.sub IntKind.i64 n5 n6),iv n3,AV.fn (Fn.func 137) [] []] [ABlk.mk cs1 true true] [.t,.N,.R,.X,.E] fun cs3=>
 some ((AV.tup [],[BO.set (ABlk.mk cs3 true true)])))
 (some ((AV.tup [],[BO.set (ABlk.mk cs1 true true)]))))
 (some ((AV.tup [],[BO.set (ABlk.mk cs1 true true)]))))))
 (br (A.lt n1 n6)
 (br (A.lt n6 n4)
 (askD D (Key.fn 235) [AV.sl 0 0 n 3,iv n1,iv n6,iv n4,AV.fn (Fn.func 137) [] []] [ABlk.mk cs1 true true] [.t,.N,.R,.X,.E] fun cs3=>
 br (A.lt n4 (A.sub IntKind.i64 n5 n6))
 (br (A.lt (A.sub IntKind.i64 n5 n6) n3)
 (askD D (Key.fn 235) [AV.sl 0 0 n 3,iv n4,iv (A.sub IntKind.i64 n5 n6),iv n3,AV.fn (Fn.func 137) [] []] [ABlk.mk cs3 true true] [.t,.N,.R,.X,.E] fun cs5=>
 some ((AV.tup [],[BO.set (ABlk.mk cs5 true true)])))
 (some ((AV.tup [],[BO.set (ABlk.mk cs3 true true)]))))
 (some ((AV.tup [],[BO.set (ABlk.mk cs3 true true)]))))
 (br (A.lt n4 (A.sub IntKind.i64 n5 n6))
 (br (A.lt (A.sub IntKind.i64 n5 n6) n3)
 (askD D (Key.fn 235) [AV.sl 0 0 n 3,iv n4,iv (A.sub IntKind.i64 n5 n6),iv n3,AV.fn (Fn.func 137) [] []] [ABlk.mk cs1 true true] [.t,.N,.R,.X,.E] fun cs3=>
 some ((AV.tup [],[BO.set (ABlk.mk cs3 true true)])))
 (some ((AV.tup [],[BO.set (ABlk.mk cs1 true true)]))))
 (some ((AV.tup [],[BO.set (ABlk.mk cs1 true true)])))))
 (br (A.lt n4 (A.sub IntKind.i64 n5 n6))
 (br (A.lt (A.sub IntKind.i64 n5 n6) n3)
 (askD D (Key.fn 235) [AV.sl 0 0 n 3,iv n4,iv (A.sub IntKind.i64 n5 n6),iv n3,AV.fn (Fn.func 137) [] []] [ABlk.mk cs1 true true] [.t,.N,.R,.X,.E] fun cs3=>
 some ((AV.tup [],[BO.set (ABlk.mk cs3 true true)])))
 (some ((AV.tup [],[BO.set (ABlk.mk cs1 true true)]))))
 (some ((AV.tup [],[BO.set (ABlk.mk cs1 true true)]))))))
 (none))))):=by kernel_rfl

theorem e235_0(n0:Nat)(c0:List AV)(t1 t10 t11:Int):lpK A D ownC hn235 .n 235 0 (lpAt mf235 0).fst (lpAt mf235 0).snd [AV.sl 0 0 n0 3,iv t1,AV.fn (Fn.func 137) [] [],iv t10,iv t11] [{ cells:=c0,st:=true,ex:=true }] =
 br (A.lt t10 t11)
 (br (A.lt 1 0)
 (none)
 (unI (A.conv IntKind.i64 (A.shr IntKind.u64 (A.conv IntKind.u64 (A.add IntKind.i64 t10 t11)) 1)) fun i=>
 br (i.blt n0) (rdK c0 (0+i*3) 3 fun cs=>
 dk [.I,.B,.L,.N] [.l cs] fun n b xs=>
 unI t1 fun i1=>
 br (i1.blt n0) (rdK c0 (0+i1*3) 3 fun cs1=>
 dk [.I,.B,.L,.N] [.l cs1] fun n1 b1 xs1=>
 askD D (Key.fn 137) [AV.agg [iv n,bv b,AV.ls xs],AV.agg [iv n1,bv b1,AV.ls xs1]] [] [.i,.E] fun n2=>
 br (A.lt n2 0)
 (askK D (Key.lp 235 0) [AV.sl 0 0 n0 3,iv t1,AV.fn (Fn.func 137) [] [],iv (A.add IntKind.i64 (A.conv IntKind.i64 (A.shr IntKind.u64 (A.conv IntKind.u64 (A.add IntKind.i64 t10 t11)) 1)) 1),iv t11] [ABlk.mk c0 true true] fun r1 o1=>
 tailK 1 [0] (AH.mk [(0,ABlk.mk c0 true true)] 1 none) [] r1 o1)
 (askK D (Key.lp 235 0) [AV.sl 0 0 n0 3,iv t1,AV.fn (Fn.func 137) [] [],iv t10,iv (A.conv IntKind.i64 (A.shr IntKind.u64 (A.conv IntKind.u64 (A.add IntKind.i64 t10 t11)) 1))] [ABlk.mk c0 true true] fun r1 o1=>
 tailK 1 [0] (AH.mk [(0,ABlk.mk c0 true true)] 1 none) [] r1 o1)) none) none))
 (some ((AV.tup [iv 0,AV.sl 0 0 n0 3,iv t1,iv t10],[BO.set (ABlk.mk c0 true true)]))):=by kernel_rfl

theorem e235_1(n0:Nat)(c0:List AV)(t10 t13:Int):lpK A D ownC hn235 .n 235 1 (lpAt mf235 1).fst (lpAt mf235 1).snd [AV.sl 0 0 n0 3,iv t10,iv t13] [{ cells:=c0,st:=true,ex:=true }] =
 br (A.lt t13 (A.sub IntKind.i64 t10 1))
 (unI (A.add IntKind.i64 t13 1) fun i=>
 br (i.blt n0) (rdK c0 (0+i*3) 3 fun cs=>
 dk [.I,.B,.L,.N] [.l cs] fun n b xs=>
 unI t13 fun i1=>
 br (i1.blt n0) (rdK c0 (0+i1*3) 3 fun cs1=>
 dk [.I,.B,.L,.N] [.l cs1] fun n1 b1 xs1=>
 unI t13 fun i2=>
 br (i2.blt n0) (br ((0+i2*3+3).ble c0.length) (unI (A.add IntKind.i64 t13 1) fun i3=>
 br (i3.blt n0) (br ((0+i3*3+3).ble (splice c0 (0+i2*3) [iv n,bv b,AV.ls xs]).length) (askK D (Key.lp 235 1) [AV.sl 0 0 n0 3,iv t10,iv (A.add IntKind.i64 t13 1)] [ABlk.mk (splice (splice c0 (0+i2*3) [iv n,bv b,AV.ls xs]) (0+i3*3) [iv n1,bv b1,AV.ls xs1]) true true] fun r o=>
 tailK 1 [0] (AH.mk [(0,ABlk.mk (splice (splice c0 (0+i2*3) [iv n,bv b,AV.ls xs]) (0+i3*3) [iv n1,bv b1,AV.ls xs1]) true true)] 1 none) [0] r o) none) none) none) none) none) none)
 (some ((AV.tup [iv 2,AV.sl 0 0 n0 3],[BO.set (ABlk.mk c0 true true)]))):=by kernel_rfl

theorem e235_2(n0:Nat)(c0:List AV)(t2 t14 t15:Int):lpK A D ownC hn235 .n 235 2 (lpAt mf235 2).fst (lpAt mf235 2).snd [AV.sl 0 0 n0 3,iv t2,AV.fn (Fn.func 137) [] [],iv t14,iv t15] [{ cells:=c0,st:=true,ex:=true }] =
 br (A.lt t14 t15)
 (br (A.lt 1 0)
 (none)
 (unI t2 fun i=>
 br (i.blt n0) (rdK c0 (0+i*3) 3 fun cs=>
 dk [.I,.B,.L,.N] [.l cs] fun n b xs=>
 unI (A.conv IntKind.i64 (A.shr IntKind.u64 (A.conv IntKind.u64 (A.add IntKind.i64 t14 t15)) 1)) fun i1=>
 br (i1.blt n0) (rdK c0 (0+i1*3) 3 fun cs1=>
 dk [.I,.B,.L,.N] [.l cs1] fun n1 b1 xs1=>
 askD D (Key.fn 137) [AV.agg [iv n,bv b,AV.ls xs],AV.agg [iv n1,bv b1,AV.ls xs1]] [] [.i,.E] fun n2=>
 br (A.lt n2 0)
 (askK D (Key.lp 235 2) [AV.sl 0 0 n0 3,iv t2,AV.fn (Fn.func 137) [] [],iv t14,iv (A.conv IntKind.i64 (A.shr IntKind.u64 (A.conv IntKind.u64 (A.add IntKind.i64 t14 t15)) 1))] [ABlk.mk c0 true true] fun r1 o1=>
 tailK 1 [0] (AH.mk [(0,ABlk.mk c0 true true)] 1 none) [] r1 o1)
 (askK D (Key.lp 235 2) [AV.sl 0 0 n0 3,iv t2,AV.fn (Fn.func 137) [] [],iv (A.add IntKind.i64 (A.conv IntKind.i64 (A.shr IntKind.u64 (A.conv IntKind.u64 (A.add IntKind.i64 t14 t15)) 1)) 1),iv t15] [ABlk.mk c0 true true] fun r1 o1=>
 tailK 1 [0] (AH.mk [(0,ABlk.mk c0 true true)] 1 none) [] r1 o1)) none) none))
 (some ((AV.tup [iv 4,AV.sl 0 0 n0 3,iv t2,iv t14],[BO.set (ABlk.mk c0 true true)]))):=by kernel_rfl

theorem e235_3(n0:Nat)(c0:List AV)(t14 t17:Int):lpK A D ownC hn235 .n 235 3 (lpAt mf235 3).fst (lpAt mf235 3).snd [AV.sl 0 0 n0 3,iv t14,iv t17] [{ cells:=c0,st:=true,ex:=true }] =
 br (A.lt t14 t17)
 (unI (A.sub IntKind.i64 t17 1) fun i=>
 br (i.blt n0) (rdK c0 (0+i*3) 3 fun cs=>
 dk [.I,.B,.L,.N] [.l cs] fun n b xs=>
 unI t17 fun i1=>
 br (i1.blt n0) (rdK c0 (0+i1*3) 3 fun cs1=>
 dk [.I,.B,.L,.N] [.l cs1] fun n1 b1 xs1=>
 unI t17 fun i2=>
 br (i2.blt n0) (br ((0+i2*3+3).ble c0.length) (unI (A.sub IntKind.i64 t17 1) fun i3=>
 br (i3.blt n0) (br ((0+i3*3+3).ble (splice c0 (0+i2*3) [iv n,bv b,AV.ls xs]).length) (askK D (Key.lp 235 3) [AV.sl 0 0 n0 3,iv t14,iv (A.sub IntKind.i64 t17 1)] [ABlk.mk (splice (splice c0 (0+i2*3) [iv n,bv b,AV.ls xs]) (0+i3*3) [iv n1,bv b1,AV.ls xs1]) true true] fun r o=>
 tailK 1 [0] (AH.mk [(0,ABlk.mk (splice (splice c0 (0+i2*3) [iv n,bv b,AV.ls xs]) (0+i3*3) [iv n1,bv b1,AV.ls xs1]) true true)] 1 none) [0] r o) none) none) none) none) none) none)
 (some ((AV.tup [iv 6,AV.sl 0 0 n0 3],[BO.set (ABlk.mk c0 true true)]))):=by kernel_rfl

theorem e235_4(n0:Nat)(c0:List AV)(t1 t2 t3 t18 t19 t20 t21 t22:Int):lpK A D ownC hn235 .n 235 4 (lpAt mf235 4).fst (lpAt mf235 4).snd [AV.sl 0 0 n0 3,iv t1,iv t2,iv t3,AV.fn (Fn.func 137) [] [],iv t18,iv t19,iv t20,iv t21,iv t22] [{ cells:=c0,st:=true,ex:=true }] =
 br (A.lt t20 t21)
 (br (A.lt 1 0)
 (none)
 (unI (A.sub IntKind.i64 t22 (A.conv IntKind.i64 (A.shr IntKind.u64 (A.conv IntKind.u64 (A.add IntKind.i64 t20 t21)) 1))) fun i=>
 br (i.blt n0) (rdK c0 (0+i*3) 3 fun cs=>
 dk [.I,.B,.L,.N] [.l cs] fun n b xs=>
 unI (A.conv IntKind.i64 (A.shr IntKind.u64 (A.conv IntKind.u64 (A.add IntKind.i64 t20 t21)) 1)) fun i1=>
 br (i1.blt n0) (rdK c0 (0+i1*3) 3 fun cs1=>
 dk [.I,.B,.L,.N] [.l cs1] fun n1 b1 xs1=>
 askD D (Key.fn 137) [AV.agg [iv n,bv b,AV.ls xs],AV.agg [iv n1,bv b1,AV.ls xs1]] [] [.i,.E] fun n2=>
 br (A.lt n2 0)
 (askK D (Key.lp 235 4) [AV.sl 0 0 n0 3,iv t1,iv t2,iv t3,AV.fn (Fn.func 137) [] [],iv t18,iv t19,iv t20,iv (A.conv IntKind.i64 (A.shr IntKind.u64 (A.conv IntKind.u64 (A.add IntKind.i64 t20 t21)) 1)),iv t22] [ABlk.mk c0 true true] fun r1 o1=>
 tailK 1 [0] (AH.mk [(0,ABlk.mk c0 true true)] 1 none) [] r1 o1)
 (askK D (Key.lp 235 4) [AV.sl 0 0 n0 3,iv t1,iv t2,iv t3,AV.fn (Fn.func 137) [] [],iv t18,iv t19,iv (A.add IntKind.i64 (A.conv IntKind.i64 (A.shr IntKind.u64 (A.conv IntKind.u64 (A.add IntKind.i64 t20 t21)) 1)) 1),iv t21,iv t22] [ABlk.mk c0 true true] fun r1 o1=>
 tailK 1 [0] (AH.mk [(0,ABlk.mk c0 true true)] 1 none) [] r1 o1)) none) none))
 (some ((AV.tup [iv 8,AV.sl 0 0 n0 3,iv t1,iv t2,iv t3,AV.fn (Fn.func 137) [] [],iv t18,iv t19,iv t20],[BO.set (ABlk.mk c0 true true)]))):=by kernel_rfl

theorem e265(n0:Nat)(c0:List AV)(x1 x2 x3:Int):fnK A D ownC hn265 .n 265 mf265 [AV.sl 0 0 n0 3,iv x1,iv x2,iv x3,AV.fn (Fn.func 137) [] []] [{ cells:=c0,st:=true,ex:=true }] =
 askD D (Key.lp 265 0) [AV.sl 0 0 n0 3,iv x2,AV.fn (Fn.func 137) [] [],iv (A.sub IntKind.i64 x2 x1),iv (A.sub IntKind.i64 x3 x2)] [ABlk.mk c0 true true] [.t,.C,.x,.X,.Y] fun c l o=>
 br (axIs 1 c)
 (dk [.C,.q 0 3,.I,.C,.f 137,.I,.N,.R,.X,.E] [.l l,.o o] fun n n1 n2 cs1=>
 askD D (Key.fn 275) [AV.sl 0 0 n 3,iv (A.sub IntKind.i64 n1 n2),iv n1,iv n2,AV.fn (Fn.func 137) [] []] [ABlk.mk cs1 true true] [.t,.N,.R,.X,.E] fun cs3=>
 some ((AV.tup [],[BO.set (ABlk.mk cs3 true true)])))
 (none):=by kernel_rfl

theorem e265_0(n0:Nat)(c0:List AV)(t2 t10 t11:Int):lpK A D ownC hn265 .n 265 0 (lpAt mf265 0).fst (lpAt mf265 0).snd [AV.sl 0 0 n0 3,iv t2,AV.fn (Fn.func 137) [] [],iv t10,iv t11] [{ cells:=c0,st:=true,ex:=true }] =
 br (A.eq t10 t11)
 (some ((AV.tup [iv 0,AV.sl 0 0 n0 3,iv t2,AV.fn (Fn.func 137) [] [],iv t10],[BO.set (ABlk.mk c0 true true)])))
 (br (A.lt t11 t10)
 (askD D (Key.fn 275) [AV.sl 0 0 n0 3,iv (A.sub IntKind.i64 t2 t10),iv t2,iv t11,AV.fn (Fn.func 137) [] []] [ABlk.mk c0 true true] [.t,.N,.R,.X,.E] fun cs1=>
 askK D (Key.lp 265 0) [AV.sl 0 0 n0 3,iv t2,AV.fn (Fn.func 137) [] [],iv (A.sub IntKind.i64 t10 t11),iv t11] [ABlk.mk cs1 true true] fun r1 o1=>
 tailK 1 [0] (AH.mk [(0,ABlk.mk cs1 true true)] 1 none) [0] r1 o1)
 (askD D (Key.fn 275) [AV.sl 0 0 n0 3,iv (A.sub IntKind.i64 t2 t10),iv (A.sub IntKind.i64 (A.add IntKind.i64 t2 t11) t10),iv t10,AV.fn (Fn.func 137) [] []] [ABlk.mk c0 true true] [.t,.N,.R,.X,.E] fun cs1=>
 askK D (Key.lp 265 0) [AV.sl 0 0 n0 3,iv t2,AV.fn (Fn.func 137) [] [],iv t10,iv (A.sub IntKind.i64 t11 t10)] [ABlk.mk cs1 true true] fun r1 o1=>
 tailK 1 [0] (AH.mk [(0,ABlk.mk cs1 true true)] 1 none) [0] r1 o1)):=by kernel_rfl

theorem e275(n0:Nat)(c0:List AV)(x1 x2 x3:Int):fnK A D ownC hn275 .n 275 mf275 [AV.sl 0 0 n0 3,iv x1,iv x2,iv x3,AV.fn (Fn.func 137) [] []] [{ cells:=c0,st:=true,ex:=true }] =
 askD D (Key.lp 275 0) [AV.sl 0 0 n0 3,iv x1,iv x2,iv x3,iv 0] [ABlk.mk c0 true true] [.t,.C,.x,.X,.Y] fun c l o=>
 br (axIs 1 c)
 (dk [.C,.q 0 3,.N,.R,.X,.E] [.l l,.o o] fun _ cs1=>
 some ((AV.tup [],[BO.set (ABlk.mk cs1 true true)])))
 (none):=by kernel_rfl

theorem e275_0(n0:Nat)(c0:List AV)(t1 t2 t3 t10:Int):lpK A D ownC hn275 .n 275 0 (lpAt mf275 0).fst (lpAt mf275 0).snd [AV.sl 0 0 n0 3,iv t1,iv t2,iv t3,iv t10] [{ cells:=c0,st:=true,ex:=true }] =
 br (A.lt t10 t3)
 (unI (A.add IntKind.i64 t2 t10) fun i=>
 br (i.blt n0) (rdK c0 (0+i*3) 3 fun cs=>
 dk [.I,.B,.L,.N] [.l cs] fun n b xs=>
 unI (A.add IntKind.i64 t1 t10) fun i1=>
 br (i1.blt n0) (rdK c0 (0+i1*3) 3 fun cs1=>
 dk [.I,.B,.L,.N] [.l cs1] fun n1 b1 xs1=>
 unI (A.add IntKind.i64 t1 t10) fun i2=>
 br (i2.blt n0) (br ((0+i2*3+3).ble c0.length) (unI (A.add IntKind.i64 t2 t10) fun i3=>
 br (i3.blt n0) (br ((0+i3*3+3).ble (splice c0 (0+i2*3) [iv n,bv b,AV.ls xs]).length) (askK D (Key.lp 275 0) [AV.sl 0 0 n0 3,iv t1,iv t2,iv t3,iv (A.add IntKind.i64 t10 1)] [ABlk.mk (splice (splice c0 (0+i2*3) [iv n,bv b,AV.ls xs]) (0+i3*3) [iv n1,bv b1,AV.ls xs1]) true true] fun r o=>
 tailK 1 [0] (AH.mk [(0,ABlk.mk (splice (splice c0 (0+i2*3) [iv n,bv b,AV.ls xs]) (0+i3*3) [iv n1,bv b1,AV.ls xs1]) true true)] 1 none) [0] r o) none) none) none) none) none) none)
 (some ((AV.tup [iv 0,AV.sl 0 0 n0 3],[BO.set (ABlk.mk c0 true true)]))):=by kernel_rfl

theorem e140(n0:Nat)(c0:List AV):fnK A D ownC hn140 .n 140 mf140 [AV.sl 0 0 n0 3,AV.fn (Fn.func 141) [] []] [{ cells:=c0,st:=true,ex:=true }] =
 askD D (Key.fn 199) [AV.sl 0 0 n0 3,AV.fn (Fn.func 141) [] []] [ABlk.mk c0 true true] [.i,.R,.X,.E] fun n cs=>
 br (A.eq n (-1))
 (some ((AV.sl 0 0 n0 3,[BO.set (ABlk.mk cs true true)])))
 (askD D (Key.lp 140 0) [AV.sl 0 0 n0 3,AV.fn (Fn.func 141) [] [],iv n,iv (A.add IntKind.i64 n 1)] [ABlk.mk cs true true] [.t,.C,.x,.X,.Y] fun c1 l1 o1=>
 br (axIs 1 c1)
 (dk [.C,.q 0 3,.I,.N,.R,.X,.E] [.l l1,.o o1] fun n1 n2 cs2=>
 unI n2 fun i=>
 br (inB i n1 n1) (br ((0+i*3+(n1-i)*3).ble cs2.length) (unI n2 fun i1=>
 br (inB 0 i1 n1) (some ((AV.sl 0 0 i1 3,[BO.set (ABlk.mk (splice cs2 (0+i*3) (zeros [iv 0,bv false,AV.v (Value.slice none 0 0)] ((n1-i)*3))) true true)]))) none) none) none)
 (none)):=by kernel_rfl

theorem e140_0(n0:Nat)(c0:List AV)(t5 t6:Int):lpK A D ownC hn140 .n 140 0 (lpAt mf140 0).fst (lpAt mf140 0).snd [AV.sl 0 0 n0 3,AV.fn (Fn.func 141) [] [],iv t5,iv t6] [{ cells:=c0,st:=true,ex:=true }] =
 br (A.lt t6 ↑n0)
 (unI t6 fun i=>
 br (i.blt n0) (rdK c0 (0+i*3) 3 fun cs=>
 dk [.I,.B,.L,.N] [.l cs] fun n b xs=>
 askD D (Key.fn 141) [AV.agg [iv n,bv b,AV.ls xs]] [] [.b,.E] fun b1=>
 br b1
 (askK D (Key.lp 140 0) [AV.sl 0 0 n0 3,AV.fn (Fn.func 141) [] [],iv t5,iv (A.add IntKind.i64 t6 1)] [ABlk.mk c0 true true] fun r1 o1=>
 tailK 1 [0] (AH.mk [(1,bk [iv n,bv b,AV.ls xs]),(0,ABlk.mk c0 true true)] 2 none) [] r1 o1)
 (unI t5 fun i1=>
 br (i1.blt n0) (br ((0+i1*3+3).ble c0.length) (askK D (Key.lp 140 0) [AV.sl 0 0 n0 3,AV.fn (Fn.func 141) [] [],iv (A.add IntKind.i64 t5 1),iv (A.add IntKind.i64 t6 1)] [ABlk.mk (splice c0 (0+i1*3) [iv n,bv b,AV.ls xs]) true true] fun r1 o1=>
 tailK 1 [0] (AH.mk [(0,ABlk.mk (splice c0 (0+i1*3) [iv n,bv b,AV.ls xs]) true true),(1,bk [iv n,bv b,AV.ls xs])] 2 none) [0] r1 o1) none) none)) none)
 (some ((AV.tup [iv 0,AV.sl 0 0 n0 3,iv t5],[BO.set (ABlk.mk c0 true true)]))):=by kernel_rfl

theorem e199(n0:Nat)(c0:List AV):fnK A D ownC hn199 .n 199 mf199 [AV.sl 0 0 n0 3,AV.fn (Fn.func 141) [] []] [{ cells:=c0,st:=true,ex:=true }] =
 askD D (Key.lp 199 0) [AV.sl 0 0 n0 3,AV.fn (Fn.func 141) [] [],iv ↑n0,iv 0] [ABlk.mk c0 true true] [.t,.C,.x,.X,.Y] fun c l o=>
 br (axIs 0 c)
 (dk [.C,.q 0 3,.I,.N,.R,.X,.E] [.l l,.o o] fun _ n1 cs1=>
 some ((iv n1,[BO.set (ABlk.mk cs1 true true)])))
 (br (axIs 1 c)
 (dk [.C,.q 0 3,.N,.R,.X,.E] [.l l,.o o] fun _ cs1=>
 some ((iv (-1),[BO.set (ABlk.mk cs1 true true)])))
 (none)):=by kernel_rfl

theorem e199_0(n0:Nat)(c0:List AV)(t7 t8:Int):lpK A D ownC hn199 .n 199 0 (lpAt mf199 0).fst (lpAt mf199 0).snd [AV.sl 0 0 n0 3,AV.fn (Fn.func 141) [] [],iv t7,iv t8] [{ cells:=c0,st:=true,ex:=true }] =
 br (A.lt t8 t7)
 (unI t8 fun i=>
 br (i.blt n0) (rdK c0 (0+i*3) 3 fun cs=>
 dk [.I,.B,.L,.N] [.l cs] fun n b xs=>
 askD D (Key.fn 141) [AV.agg [iv n,bv b,AV.ls xs]] [] [.b,.E] fun b1=>
 br b1
 (some ((AV.tup [bv true,AV.sl 0 0 n0 3,iv t8],[BO.set (ABlk.mk c0 true true)])))
 (askK D (Key.lp 199 0) [AV.sl 0 0 n0 3,AV.fn (Fn.func 141) [] [],iv t7,iv (A.add IntKind.i64 t8 1)] [ABlk.mk c0 true true] fun r1 o1=>
 tailK 1 [0] (AH.mk [(0,ABlk.mk c0 true true)] 1 none) [] r1 o1)) none)
 (some ((AV.tup [iv 0,AV.sl 0 0 n0 3],[BO.set (ABlk.mk c0 true true)]))):=by kernel_rfl
end Go.Proofs.YtpncilciembjdaaGreatDoor
namespace Go.Proofs.YtpncilciembjdaaGreatDoor
open Go.RowKit

structure Pt where
 v:Int
 z:Zi
def eP(p:Pt):List AV:=[iv p.v,bv p.z.neg,eN p.z.abs]
theorem eP_len(p:Pt):(eP p).length=3:=rfl
section
variable {α:Type} {e:α->List AV} {w:Nat} (he:∀ x,(e x).length=w)
include he
theorem rowC_at(l:List α):∀(i:Nat) (h:i<l.length),(rowC e l).drop (i*w)=e l[i]++(rowC e l).drop (i*w+w):=by
 induction l with
 |nil=>intro i h;cases h
 |cons x r ih=>
  intro i h
  have hx:=he x
  cases i with
  |zero=>
   rw[Nat.zero_mul,List.drop_zero,Nat.zero_add]
   show e x++rowC e r=e x++(e x++rowC e r).drop w
   rw[←hx,List.drop_left]
  |succ i=>
   have:=ih i (by simpa using h)
   have e1:∀ n,(rowC e (x::r)).drop (w+n)=(rowC e r).drop n:=fun n=>by
    show (e x++rowC e r).drop (w+n)=_
    rw[←hx,List.drop_append]
    simp
   rw[show (i+1)*w=w+i*w by rw[Nat.add_mul];omega,e1,this,show w+i*w+w=w+(i*w+w) by omega,e1]
   rfl
theorem rdK_row(l:List α)(i:Nat)(h:i<l.length)(k:List AV->KR):rdK (rowC e l) (0+i*w) w k=k (e l[i]):=by
 have hw:i*w+w<=l.length*w:=by
  rw[←Nat.succ_mul]
  exact Nat.mul_le_mul_right w h
 unfold rdK
 have:Nat.ble (0+i*w+w) (rowC e l).length=true:=by rw[rowC_len he];simp;omega
 rw[this]
 show k (((rowC e l).drop (0+i*w)).take w)=_
 rw[Nat.zero_add,rowC_at he l i h,List.take_left' (he _)]
theorem splice_row(l:List α)(i:Nat)(h:i<l.length)(x:α):splice (rowC e l) (0+i*w) (e x)=rowC e (l.set i x):=by
 unfold splice
 rw[he x,Nat.zero_add]
 have e1:=rowC_at he l i h
 have e2:∀(l:List α) (i:Nat),i<=l.length->(rowC e l).take (i*w)=rowC e (l.take i):=fun l=>by
  induction l with
  |nil=>intro i _;simp[rowC]
  |cons y r ih=>
   intro i hi
   cases i with
   |zero=>simp[rowC]
   |succ i=>
    rw[show (i+1)*w=w+i*w by rw[Nat.add_mul];omega]
    show (e y++rowC e r).take (w+i*w)=e y++rowC e (r.take i)
    rw[←he y,List.take_append,List.take_of_length_le (by omega),show (e y).length+i*(e y).length-(e y).length=i*(e y).length by omega,he y,ih i (by simpa using hi)]
 have e3:∀(l:List α) (i:Nat),i<=l.length->(rowC e l).drop (i*w)=rowC e (l.drop i):=fun l=>by
  induction l with
  |nil=>intro i _;simp[rowC]
  |cons y r ih=>
   intro i hi
   cases i with
   |zero=>simp[rowC]
   |succ i=>
    rw[show (i+1)*w=w+i*w by rw[Nat.add_mul];omega]
    show (e y++rowC e r).drop (w+i*w)=rowC e (r.drop i)
    rw[←he y,List.drop_append,List.drop_of_length_le (by omega),show (e y).length+i*(e y).length-(e y).length=i*(e y).length by omega,he y,ih i (by simpa using hi),List.nil_append]
 rw[e2 l i (by omega),show i*w+w=(i+1)*w by rw[Nat.add_mul];omega,e3 l (i+1) (by omega),List.set_eq_take_append_cons_drop,if_pos h]
 simp[rowC]
end
theorem cmpZ_lt{a b:Int}:cmpZ a b<0 ↔ a<b:=by
 unfold cmpZ
 split
 .omega
 .split<;>omega
theorem subN1{j:Nat}(h:j<4611686018427387904):realA.sub .i64 ((j+1:Nat):Int) 1=(j:Int):=by
 rw[r_sub (by omega) (by omega)]
 omega
theorem blt_yes{a b:Nat}(h:a<b):Nat.blt a b=true:=by simpa using h
section
variable {D:Orc} (K:Knows ownC tabSo D)
include K
theorem isNaN_ok(x:Int):D.ask (.fn 157) [iv x] []=some (bv false,[]):=by
 refine K.fn' hn157 _ rfl ((e157 ..).trans ?_)
 exact(br_eqT rfl).trans rfl
theorem cmpI_ok(x y:Int):D.ask (.fn 84) [iv x,iv y] []=some (iv (cmpZ x y),[]):=by
 refine K.fn' hn84 _ rfl ((e84 ..).trans ?_)
 refine(askK_of (isNaN_ok K x) _).trans ?_
 simp only[ND,DK,unFn_fn]
 refine(askK_of (isNaN_ok K y) _).trans ?_
 simp only[ND,DK,unFn_fn]
 unfold cmpZ
 by_cases h:x<y
 .rw[if_pos h]
  exact(br_ltT h).trans rfl
 .rw[if_neg h]
  refine(br_ltF h).trans ?_
  by_cases h2:y<x
  .rw[if_pos h2]
   exact(br_ltT h2).trans rfl
  .rw[if_neg h2]
   exact(br_ltF h2).trans rfl
theorem byV_ok(p q:Pt):D.ask (.fn 137) [.agg (eP p),.agg (eP q)] []=some (iv (cmpZ p.v q.v),[]):=by
 refine K.fn' hn137 _ rfl ((e137 ..).trans ?_)
 refine(askK_of (cmpI_ok K p.v q.v) _).trans ?_
 rfl
def fnV:AV:=.fn (.func 137) [] []
theorem ins_in(a i:Nat)(b:Int):∀(m j:Nat) (l:List Pt),j-a=m->a<=j->j<=i->i<l.length->l.length<=1000000000->SrtJ Pt.v l a i j->
  ∃ r:List Pt,D.ask (.lp 234 1) [.sl 0 0 l.length 3,iv (a:Int),iv b,fnV,iv (i:Int),iv (j:Int)] [ABlk.mk (rowC eP l) true true]
   = some (.tup [iv 2,.sl 0 0 l.length 3,iv (a:Int),iv b,fnV,iv (i:Int)],[.set (ABlk.mk (rowC eP r) true true)])
   ∧ r.length=l.length/\r.Perm l/\Srt Pt.v r a (i+1)/\Same0 l r a (i+1):=by
 intro m
 induction m with
 |zero=>
  intro j l hm ha hj hi hl hs
  obtain rfl:j=a:=by omega
  refine⟨l,?_,rfl,List.Perm.refl _,srtJ_end Pt.v hj hs (.inl rfl),same0_refl _ _ _⟩
  refine K.lp' hn234 _ rfl (by kernel_rfl) ((e234_1 ..).trans ?_)
  exact(br_ltF (by omega)).trans rfl
 |succ m ih=>
  intro j l hm ha hj hi hl hs
  obtain⟨k,rfl⟩:∃ k,j=k+1:=⟨j-1,by omega⟩
  have h1:k+1<l.length:=by omega
  have h0:k<l.length:=by omega
  have kf1:kf Pt.v l (k+1)=l[k+1].v:=kf_get Pt.v h1
  have kf0:kf Pt.v l k=l[k].v:=kf_get Pt.v h0
  by_cases hlt:l[k+1].v<l[k].v
  .have hs2:SrtJ Pt.v (swapL l (k+1) k) a i k:=srtJ_step (j:=k+1) Pt.v hi (by omega) hj hs (by rw[Nat.add_sub_cancel,kf1,kf0];exact hlt)
   have hlen:=swapL_len l (k+1) k
   obtain⟨r,g,hr,hp,ho,hsm⟩:=ih k (swapL l (k+1) k) (by omega) (by omega) (by omega) (by omega) (by omega) hs2
   rw[hlen]at g hr
   refine⟨r,?_,hr,hp.trans (swapL_perm _ _ _),ho,(swap_same (by omega) (by omega) (by omega) (by omega)).trans hsm⟩
   refine K.lp' hn234 _ rfl (by kernel_rfl) ((e234_1 ..).trans ?_)
   refine(br_ltT (by omega)).trans ?_
   rw[subN1 (by omega),unI_n,blt_yes h1]
   refine(br_t _ _).trans ?_
   refine(rdK_row eP_len l (k+1) h1 _).trans ?_
   simp only[eP,eN,ND,DK,unFn_fn]
   rw[unI_n,blt_yes h0]
   refine(br_t _ _).trans ?_
   refine(rdK_row eP_len l k h0 _).trans ?_
   simp only[eP,eN,ND,DK,unFn_fn]
   refine(askK_of (byV_ok K l[k+1] l[k]) _).trans ?_
   simp only[ND,DK,unFn_fn]
   refine(br_ltT (cmpZ_lt.2 hlt)).trans ?_
   rw[unI_n,blt_yes h0]
   refine(br_t _ _).trans ?_
   refine(rdK_row eP_len l k h0 _).trans ?_
   simp only[eP,eN,ND,DK,unFn_fn]
   rw[unI_n,blt_yes h1]
   refine(br_t _ _).trans ?_
   refine(rdK_row eP_len l (k+1) h1 _).trans ?_
   simp only[eP,eN,ND,DK,unFn_fn]
   rw[unI_n,blt_yes h1]
   refine(br_t _ _).trans ?_
   have s1:=splice_row eP_len l (k+1) h1 l[k]
   have s2:=splice_row eP_len (l.set (k+1) l[k]) k (by rw[List.length_set];exact h0) l[k+1]
   rw[←swapL_eq h1 h0]at s2
   simp only[eP,eN]at s1 s2
   rw[show Nat.ble (0+(k+1)*3+3) (rowC eP l).length=true by rw[rowC_len eP_len];simp;omega]
   refine(br_t _ _).trans ?_
   rw[unI_n,blt_yes h0]
   refine(br_t _ _).trans ?_
   rw[s1,s2]
   rw[show Nat.ble (0+k*3+3) (rowC eP (l.set (k+1) l[k])).length=true by rw[rowC_len eP_len,List.length_set];simp;omega]
   refine(br_t _ _).trans ?_
   refine(askK_of g _).trans ?_
   rfl
  .refine⟨l,?_,rfl,List.Perm.refl _,srtJ_end Pt.v hj hs (.inr ?_),same0_refl _ _ _⟩
   .skip
    refine K.lp' hn234 _ rfl (by kernel_rfl) ((e234_1 ..).trans ?_)
    refine(br_ltT (by omega)).trans ?_
    rw[subN1 (by omega),unI_n,blt_yes h1]
    refine(br_t _ _).trans ?_
    refine(rdK_row eP_len l (k+1) h1 _).trans ?_
    simp only[eP,eN,ND,DK,unFn_fn]
    rw[unI_n,blt_yes h0]
    refine(br_t _ _).trans ?_
    refine(rdK_row eP_len l k h0 _).trans ?_
    simp only[eP,eN,ND,DK,unFn_fn]
    refine(askK_of (byV_ok K l[k+1] l[k]) _).trans ?_
    simp only[ND,DK,unFn_fn]
    exact(br_ltF (fun h=>hlt (cmpZ_lt.1 h))).trans rfl
   .rw[Nat.add_sub_cancel,kf1,kf0]
    omega
theorem ins_out(a b:Nat):∀(m i:Nat) (l:List Pt),b-i=m->a<i->i<=b->b<=l.length->l.length<=1000000000->Srt Pt.v l a i->
  ∃ r:List Pt,D.ask (.lp 234 0) [.sl 0 0 l.length 3,iv (a:Int),iv (b:Int),fnV,iv (i:Int)] [ABlk.mk (rowC eP l) true true]
   = some (.tup [iv 0,.sl 0 0 l.length 3],[.set (ABlk.mk (rowC eP r) true true)])
   ∧ r.length=l.length/\r.Perm l/\Srt Pt.v r a b/\Same0 l r a b:=by
 intro m
 induction m with
 |zero=>
  intro i l hm ha hi hb hl hs
  obtain rfl:i=b:=by omega
  refine⟨l,?_,rfl,List.Perm.refl _,hs,same0_refl _ _ _⟩
  refine K.lp' hn234 _ rfl (by kernel_rfl) ((e234_0 ..).trans ?_)
  exact(br_ltF (by omega)).trans rfl
 |succ m ih=>
  intro i l hm ha hi hb hl hs
  obtain⟨r,g,hr,hp,ho,hsm⟩:=ins_in K a i (b:Int) _ i l rfl (by omega) (Nat.le_refl _) (by omega) hl (srtJ_begin Pt.v hs)
  obtain⟨r2,g2,hr2,hp2,ho2,hsm2⟩:=ih (i+1) r (by omega) (by omega) (by omega) (by omega) (by omega) ho
  rw[hr]at g2
  refine⟨r2,?_,by omega,hp2.trans hp,ho2,(hsm.wide (Nat.le_refl _) (by omega)).trans hsm2⟩
  refine K.lp' hn234 _ rfl (by kernel_rfl) ((e234_0 ..).trans ?_)
  refine(br_ltT (by omega)).trans ?_
  refine(askK_of g _).trans ?_
  simp only[fnV,ND,DK,unFn_fn]
  refine(br_t _ _).trans ?_
  rw[add1 (by omega)]
  refine(askK_of g2 _).trans ?_
  rfl
theorem ins_ok{a b:Nat}{l:List Pt}(hab:a<=b)(hb:b<=l.length)(hl:l.length<=1000000000) :
  ∃ r:List Pt,D.ask (.fn 234) [.sl 0 0 l.length 3,iv (a:Int),iv (b:Int),fnV] [ABlk.mk (rowC eP l) true true]=some (.tup [],[.set (ABlk.mk (rowC eP r) true true)])
   ∧ r.length=l.length/\r.Perm l/\Srt Pt.v r a b/\Same0 l r a b:=by
 by_cases h:a<b
 .obtain⟨r,g,hr⟩:=ins_out K a b _ (a+1) l rfl (by omega) (by omega) hb hl (srt_one Pt.v l a)
  refine⟨r,?_,hr⟩
  refine K.fn' hn234 _ rfl ((e234 ..).trans ?_)
  rw[add1 (by omega)]
  refine(askK_of g _).trans ?_
  rfl
 .obtain rfl:a=b:=by omega
  have g:D.ask (.lp 234 0) [.sl 0 0 l.length 3,iv (a:Int),iv (a:Int),fnV,iv ((a+1:Nat):Int)] [ABlk.mk (rowC eP l) true true]=some (.tup [iv 0,.sl 0 0 l.length 3],[.set (ABlk.mk (rowC eP l) true true)]):=by
   refine K.lp' hn234 _ rfl (by kernel_rfl) ((e234_0 ..).trans ?_)
   exact(br_ltF (by omega)).trans rfl
  refine⟨l,?_,rfl,List.Perm.refl _,srt_nil Pt.v l a,same0_refl _ _ _⟩
  refine K.fn' hn234 _ rfl ((e234 ..).trans ?_)
  rw[add1 (by omega)]
  refine(askK_of g _).trans ?_
  rfl
end
end Go.Proofs.YtpncilciembjdaaGreatDoor
namespace Go.Proofs.YtpncilciembjdaaGreatDoor
open Go.RowKit

structure Tm where
 ps:List Pt
 k:Zi
def eT(t:Tm):List AV:=[.ls (t.ps.map eP),bv t.k.neg,eN t.k.abs]
structure Lf where
 ps:List (Int × Int)
 k:Int
def pv(p:Pt):Int × Int:=(p.v,zv p.z)
def ptOf(p:Int × Int):Pt:=⟨p.1,ziOf p.2⟩
def Tm.lf(t:Tm):Lf:=⟨t.ps.map pv,zv t.k⟩
def Lf.tm(l:Lf):Tm:=⟨l.ps.map ptOf,ziOf l.k⟩
def Lf.pln(l:Lf):Lf:=⟨plnOf l.ps,l.k⟩
theorem pv_ptOf(p:Int × Int):pv (ptOf p)=p:=by
 unfold pv ptOf
 rw[zv_ziOf]
theorem tm_lf(l:Lf):l.tm.lf=l:=by
 obtain⟨ps,k⟩:=l
 unfold Lf.tm Tm.lf
 simp only[List.map_map,zv_ziOf]
 rw[show (pv ∘ ptOf)=id from funext pv_ptOf,List.map_id]
theorem pln_pln(l:Lf):l.pln.pln=l.pln:=by
 unfold Lf.pln
 rw[plnOf_self (plnOf_pln _)]
structure TmB (n k:Nat) (t:Tm):Prop where
 len:t.ps.length<=n
 ps:∀ p∈t.ps,Lz k p.z
 k:Lz k t.k
structure LB (n k:Nat) (l:Lf):Prop where
 len:l.ps.length<=n
 ps:∀ p∈l.ps,InB k p.2
 k:InB k l.k
theorem TmB.lb{n k:Nat}{t:Tm}(h:TmB n k t):LB n k t.lf:=by
 refine⟨by simpa[Tm.lf]using h.len,fun p hp=>?_,h.k.inb⟩
 simp only[Tm.lf,List.mem_map]at hp
 obtain⟨q,hq,rfl⟩:=hp
 exact(h.ps q hq).inb
theorem LB.tb{n k:Nat}{l:Lf}(h:LB n k l):TmB n k l.tm:=by
 refine⟨by simpa[Lf.tm]using h.len,fun p hp=>?_,h.k.lz⟩
 simp only[Lf.tm,List.mem_map]at hp
 obtain⟨q,hq,rfl⟩:=hp
 exact(h.ps q hq).lz
theorem LB.mono{n k m j:Nat}{l:Lf}(h:LB n k l)(hn:n<=m)(hk:k<=j):LB m j l:=⟨by have:=h.len;omega,fun p hp=>(h.ps p hp).mono hk,h.k.mono hk⟩
theorem TmB.mono{n k m j:Nat}{t:Tm}(h:TmB n k t)(hn:n<=m)(hk:k<=j):TmB m j t:=⟨by have:=h.len;omega,fun p hp=>(h.ps p hp).mono hk,h.k.mono hk⟩
theorem coefL_inb{k:Nat}(v:Int):∀ l:List (Int × Int),(∀ p∈l,InB k p.2)->InB (k+l.length) (coefL v l)
 |[],_=>InB.zero _
 |p::r,h=>by
  have h1:=coefL_inb v r fun q hq=>h q (List.mem_cons_of_mem _ hq)
  have h2:=h p (List.mem_cons_self ..)
  rw[coefL,List.length_cons,←Nat.add_assoc]
  refine InB.add ?_ h1
  split
  .exact h2.mono (by omega)
  .exact InB.zero _
theorem Pln.mem:∀{l:List (Int × Int)},Pln l->∀ p∈l,coefL p.1 l=p.2
 |q::r,h,p,hp=>by
  rcases List.mem_cons.1 hp with rfl|hp
  .exact h.head
  .rw[coefL,if_neg (by have:=(List.pairwise_cons.1 h.asc).1 p hp;omega),h.tail.mem p hp]
   omega
theorem LB.pln{n k:Nat}{l:Lf}(h:LB n k l):LB n (k+n) l.pln:=by
 have hl:=plnOf_len l.ps
 refine⟨by have:=h.len;simp only[Lf.pln];omega,fun p hp=>?_,h.k.mono (by omega)⟩
 have h1:=(plnOf_pln l.ps).mem p hp
 rw[plnOf_coef,if_pos ((plnOf_pln l.ps).pos p hp)]at h1
 rw[←h1]
 exact(coefL_inb p.1 l.ps h.ps).mono (by have:=h.len;omega)
def Lf.add(a b:Lf):Lf:=Lf.pln ⟨a.ps++b.ps,a.k+b.k⟩
def Lf.scale(a:Lf)(n:Int):Lf:=Lf.pln ⟨a.ps.map fun p=>(p.1,p.2*n),a.k*n⟩
def Lf.sub(a b:Lf):Lf:=a.add (b.scale (-1))
def Lf.num(k:Int):Lf:=⟨[],k⟩
theorem LB.app{n k m j:Nat}{a b:Lf}(ha:LB n k a)(hb:LB m j b):LB (n+m) (k+j+1) ⟨a.ps++b.ps,a.k+b.k⟩:=by
 refine⟨by have:=ha.len;have:=hb.len;simp only[List.length_append];omega,fun p hp=>?_,InB.add (ha.k.mono (by omega)) (hb.k.mono (by omega))⟩
 rcases List.mem_append.1 hp with h|h
 .exact(ha.ps p h).mono (by omega)
 .exact(hb.ps p h).mono (by omega)
theorem LB.mul{n k j:Nat}{a:Lf}{x:Int}(ha:LB n k a)(hx:InB j x):LB n (k+j) ⟨a.ps.map fun p=>(p.1,p.2*x),a.k*x⟩:=by
 refine⟨by simpa using ha.len,fun p hp=>?_,InB.mul ha.k hx⟩
 simp only[List.mem_map]at hp
 obtain⟨q,hq,rfl⟩:=hp
 exact InB.mul (ha.ps q hq) hx
theorem LB.add{n k m j:Nat}{a b:Lf}(ha:LB n k a)(hb:LB m j b):LB (n+m) (k+j+1+(n+m)) (a.add b):=(ha.app hb).pln
theorem LB.scale{n k j:Nat}{a:Lf}{x:Int}(ha:LB n k a)(hx:InB j x):LB n (k+j+n) (a.scale x):=(ha.mul hx).pln
def sumV(f:Int->Int):List (Int × Int)->Int
 |[]=>0
 |p::r=>p.2*f p.1+sumV f r
def Lf.val(f:Int->Int)(l:Lf):Int:=sumV f l.ps+l.k
theorem sumV_app(f:Int->Int):∀ a b,sumV f (a++b)=sumV f a+sumV f b
 |[],b=>by simp[sumV]
 |p::r,b=>by rw[List.cons_append,sumV,sumV,sumV_app f r b];omega
theorem sumV_scale(f:Int->Int)(n:Int):∀ a:List (Int × Int),sumV f (a.map fun p=>(p.1,p.2*n))=sumV f a*n
 |[]=>by simp[sumV]
 |p::r=>by
  rw[List.map_cons,sumV,sumV,sumV_scale f n r,Int.add_mul,Int.mul_assoc,Int.mul_assoc,Int.mul_comm n]
theorem sumV_insP(f:Int->Int)(v c:Int):∀ l,sumV f (insP v c l)=c*f v+sumV f l
 |[]=>by
  unfold insP
  split
  .rename_i h;simp[sumV,h]
  .simp[sumV]
 |p::r=>by
  have ih:=sumV_insP f v c r
  unfold insP
  split
  .split
   .rename_i h;rw[h];simp
   .rfl
  .split
   .rw[sumV,ih,sumV];omega
   .have e:p.1=v:=by omega
    split
    .rename_i h
     rw[sumV,e,←Int.add_assoc,←Int.add_mul,Int.add_comm c,h]
     simp
    .show (p.2+c)*f v+sumV f r=c*f v+(p.2*f p.1+sumV f r)
     rw[e,Int.add_mul]
     omega
theorem sumV_pln{f:Int->Int}(hf:∀ v,v<0->f v=0):∀ l,sumV f (plnOf l)=sumV f l
 |[]=>rfl
 |p::r=>by
  have ih:=sumV_pln hf r
  unfold plnOf
  split
  .rw[sumV_insP,ih,sumV]
  .rename_i h
   rw[ih,sumV,hf p.1 (by omega)]
   simp
theorem val_pln{f:Int->Int}(hf:∀ v,v<0->f v=0)(l:Lf):l.pln.val f=l.val f:=by
 unfold Lf.pln Lf.val
 rw[sumV_pln hf]
theorem val_add{f:Int->Int}(hf:∀ v,v<0->f v=0)(a b:Lf):(a.add b).val f=a.val f+b.val f:=by
 unfold Lf.add
 rw[val_pln hf]
 unfold Lf.val
 simp only[sumV_app]
 omega
theorem val_scale{f:Int->Int}(hf:∀ v,v<0->f v=0)(a:Lf)(n:Int):(a.scale n).val f=a.val f*n:=by
 unfold Lf.scale
 rw[val_pln hf]
 unfold Lf.val
 simp only[sumV_scale,Int.add_mul]
theorem val_sub{f:Int->Int}(hf:∀ v,v<0->f v=0)(a b:Lf):(a.sub b).val f=a.val f-b.val f:=by
 unfold Lf.sub
 rw[val_add hf,val_scale hf]
 omega
def valF(vals:List Int)(v:Int):Int:=if v<0 then 0 else vals.getD v.toNat 0
theorem valF_neg(vals:List Int)(v:Int)(h:v<0):valF vals v=0:=if_pos h
end Go.Proofs.YtpncilciembjdaaGreatDoor
