/-
  Numbers as limbs of 32 bits, the lowest first. No program in sight.
  Sums, differences and products of limbs, limb by limb. No program in sight.
  Numbers below 0, too: sign and limbs. No program in sight.
  Sums of variables, each so many times: the plain ones. No program in sight.
  Rows put in order by a number: neighbours change places. No program in sight.
  Branches whose truth is known.
  What functions may be called, and which arguments go over as they are.
  Functions of the program as trees: what a call comes to.
  What the sort functions come to: insertion.
  Sums of variables as they lie in cells, and as numbers. No program in sight.
-/
import Derived.Test.YtpncilciembjdaaGreatDoorRAK
import Derived.Test.YtpncilciembjdaaGreatDoorChecked
set_option linter.unusedSectionVars false
set_option linter.unusedSimpArgs false
set_option linter.unusedVariables false
namespace Go.Proofs.YtpncilciembjdaaGreatDoor
open Go.RowKit

def valL:List Nat->Nat
 |[]=>0
 |x::r=>x+4294967296*valL r
def Limbs(l:List Nat):Prop:=∀ x∈l,x<4294967296
def natL(n:Nat):List Nat:=if n=0 then [] else(n % 4294967296)::natL (n / 4294967296)
termination_by n
decreasing_by omega
theorem natL_0:natL 0=[]:=by rw[natL];rfl
theorem natL_pos{n:Nat}(h:n≠0):natL n=(n % 4294967296)::natL (n / 4294967296):=by rw[natL,if_neg h]
theorem natL_limbs:∀(n:Nat),Limbs (natL n):=by
 intro n
 induction n using Nat.strongRecOn with
 |ind n ih=>
  by_cases h:n=0
  .subst h;rw[natL_0];intro x hx;cases hx
  .rw[natL_pos h]
   intro x hx
   rcases List.mem_cons.1 hx with rfl|hx
   .exact Nat.mod_lt _ (by omega)
   .exact ih (n / 4294967296) (by omega) x hx
theorem valL_natL:∀(n:Nat),valL (natL n)=n:=by
 intro n
 induction n using Nat.strongRecOn with
 |ind n ih=>
  by_cases h:n=0
  .subst h;rw[natL_0];rfl
  .rw[natL_pos h,valL,ih (n / 4294967296) (by omega)]
   omega
def topL:List Nat->Nat
 |[]=>0
 |x::r=>if topL r=0/\x=0 then 0 else topL r+1
theorem topL_le:∀ l:List Nat,topL l<=l.length
 |[]=>Nat.le_refl _
 |x::r=>by
  have:=topL_le r
  unfold topL
  rw[List.length_cons]
  split<;>omega
theorem Limbs.cons{x:Nat}{r:List Nat}(h:Limbs (x::r)):x<4294967296/\Limbs r:=⟨h x (List.mem_cons_self ..),fun y hy=>h y (List.mem_cons_of_mem _ hy)⟩
theorem limbs_nil:Limbs []:=fun _ h=>by cases h
theorem limbs_cons{x:Nat}{r:List Nat}(h:x<4294967296)(h2:Limbs r):Limbs (x::r):=fun y hy=>by
 rcases List.mem_cons.1 hy with rfl|hy
 .exact h
 .exact h2 y hy
theorem limbs_app{a b:List Nat}(h:Limbs a)(h2:Limbs b):Limbs (a++b):=fun x hx=>by
 rcases List.mem_append.1 hx with hx|hx
 .exact h x hx
 .exact h2 x hx
theorem Limbs.take{l:List Nat}(h:Limbs l)(n:Nat):Limbs (l.take n):=fun x hx=>h x (List.mem_of_mem_take hx)
theorem Limbs.drop{l:List Nat}(h:Limbs l)(n:Nat):Limbs (l.drop n):=fun x hx=>h x (List.mem_of_mem_drop hx)
theorem Limbs.get{l:List Nat}(h:Limbs l){i:Nat}(hi:i<l.length):l[i]<4294967296:=h _ (List.getElem_mem hi)
theorem topL_0:∀{l:List Nat},topL l=0->valL l=0
 |[],_=>rfl
 |x::r,h=>by
  unfold topL at h
  split at h
  .rename_i h2
   rw[valL,topL_0 h2.1,h2.2]
  .omega
theorem valL_0:∀{l:List Nat},valL l=0->topL l=0
 |[],_=>rfl
 |x::r,h=>by
  rw[valL]at h
  unfold topL
  rw[if_pos ⟨valL_0 (by omega),by omega⟩]
theorem take_top:∀{l:List Nat},Limbs l->l.take (topL l)=natL (valL l)
 |[],_=>by rw[valL,natL_0];rfl
 |x::r,h=>by
  obtain⟨h1,h2⟩:=h.cons
  have ih:=take_top h2
  unfold topL
  split
  .rename_i h3
   rw[List.take_zero,valL,topL_0 h3.1,h3.2,natL_0]
  .rename_i h3
   have h0:valL (x::r)≠0:=by
    intro h0
    rw[valL]at h0
    exact h3 ⟨valL_0 (by omega),by omega⟩
   rw[List.take_succ_cons,natL_pos h0,valL]
   have e1:(x+4294967296*valL r) % 4294967296=x:=by omega
   have e2:(x+4294967296*valL r) / 4294967296=valL r:=by omega
   rw[e1,e2,ih]
theorem valL_app:∀(a b:List Nat),valL (a++b)=valL a+4294967296 ^ a.length*valL b
 |[],b=>by simp[valL]
 |x::r,b=>by
  rw[List.cons_append,valL,valL_app r b,valL,List.length_cons,Nat.pow_succ,Nat.mul_add,←Nat.mul_assoc,Nat.mul_comm 4294967296 (4294967296 ^ r.length)]
  omega
theorem valL_lt:∀{l:List Nat},Limbs l->valL l<4294967296 ^ l.length
 |[],_=>by simp[valL]
 |x::r,h=>by
  obtain⟨h1,h2⟩:=h.cons
  have:=valL_lt h2
  rw[valL,List.length_cons,Nat.pow_succ]
  omega
theorem natL_len(l:List Nat)(h:Limbs l):(natL (valL l)).length=topL l:=by
 rw[←take_top h,List.length_take]
 have:=topL_le l
 omega
theorem natL_len_le{n k:Nat}(h:n<4294967296 ^ k):(natL n).length<=k:=by
 induction k generalizing n with
 |zero=>
  have:n=0:=by simpa using h
  subst this;rw[natL_0];exact Nat.le_refl _
 |succ k ih=>
  by_cases h0:n=0
  .subst h0;rw[natL_0];exact Nat.zero_le _
  .rw[natL_pos h0,List.length_cons]
   have:n / 4294967296<4294967296 ^ k:=by
    rw[Nat.div_lt_iff_lt_mul (by omega)]
    rw[Nat.pow_succ]at h
    exact h
   have:=ih this
   omega
theorem le_natL_len{n k:Nat}(h:4294967296 ^ k<=n):k<(natL n).length:=by
 by_cases h2:k<(natL n).length
 .exact h2
 .have h3:=valL_lt (natL_limbs n)
  rw[valL_natL]at h3
  have h4:4294967296 ^ (natL n).length<=4294967296 ^ k:=Nat.pow_le_pow_right (by omega) (by omega)
  omega
theorem topL_last:∀{l:List Nat},0<topL l->∃ x,l[topL l-1]? = some x/\x≠0
 |[],h=>by simp[topL]at h
 |y::r,h=>by
  by_cases h1:topL r=0
  .have h2:y≠0:=by
    intro h2
    unfold topL at h
    rw[if_pos ⟨h1,h2⟩]at h
    omega
   refine⟨y,?_,h2⟩
   unfold topL
   rw[if_neg (fun e=>h2 e.2),h1]
   rfl
  .obtain⟨x,h3,h4⟩:=topL_last (l:=r) (by omega)
   refine⟨x,?_,h4⟩
   unfold topL
   rw[if_neg (fun e=>h1 e.1)]
   have:topL r+1-1=(topL r-1)+1:=by omega
   rw[this,List.getElem?_cons_succ,h3]
theorem topL_ge:∀{l:List Nat} {i x:Nat},l[i]? = some x->x≠0->i<topL l
 |[],i,x,h,_=>by simp at h
 |y::r,0,x,h,h2=>by
  have h:y=x:=by simpa using h
  unfold topL
  rw[if_neg (fun e=>h2 (by rw[←h];exact e.2))]
  omega
 |y::r,i+1,x,h,h2=>by
  rw[List.getElem?_cons_succ]at h
  have:=topL_ge h h2
  unfold topL
  rw[if_neg (fun e=>by omega)]
  omega
theorem topL_down{l:List Nat}{n:Nat}(h:topL l<=n+1)(h2:l[n]? = some 0):topL l<=n:=by
 by_cases h3:topL l=n+1
 .obtain⟨x,h4,h5⟩:=topL_last (l:=l) (by omega)
  rw[h3,Nat.add_sub_cancel,h2]at h4
  injection h4 with h4
  exact absurd h4.symm h5
 .omega
def eL(n:Nat):List AV:=[.v (.int .u32 (n:Int))]
def eN(l:List Nat):AV:=.ls (l.map eL)
theorem eL_len(x:Nat):(eL x).length=1:=rfl
end Go.Proofs.YtpncilciembjdaaGreatDoor
namespace Go.Proofs.YtpncilciembjdaaGreatDoor
open Go.RowKit

def addL:Nat->List Nat->List Nat->List Nat
 |c,[],_=>[c]
 |c,x::a,b=>((x+b.headD 0+c) % 4294967296)::addL ((x+b.headD 0+c) / 4294967296) a b.tail
theorem headD_lt{b:List Nat}(h:Limbs b):b.headD 0<4294967296:=by
 cases b with
 |nil=>simp
 |cons y b=>exact h.cons.1
theorem Limbs.tail{b:List Nat}(h:Limbs b):Limbs b.tail:=by
 cases b with
 |nil=>exact h
 |cons y b=>exact h.cons.2
theorem valL_ht(b:List Nat):valL b=b.headD 0+4294967296*valL b.tail:=by
 cases b<;>rfl
theorem valL_addL:∀(a b:List Nat) (c:Nat),b.length<=a.length->valL (addL c a b)=c+valL a+valL b
 |[],b,c,h=>by
  obtain rfl:b=[]:=List.length_eq_zero_iff.1 (by simpa using h)
  simp[addL,valL]
 |x::a,b,c,h=>by
  have ih:=valL_addL a b.tail ((x+b.headD 0+c) / 4294967296) (by simp at h ⊢;omega)
  rw[addL,valL,ih,valL,valL_ht b]
  omega
theorem addL_limbs:∀(a b:List Nat) (c:Nat),Limbs a->Limbs b->c<=1->Limbs (addL c a b)
 |[],b,c,_,_,hc=>limbs_cons (by omega) limbs_nil
 |x::a,b,c,ha,hb,hc=>by
  have h1:=headD_lt hb
  have h2:=ha.cons
  exact limbs_cons (Nat.mod_lt _ (by omega)) (addL_limbs a b.tail _ h2.2 hb.tail (by omega))
def addR:Nat->Nat->List Nat->List Nat->List Nat
 |0,_,_,_=>[]
 |k+1,c,a,b=>((a.headD 0+b.headD 0+c) % 4294967296)::addR k ((a.headD 0+b.headD 0+c) / 4294967296) a.tail b.tail
theorem valL_addR:∀(k c:Nat) (a b:List Nat),valL (addR k c a b)=(c+valL a+valL b) % 4294967296 ^ k
 |0,c,a,b=>by simp[addR,valL,Nat.mod_one]
 |k+1,c,a,b=>by
  have ih:=valL_addR k ((a.headD 0+b.headD 0+c) / 4294967296) a.tail b.tail
  rw[addR,valL,ih,valL_ht a,valL_ht b,Nat.pow_succ,Nat.mul_comm (4294967296 ^ k) 4294967296,Nat.mod_mul]
  have e1:(c+(a.headD 0+4294967296*valL a.tail)+(b.headD 0+4294967296*valL b.tail)) % 4294967296=(a.headD 0+b.headD 0+c) % 4294967296:=by omega
  have e2:(c+(a.headD 0+4294967296*valL a.tail)+(b.headD 0+4294967296*valL b.tail)) / 4294967296=(a.headD 0+b.headD 0+c) / 4294967296+valL a.tail+valL b.tail:=by omega
  rw[e1,e2]
theorem addR_limbs:∀(k c:Nat) (a b:List Nat),Limbs (addR k c a b)
 |0,_,_,_=>limbs_nil
 |k+1,c,a,b=>limbs_cons (Nat.mod_lt _ (by omega)) (addR_limbs k _ _ _)
def subL:Nat->List Nat->List Nat->List Nat
 |_,[],_=>[]
 |c,x::a,b=>(if x<b.headD 0+c then x+4294967296-(b.headD 0+c) else x-(b.headD 0+c))::subL (if x<b.headD 0+c then 1 else 0) a b.tail
def subC:Nat->List Nat->List Nat->Nat
 |c,[],_=>c
 |c,x::a,b=>subC (if x<b.headD 0+c then 1 else 0) a b.tail
theorem subC_le:∀(a b:List Nat) (c:Nat),c<=1->subC c a b<=1
 |[],_,_,h=>h
 |x::a,b,c,h=>subC_le a b.tail _ (by split<;>omega)
theorem valL_subL:∀(a b:List Nat) (c:Nat),Limbs a->Limbs b->c<=1->b.length<=a.length->valL (subL c a b)+valL b+c=valL a+4294967296 ^ a.length*subC c a b
 |[],b,c,_,_,_,h=>by
  obtain rfl:b=[]:=List.length_eq_zero_iff.1 (by simpa using h)
  simp[subL,subC,valL]
 |x::a,b,c,ha,hb,hc,h=>by
  have h1:=headD_lt hb
  have h2:=ha.cons
  rw[subL,subC,valL,valL,valL_ht b,List.length_cons,Nat.pow_succ]
  have ih:=valL_subL a b.tail (if x<b.headD 0+c then 1 else 0) h2.2 hb.tail (by split<;>omega) (by simp at h ⊢;omega)
  rw[Nat.mul_comm (4294967296 ^ a.length) 4294967296,Nat.mul_assoc]
  revert ih
  generalize 4294967296 ^ a.length*subC (if x<b.headD 0+c then 1 else 0) a b.tail=z
  generalize valL (subL (if x<b.headD 0+c then 1 else 0) a b.tail)=s
  intro ih
  split at ih
  .rename_i h3
   rw[if_pos h3]
   omega
  .rename_i h3
   rw[if_neg h3]
   omega
theorem subL_limbs:∀(a b:List Nat) (c:Nat),Limbs a->Limbs b->c<=1->Limbs (subL c a b)
 |[],_,_,_,_,_=>limbs_nil
 |x::a,b,c,ha,hb,hc=>by
  have h1:=headD_lt hb
  have h2:=ha.cons
  refine limbs_cons ?_ (subL_limbs a b.tail _ h2.2 hb.tail (by split<;>omega))
  split<;>omega
theorem subL_len:∀(a b:List Nat) (c:Nat),(subL c a b).length=a.length
 |[],_,_=>rfl
 |x::a,b,c=>by rw[subL,List.length_cons,subL_len a,List.length_cons]
theorem valL_sub{a b:List Nat}(ha:Limbs a)(hb:Limbs b)(h:b.length<=a.length)(hv:valL b<=valL a):valL (subL 0 a b)=valL a-valL b:=by
 have h1:=valL_subL a b 0 ha hb (by omega) h
 have h2:=valL_lt (subL_limbs a b 0 ha hb (by omega))
 rw[subL_len]at h2
 have h3:=subC_le a b 0 (by omega)
 have h4:=valL_lt ha
 rcases Nat.lt_or_ge (subC 0 a b) 1 with h5|h5
 .rw[show subC 0 a b=0 by omega]at h1
  omega
 .rw[show subC 0 a b=1 by omega]at h1
  omega
def mulR:Nat->Nat->List Nat->List Nat->List Nat
 |_,c,[],o=>c::o.tail
 |x,c,y::b,o=>((x*y+o.headD 0+c) % 4294967296)::mulR x ((x*y+o.headD 0+c) / 4294967296) b o.tail
theorem valL_mulR:∀(x:Nat) (b o:List Nat) (c:Nat),(o.drop b.length).headD 0=0->valL (mulR x c b o)=x*valL b+valL o+c
 |x,[],o,c,h=>by
  have h:o.headD 0=0:=h
  rw[mulR,valL,valL,valL_ht o,h]
  omega
 |x,y::b,o,c,h=>by
  have h2:(o.tail.drop b.length).headD 0=0:=by
   rw[List.length_cons]at h
   cases o with
   |nil=>simp
   |cons z o=>exact h
  have ih:=valL_mulR x b o.tail ((x*y+o.headD 0+c) / 4294967296) h2
  have e:x*(y+4294967296*valL b)=x*y+4294967296*(x*valL b):=by
   rw[Nat.mul_add,←Nat.mul_assoc,Nat.mul_comm x 4294967296,Nat.mul_assoc]
  rw[mulR,valL,ih,valL,valL_ht o,e]
  omega
theorem mul_lt{x y:Nat}(hx:x<4294967296)(hy:y<4294967296):x*y<=18446744065119617025:=by
 have:=Nat.mul_le_mul (show x<=4294967295 by omega) (show y<=4294967295 by omega)
 omega
theorem mulR_limbs:∀(x:Nat) (b o:List Nat) (c:Nat),x<4294967296->Limbs b->Limbs o->c<4294967296->Limbs (mulR x c b o)
 |x,[],o,c,_,_,ho,hc=>limbs_cons hc ho.tail
 |x,y::b,o,c,hx,hb,ho,hc=>by
  have h1:=headD_lt ho
  have h2:=hb.cons
  have h3:=mul_lt hx h2.1
  exact limbs_cons (Nat.mod_lt _ (by omega)) (mulR_limbs x b o.tail _ hx h2.2 ho.tail (by omega))
def smallL:Nat->Nat->List Nat->List Nat
 |_,c,[]=>[c]
 |m,c,x::a=>((x*m+c) % 4294967296)::smallL m ((x*m+c) / 4294967296) a
theorem valL_smallL:∀(m:Nat) (a:List Nat) (c:Nat),valL (smallL m c a)=valL a*m+c
 |m,[],c=>by simp[smallL,valL]
 |m,x::a,c=>by
  rw[smallL,valL,valL_smallL m a,valL,Nat.add_mul,Nat.mul_assoc]
  omega
theorem smallL_limbs:∀(m:Nat) (a:List Nat) (c:Nat),m<4294967296->Limbs a->c<4294967296->Limbs (smallL m c a)
 |m,[],c,_,_,hc=>limbs_cons hc limbs_nil
 |m,x::a,c,hm,ha,hc=>by
  have h2:=ha.cons
  have h3:=mul_lt h2.1 hm
  exact limbs_cons (Nat.mod_lt _ (by omega)) (smallL_limbs m a _ hm h2.2 (by omega))
def cmpN(a b:Nat):Int:=if a<b then -1 else if b<a then 1 else 0
theorem cmp_snoc{a b:List Nat}(ha:Limbs a)(hb:Limbs b)(h:a.length=b.length)(x y:Nat):cmpN (valL (a++[x])) (valL (b++[y]))=if x<y then -1 else if y<x then 1 else cmpN (valL a) (valL b):=by
 rw[valL_app,valL_app,←h]
 have h1:=valL_lt ha
 have h2:=valL_lt hb
 rw[←h]at h2
 simp only[valL,Nat.mul_zero,Nat.add_zero]
 revert h1 h2
 generalize 4294967296 ^ a.length=k
 generalize valL a=p
 generalize valL b=q
 intro h1 h2
 by_cases h3:x<y
 .rw[if_pos h3]
  have:k*(x+1)<=k*y:=Nat.mul_le_mul_left _ h3
  rw[Nat.mul_add]at this
  unfold cmpN
  rw[if_pos (by omega)]
 .rw[if_neg h3]
  by_cases h4:y<x
  .rw[if_pos h4]
   have:k*(y+1)<=k*x:=Nat.mul_le_mul_left _ h4
   rw[Nat.mul_add]at this
   unfold cmpN
   rw[if_neg (by omega),if_pos (by omega)]
  .rw[if_neg h4]
   obtain rfl:x=y:=by omega
   unfold cmpN
   by_cases h5:p<q
   .rw[if_pos (by omega),if_pos h5]
   .rw[if_neg (by omega),if_neg h5]
    by_cases h6:q<p
    .rw[if_pos (by omega),if_pos h6]
    .rw[if_neg (by omega),if_neg h6]
end Go.Proofs.YtpncilciembjdaaGreatDoor
namespace Go.Proofs.YtpncilciembjdaaGreatDoor
open Go.RowKit

structure Zi where
 neg:Bool
 abs:List Nat
def sgI(neg:Bool)(n:Nat):Int:=if neg then -(n:Int) else n
def zv(z:Zi):Int:=sgI z.neg (valL z.abs)
def ziOf(n:Int):Zi:=⟨decide (n<0),natL n.natAbs⟩
def eZ(z:Zi):List AV:=[bv z.neg,eN z.abs]
theorem sgI_abs(n:Int):sgI (decide (n<0)) n.natAbs=n:=by
 unfold sgI
 by_cases h:n<0
 .rw[decide_eq_true h,if_pos rfl];omega
 .rw[decide_eq_false h,if_neg (by simp)];omega
theorem zv_ziOf(n:Int):zv (ziOf n)=n:=by
 unfold zv ziOf
 rw[valL_natL]
 exact sgI_abs n
theorem ziOf_sg(neg:Bool)(v:Nat):ziOf (sgI neg v)=⟨neg&&decide (0<v),natL v⟩:=by
 unfold ziOf sgI
 cases neg with
 |false=>
  rw[if_neg (by simp),Bool.false_and,decide_eq_false (by omega)]
  rfl
 |true=>
  rw[if_pos rfl,Bool.true_and,Int.natAbs_neg,Int.natAbs_natCast]
  congr 1
  by_cases h:0<v
  .rw[decide_eq_true h,decide_eq_true (by omega)]
  .rw[decide_eq_false h,decide_eq_false (by omega)]
theorem ziOf_0:ziOf 0=⟨false,[]⟩:=by
 unfold ziOf
 rw[show (0:Int).natAbs=0 from rfl,natL_0]
 rfl
structure Lz (k:Nat) (z:Zi):Prop where
 lim:Limbs z.abs
 len:z.abs.length<=k
theorem Lz.mono{k m:Nat}{z:Zi}(h:Lz k z)(hm:k<=m):Lz m z:=⟨h.lim,by have:=h.len;omega⟩
def InB(k:Nat)(n:Int):Prop:=n.natAbs<4294967296 ^ k
theorem InB.lz{k:Nat}{n:Int}(h:InB k n):Lz k (ziOf n):=⟨natL_limbs _,natL_len_le h⟩
theorem Lz.inb{k:Nat}{z:Zi}(h:Lz k z):InB k (zv z):=by
 unfold InB zv
 have h1:=valL_lt h.lim
 have h2:4294967296 ^ z.abs.length<=4294967296 ^ k:=Nat.pow_le_pow_right (by omega) h.len
 have h3:(sgI z.neg (valL z.abs)).natAbs=valL z.abs:=by
  unfold sgI
  split
  .rw[Int.natAbs_neg];rfl
  .rfl
 omega
theorem InB.mono{k m:Nat}{n:Int}(h:InB k n)(hm:k<=m):InB m n:=by
 unfold InB at *
 have h2:4294967296 ^ k<=4294967296 ^ m:=Nat.pow_le_pow_right (by omega) hm
 omega
theorem InB.add{k:Nat}{a b:Int}(ha:InB k a)(hb:InB k b):InB (k+1) (a+b):=by
 unfold InB at *
 have:=Int.natAbs_add_le a b
 rw[Nat.pow_succ]
 omega
theorem InB.neg{k:Nat}{a:Int}(ha:InB k a):InB k (-a):=by
 unfold InB at *
 rw[Int.natAbs_neg]
 exact ha
theorem InB.mul{k m:Nat}{a b:Int}(ha:InB k a)(hb:InB m b):InB (k+m) (a*b):=by
 unfold InB at *
 rw[Int.natAbs_mul,Nat.pow_add]
 have h1:a.natAbs*b.natAbs<=a.natAbs*4294967296 ^ m:=Nat.mul_le_mul_left _ (Nat.le_of_lt hb)
 have h2:a.natAbs*4294967296 ^ m<4294967296 ^ k*4294967296 ^ m:=Nat.mul_lt_mul_of_pos_right ha (Nat.pow_pos (by omega))
 omega
theorem InB.zero(k:Nat):InB k 0:=by
 unfold InB
 exact Nat.pow_pos (by omega)
def cmpZ(a b:Int):Int:=if a<b then -1 else if b<a then 1 else 0
def sgnZ(n:Int):Int:=if n<0 then -1 else if 0<n then 1 else 0
theorem zv_neg(z:Zi):zv z<0 ↔ z.neg=true/\0<valL z.abs:=by
 obtain⟨n,l⟩:=z
 cases n with
 |true=>
  show (-(valL l:Int)<0) ↔ (true=true/\0<valL l)
  exact⟨fun h=>⟨rfl,by omega⟩,fun h=>by have:=h.2;omega⟩
 |false=>
  show ((valL l:Int)<0) ↔ (false=true/\0<valL l)
  exact⟨fun h=>by omega,fun h=>by cases h.1⟩
theorem zv_zero(z:Zi):zv z=0 ↔ valL z.abs=0:=by
 unfold zv sgI
 split<;>omega
theorem natL_pos_iff{n:Nat}:0<(natL n).length ↔ 0<n:=by
 constructor
 .intro h
  by_cases h0:n=0
  .subst h0;rw[natL_0]at h;simp at h
  .omega
 .intro h
  rw[natL_pos (by omega)]
  simp
end Go.Proofs.YtpncilciembjdaaGreatDoor
namespace Go.Proofs.YtpncilciembjdaaGreatDoor
open Go.RowKit

def coefL(v:Int):List (Int × Int)->Int
 |[]=>0
 |p::r=>(if p.1=v then p.2 else 0)+coefL v r
theorem coefL_none{v:Int}:∀{l:List (Int × Int)},(∀ p∈l,p.1≠v)->coefL v l=0
 |[],_=>rfl
 |p::r,h=>by
  rw[coefL,if_neg (h p (List.mem_cons_self ..)),coefL_none fun q hq=>h q (List.mem_cons_of_mem _ hq)]
  rfl
structure Pln (l:List (Int × Int)):Prop where
 asc:l.Pairwise fun a b=>a.1<b.1
 pos:∀ p∈l,0<=p.1
 nz:∀ p∈l,p.2≠0
theorem pln_nil:Pln []:=⟨.nil,by simp,by simp⟩
theorem Pln.tail{p:Int × Int}{r:List (Int × Int)}(h:Pln (p::r)):Pln r:=⟨(List.pairwise_cons.1 h.asc).2,fun q hq=>h.pos q (List.mem_cons_of_mem _ hq),fun q hq=>h.nz q (List.mem_cons_of_mem _ hq)⟩
theorem Pln.head{p:Int × Int}{r:List (Int × Int)}(h:Pln (p::r)):coefL p.1 (p::r)=p.2:=by
 rw[coefL,if_pos rfl,coefL_none fun q hq=>by have:=(List.pairwise_cons.1 h.asc).1 q hq;omega]
 omega
theorem Pln.below{p:Int × Int}{r:List (Int × Int)}(h:Pln (p::r)){v:Int}(hv:v<p.1):coefL v (p::r)=0:=by
 refine coefL_none fun q hq=>?_
 rcases List.mem_cons.1 hq with rfl|hq
 .omega
 .have:=(List.pairwise_cons.1 h.asc).1 q hq
  omega
def insP(v c:Int):List (Int × Int)->List (Int × Int)
 |[]=>if c=0 then [] else [(v,c)]
 |p::r=>if v<p.1 then(if c=0 then p::r else(v,c)::p::r) else if p.1<v then p::insP v c r else if p.2+c=0 then r else(v,p.2+c)::r
theorem insP_coef(v c u:Int):∀ l:List (Int × Int),coefL u (insP v c l)=(if v=u then c else 0)+coefL u l
 |[]=>by
  unfold insP
  split
  .rename_i h;simp[coefL,h]
  .simp[coefL]
 |p::r=>by
  have ih:=insP_coef v c u r
  unfold insP
  split
  .split
   .rename_i h;rw[h];simp
   .rfl
  .split
   .rw[coefL,ih,coefL];omega
   .have e:p.1=v:=by omega
    split
    .rename_i h
     rw[coefL,e]
     split<;>omega
    .rw[coefL,coefL,e]
     split<;>omega
theorem insP_mem{v c:Int}:∀{l:List (Int × Int)} {q:Int × Int},q∈insP v c l->q.1=v\/q∈l
 |[],q,h=>by
  unfold insP at h
  split at h
  .exact .inr h
  .rw[List.mem_singleton.1 h];exact .inl rfl
 |p::r,q,h=>by
  unfold insP at h
  split at h
  .split at h
   .exact .inr h
   .rcases List.mem_cons.1 h with h|h
    .rw[h];exact .inl rfl
    .exact .inr h
  .split at h
   .rcases List.mem_cons.1 h with h|h
    .rw[h];exact .inr (List.mem_cons_self ..)
    .rcases insP_mem h with h|h
     .exact .inl h
     .exact .inr (List.mem_cons_of_mem _ h)
   .split at h
    .exact .inr (List.mem_cons_of_mem _ h)
    .rcases List.mem_cons.1 h with h|h
     .rw[h];exact .inl rfl
     .exact .inr (List.mem_cons_of_mem _ h)
theorem insP_pln{v c:Int}(hv:0<=v):∀{l:List (Int × Int)},Pln l->Pln (insP v c l)
 |[],_=>by
  unfold insP
  split
  .exact pln_nil
  .rename_i h
   exact⟨List.pairwise_singleton _ _,by simpa using hv,by simpa using h⟩
 |p::r,h=>by
  have ih:=insP_pln (c:=c) hv h.tail
  have hp:=List.pairwise_cons.1 h.asc
  unfold insP
  split
  .rename_i h1
   split
   .exact h
   .rename_i h2
    refine⟨List.pairwise_cons.2 ⟨fun q hq=>?_,h.asc⟩,fun q hq=>?_,fun q hq=>?_⟩
    .rcases List.mem_cons.1 hq with rfl|hq
     .exact h1
     .have:=hp.1 q hq;simp only;omega
    .rcases List.mem_cons.1 hq with rfl|hq
     .exact hv
     .exact h.pos q hq
    .rcases List.mem_cons.1 hq with rfl|hq
     .exact h2
     .exact h.nz q hq
  .split
   .rename_i h1 h2
    refine⟨List.pairwise_cons.2 ⟨fun q hq=>?_,ih.asc⟩,fun q hq=>?_,fun q hq=>?_⟩
    .rcases insP_mem hq with e|hq
     .rw[e];exact h2
     .exact hp.1 q hq
    .rcases List.mem_cons.1 hq with rfl|hq
     .exact h.pos _ (List.mem_cons_self ..)
     .exact ih.pos q hq
    .rcases List.mem_cons.1 hq with rfl|hq
     .exact h.nz _ (List.mem_cons_self ..)
     .exact ih.nz q hq
   .rename_i h1 h2
    split
    .exact h.tail
    .rename_i h3
     refine⟨List.pairwise_cons.2 ⟨fun q hq=>?_,hp.2⟩,fun q hq=>?_,fun q hq=>?_⟩
     .have:=hp.1 q hq;simp only;omega
     .rcases List.mem_cons.1 hq with rfl|hq
      .exact hv
      .exact h.tail.pos q hq
     .rcases List.mem_cons.1 hq with rfl|hq
      .exact h3
      .exact h.tail.nz q hq
def plnOf:List (Int × Int)->List (Int × Int)
 |[]=>[]
 |p::r=>if 0<=p.1 then insP p.1 p.2 (plnOf r) else plnOf r
theorem plnOf_pln:∀ l:List (Int × Int),Pln (plnOf l)
 |[]=>pln_nil
 |p::r=>by
  unfold plnOf
  split
  .rename_i h;exact insP_pln h (plnOf_pln r)
  .exact plnOf_pln r
theorem plnOf_coef(v:Int):∀ l:List (Int × Int),coefL v (plnOf l)=if 0<=v then coefL v l else 0
 |[]=>by simp[plnOf,coefL]
 |p::r=>by
  have ih:=plnOf_coef v r
  unfold plnOf
  by_cases h:0<=p.1
  .by_cases hv:0<=v
   .rw[if_pos h,insP_coef,ih,coefL,if_pos hv,if_pos hv]
   .rw[if_pos h,insP_coef,ih,if_neg hv,if_neg hv,if_neg (by omega)]
    rfl
  .by_cases hv:0<=v
   .rw[if_neg h,ih,coefL,if_pos hv,if_pos hv,if_neg (show ¬ p.1=v by omega)]
    omega
   .rw[if_neg h,ih,if_neg hv,if_neg hv]
theorem plnOf_len:∀ l:List (Int × Int),(plnOf l).length<=l.length
 |[]=>Nat.le_refl _
 |p::r=>by
  have ih:=plnOf_len r
  have ins:∀ l:List (Int × Int),(insP p.1 p.2 l).length<=l.length+1:=fun l=>by
   induction l with
   |nil=>unfold insP;split<;>simp
   |cons q s ih=>
    unfold insP
    split
    .split<;>simp
    .split
     .simpa using ih
     .split
      .simp;omega
      .simp
  unfold plnOf
  split
  .have:=ins (plnOf r)
   rw[List.length_cons]
   omega
  .rw[List.length_cons]
   omega
end Go.Proofs.YtpncilciembjdaaGreatDoor
namespace Go.Proofs.YtpncilciembjdaaGreatDoor
open Go.RowKit

section
variable {α:Type} (key:α->Int)
def kf(l:List α)(p:Nat):Int:=match l[p]? with
 |some x=>key x
 |none=>0
def Srt(l:List α)(a b:Nat):Prop:=∀ p q,a<=p->p<q->q<b->kf key l p<=kf key l q
def Same0(l r:List α)(a b:Nat):Prop:=∀ p,(p<a\/b<=p)->r[p]? = l[p]?
theorem Same0.trans{l r s:List α}{a b:Nat}(h1:Same0 l r a b)(h2:Same0 r s a b):Same0 l s a b:=fun p hp=>(h2 p hp).trans (h1 p hp)
theorem Same0.kf{l r:List α}{a b p:Nat}(h:Same0 l r a b)(hp:p<a\/b<=p):kf key r p=kf key l p:=by
 unfold Go.Proofs.YtpncilciembjdaaGreatDoor.kf
 rw[h p hp]
end
end Go.Proofs.YtpncilciembjdaaGreatDoor
namespace Go.Proofs.YtpncilciembjdaaGreatDoor
open Go.RowKit

theorem br_eqT{a b:Int}(h:a=b){x y:KR}:br (realA.eq a b) x y=x:=by rw[r_eq,decide_eq_true h];rfl
theorem br_eqF{a b:Int}(h:¬ a=b){x y:KR}:br (realA.eq a b) x y=y:=by rw[r_eq,decide_eq_false h];rfl
theorem br_seqT{a b:ByteArray}(h:a=b){x y:KR}:br (realA.seq a b) x y=x:=by rw[r_seq,decide_eq_true h];rfl
theorem br_ltT{a b:Int}(h:a<b){x y:KR}:br (realA.lt a b) x y=x:=by rw[r_lt,decide_eq_true h];rfl
theorem br_ltF{a b:Int}(h:¬ a<b){x y:KR}:br (realA.lt a b) x y=y:=by rw[r_lt,decide_eq_false h];rfl
theorem br_leT{a b:Int}(h:a<=b){x y:KR}:br (realA.le a b) x y=x:=by rw[r_le,decide_eq_true h];rfl
theorem br_leF{a b:Int}(h:¬ a<=b){x y:KR}:br (realA.le a b) x y=y:=by rw[r_le,decide_eq_false h];rfl
end Go.Proofs.YtpncilciembjdaaGreatDoor
namespace Go.Proofs.YtpncilciembjdaaGreatDoor
def entsC:Nat:=1042962668542029374677668987337996011341198353761632795856419847799597962473998426758556155900
def ownC:List (Nat × Nat):=[(262,0),(240,0),(241,0),(136,0),(196,0),(234,0),(235,0),(265,0),(275,0),(140,0),(199,0)]
end Go.Proofs.YtpncilciembjdaaGreatDoor
namespace Go.Proofs.YtpncilciembjdaaGreatDoor
open Go.RowKit
variable (A:Ar) (D:Orc)
end Go.Proofs.YtpncilciembjdaaGreatDoor
namespace Go.Proofs.YtpncilciembjdaaGreatDoor
open Go.RowKit

structure Pt where
 v:Int
 z:Zi
def eP(p:Pt):List AV:=[iv p.v,bv p.z.neg,eN p.z.abs]


end Go.Proofs.YtpncilciembjdaaGreatDoor
namespace Go.Proofs.YtpncilciembjdaaGreatDoor
open Go.RowKit

structure Tm where
 ps:List Pt
 k:Zi
def eT(t:Tm):List AV:=[.ls (t.ps.map eP),bv t.k.neg,eN t.k.abs]
structure Lf where
 ps:List (Int × Int)
 k:Int
def pv(p:Pt):Int × Int:=(p.v,zv p.z)
def ptOf(p:Int × Int):Pt:=⟨p.1,ziOf p.2⟩
def Tm.lf(t:Tm):Lf:=⟨t.ps.map pv,zv t.k⟩
def Lf.tm(l:Lf):Tm:=⟨l.ps.map ptOf,ziOf l.k⟩
def Lf.pln(l:Lf):Lf:=⟨plnOf l.ps,l.k⟩
theorem pv_ptOf(p:Int × Int):pv (ptOf p)=p:=by
 unfold pv ptOf
 rw[zv_ziOf]
theorem tm_lf(l:Lf):l.tm.lf=l:=by
 obtain⟨ps,k⟩:=l
 unfold Lf.tm Tm.lf
 simp only[List.map_map,zv_ziOf]
 rw[show (pv ∘ ptOf)=id from funext pv_ptOf,List.map_id]
structure TmB (n k:Nat) (t:Tm):Prop where
 len:t.ps.length<=n
 ps:∀ p∈t.ps,Lz k p.z
 k:Lz k t.k
structure LB (n k:Nat) (l:Lf):Prop where
 len:l.ps.length<=n
 ps:∀ p∈l.ps,InB k p.2
 k:InB k l.k
theorem TmB.lb{n k:Nat}{t:Tm}(h:TmB n k t):LB n k t.lf:=by
 refine⟨by simpa[Tm.lf]using h.len,fun p hp=>?_,h.k.inb⟩
 simp only[Tm.lf,List.mem_map]at hp
 obtain⟨q,hq,rfl⟩:=hp
 exact(h.ps q hq).inb
theorem LB.mono{n k m j:Nat}{l:Lf}(h:LB n k l)(hn:n<=m)(hk:k<=j):LB m j l:=⟨by have:=h.len;omega,fun p hp=>(h.ps p hp).mono hk,h.k.mono hk⟩
theorem TmB.mono{n k m j:Nat}{t:Tm}(h:TmB n k t)(hn:n<=m)(hk:k<=j):TmB m j t:=⟨by have:=h.len;omega,fun p hp=>(h.ps p hp).mono hk,h.k.mono hk⟩
theorem coefL_inb{k:Nat}(v:Int):∀ l:List (Int × Int),(∀ p∈l,InB k p.2)->InB (k+l.length) (coefL v l)
 |[],_=>InB.zero _
 |p::r,h=>by
  have h1:=coefL_inb v r fun q hq=>h q (List.mem_cons_of_mem _ hq)
  have h2:=h p (List.mem_cons_self ..)
  rw[coefL,List.length_cons,←Nat.add_assoc]
  refine InB.add ?_ h1
  split
  .exact h2.mono (by omega)
  .exact InB.zero _
theorem Pln.mem:∀{l:List (Int × Int)},Pln l->∀ p∈l,coefL p.1 l=p.2
 |q::r,h,p,hp=>by
  rcases List.mem_cons.1 hp with rfl|hp
  .exact h.head
  .rw[coefL,if_neg (by have:=(List.pairwise_cons.1 h.asc).1 p hp;omega),h.tail.mem p hp]
   omega
theorem LB.pln{n k:Nat}{l:Lf}(h:LB n k l):LB n (k+n) l.pln:=by
 have hl:=plnOf_len l.ps
 refine⟨by have:=h.len;simp only[Lf.pln];omega,fun p hp=>?_,h.k.mono (by omega)⟩
 have h1:=(plnOf_pln l.ps).mem p hp
 rw[plnOf_coef,if_pos ((plnOf_pln l.ps).pos p hp)]at h1
 rw[←h1]
 exact(coefL_inb p.1 l.ps h.ps).mono (by have:=h.len;omega)
def Lf.add(a b:Lf):Lf:=Lf.pln ⟨a.ps++b.ps,a.k+b.k⟩
def Lf.scale(a:Lf)(n:Int):Lf:=Lf.pln ⟨a.ps.map fun p=>(p.1,p.2*n),a.k*n⟩
def Lf.sub(a b:Lf):Lf:=a.add (b.scale (-1))
theorem LB.app{n k m j:Nat}{a b:Lf}(ha:LB n k a)(hb:LB m j b):LB (n+m) (k+j+1) ⟨a.ps++b.ps,a.k+b.k⟩:=by
 refine⟨by have:=ha.len;have:=hb.len;simp only[List.length_append];omega,fun p hp=>?_,InB.add (ha.k.mono (by omega)) (hb.k.mono (by omega))⟩
 rcases List.mem_append.1 hp with h|h
 .exact(ha.ps p h).mono (by omega)
 .exact(hb.ps p h).mono (by omega)
theorem LB.mul{n k j:Nat}{a:Lf}{x:Int}(ha:LB n k a)(hx:InB j x):LB n (k+j) ⟨a.ps.map fun p=>(p.1,p.2*x),a.k*x⟩:=by
 refine⟨by simpa using ha.len,fun p hp=>?_,InB.mul ha.k hx⟩
 simp only[List.mem_map]at hp
 obtain⟨q,hq,rfl⟩:=hp
 exact InB.mul (ha.ps q hq) hx
theorem LB.add{n k m j:Nat}{a b:Lf}(ha:LB n k a)(hb:LB m j b):LB (n+m) (k+j+1+(n+m)) (a.add b):=(ha.app hb).pln
theorem LB.scale{n k j:Nat}{a:Lf}{x:Int}(ha:LB n k a)(hx:InB j x):LB n (k+j+n) (a.scale x):=(ha.mul hx).pln
def sumV(f:Int->Int):List (Int × Int)->Int
 |[]=>0
 |p::r=>p.2*f p.1+sumV f r
def Lf.val(f:Int->Int)(l:Lf):Int:=sumV f l.ps+l.k
def valF(vals:List Int)(v:Int):Int:=if v<0 then 0 else vals.getD v.toNat 0
theorem valF_neg(vals:List Int)(v:Int)(h:v<0):valF vals v=0:=if_pos h
end Go.Proofs.YtpncilciembjdaaGreatDoor
