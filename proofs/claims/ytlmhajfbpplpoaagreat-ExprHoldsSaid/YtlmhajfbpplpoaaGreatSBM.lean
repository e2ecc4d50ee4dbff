/- The contracts that hand-walked texts tell. Layer 1 -/
import Derived.Test.YtlmhajfbpplpoaaGreatSAS
import Derived.Test.YtlmhajfbpplpoaaGreatSAW
import Derived.Test.YtlmhajfbpplpoaaGreatSBL
import Derived.Test.YtlmhajfbpplpoaaGreatSAZ
import Derived.Test.YtlmhajfbpplpoaaGreatSBH
import Derived.Test.YtlmhajfbpplpoaaGreatSBF
import Derived.Test.YtlmhajfbpplpoaaGreatSAO
import Derived.Test.YtlmhajfbpplpoaaGreatSAU
import Derived.Test.YtlmhajfbpplpoaaGreatSBA
import Derived.Test.YtlmhajfbpplpoaaGreatSAY
import Derived.Test.YtlmhajfbpplpoaaGreatSBI
set_option linter.unusedSectionVars false
set_option linter.unusedSimpArgs false
set_option linter.unusedVariables false
namespace Go.Proofs.YtlmhajfbpplpoaaGreat
open Go.RowKit
theorem Amw:BC (BZ Tryz.prog 91) (Cx NJ):=AbF 164 fun s w hs=>(Abk s w hs).mono fun e w' h=>by
 unfold XM at h
 unfold PN
 exact h
theorem YU:BC (BZ Tryz.prog 109) (Cx CF):=YP fun s w hs=>ZB s w hs
theorem Qk:BC (BZ Tryz.prog 108) (Cx BV):=TE fun s w hs=>I9 s w hs
theorem Rt:BC (BZ Tryz.prog 22) (Cx Co):=Ro YU Qk
end Go.Proofs.YtlmhajfbpplpoaaGreat
namespace Go.Proofs.YtlmhajfbpplpoaaGreat
open Go.RowKit
theorem gAy(f:Nat):BC (BZ Tryz.prog f) ((Dn Ao Cp 200).ask (.fn f)):=(Qb (Xc Amw YU Qk Rt) 200).1 f
set_option maxRecDepth 1000000
theorem AgF:(Dn Ao Cp 200).ask (.fn 17) [sv (AE s1)] []=some (.tup [.agg (DI t1),.agg [iv 0,iv 0],iv 0],[]):=by kernel_rfl
theorem AgG:(Dn Ao Cp 200).ask (.fn 17) [sv (AE s2)] []=some (.tup [.agg (DI T0),.agg [iv 1,iv 4],iv 101],[]):=by kernel_rfl
theorem AgH:(Dn Ao Cp 200).ask (.fn 15) [sv (AE s3)] []=some (.tup [.ls (Vo.map Gt),.agg [iv 0,iv 0],iv 0],[]):=by kernel_rfl
theorem Ab9:(Dn Ao Cp 200).ask (.fn 25) [.agg (DI t1)] []=some (sv (AE s1),[]):=by kernel_rfl
theorem Aj8:(Dn Ao Cp 200).ask (.fn 47) [.agg (DI To)] []=some (sv (AE s4),[]):=by kernel_rfl
end Go.Proofs.YtlmhajfbpplpoaaGreat
namespace Go.Proofs.YtlmhajfbpplpoaaGreat
open Go.RowKit
def Ai:List Nat->Nat
 |[]=>0
 |x::r=>x+4294967296*Ai r
def Limbs(l:List Nat):Prop:=∀ x∈l,x<4294967296
def AZ(n:Nat):List Nat:=if n=0 then [] else(n % 4294967296)::AZ (n / 4294967296)
termination_by n
decreasing_by omega
theorem EB:AZ 0=[]:=by rw[AZ];rfl
theorem Ho{n:Nat}(h:n≠0):AZ n=(n % 4294967296)::AZ (n / 4294967296):=by rw[AZ,if_neg h]
theorem AL:∀(n:Nat),Limbs (AZ n):=by
 intro n
 induction n using Nat.strongRecOn with
 |ind n ih=>
  by_cases h:n=0
  .subst h;rw[EB];intro x hx;cases hx
  .rw[Ho h]
   intro x hx
   rcases List.mem_cons.1 hx with rfl|hx
   .exact Nat.mod_lt _ (by omega)
   .exact ih (n / 4294967296) (by omega) x hx
theorem AY:∀(n:Nat),Ai (AZ n)=n:=by
 intro n
 induction n using Nat.strongRecOn with
 |ind n ih=>
  by_cases h:n=0
  .subst h;rw[EB];rfl
  .rw[Ho h,Ai,ih (n / 4294967296) (by omega)]
   omega
def C1:List Nat->Nat
 |[]=>0
 |x::r=>if C1 r=0/\x=0 then 0 else C1 r+1
theorem DY:∀ l:List Nat,C1 l<=l.length
 |[]=>Nat.le_refl _
 |x::r=>by
  have:=DY r
  unfold C1
  rw[List.length_cons]
  split<;>omega
theorem Limbs.cons{x:Nat}{r:List Nat}(h:Limbs (x::r)):x<4294967296/\Limbs r:=⟨h x (List.mem_cons_self ..),fun y hy=>h y (List.mem_cons_of_mem _ hy)⟩
theorem Cc:Limbs []:=fun _ h=>by cases h
theorem BK{x:Nat}{r:List Nat}(h:x<4294967296)(h2:Limbs r):Limbs (x::r):=fun y hy=>by
 rcases List.mem_cons.1 hy with rfl|hy
 .exact h
 .exact h2 y hy
theorem OZ{a b:List Nat}(h:Limbs a)(h2:Limbs b):Limbs (a++b):=fun x hx=>by
 rcases List.mem_append.1 hx with hx|hx
 .exact h x hx
 .exact h2 x hx
theorem Limbs.take{l:List Nat}(h:Limbs l)(n:Nat):Limbs (l.take n):=fun x hx=>h x (List.mem_of_mem_take hx)
theorem Limbs.drop{l:List Nat}(h:Limbs l)(n:Nat):Limbs (l.drop n):=fun x hx=>h x (List.mem_of_mem_drop hx)
theorem Limbs.get{l:List Nat}(h:Limbs l){i:Nat}(hi:i<l.length):l[i]<4294967296:=h _ (List.getElem_mem hi)
theorem AaG:∀{l:List Nat},C1 l=0->Ai l=0
 |[],_=>rfl
 |x::r,h=>by
  unfold C1 at h
  split at h
  .rename_i h2
   rw[Ai,AaG h2.1,h2.2]
  .omega
theorem AaJ:∀{l:List Nat},Ai l=0->C1 l=0
 |[],_=>rfl
 |x::r,h=>by
  rw[Ai]at h
  unfold C1
  rw[if_pos ⟨AaJ (by omega),by omega⟩]
theorem J9:∀{l:List Nat},Limbs l->l.take (C1 l)=AZ (Ai l)
 |[],_=>by rw[Ai,EB];rfl
 |x::r,h=>by
  obtain⟨h1,h2⟩:=h.cons
  have ih:=J9 h2
  unfold C1
  split
  .rename_i h3
   rw[List.take_zero,Ai,AaG h3.1,h3.2,EB]
  .rename_i h3
   have h0:Ai (x::r)≠0:=by
    intro h0
    rw[Ai]at h0
    exact h3 ⟨AaJ (by omega),by omega⟩
   rw[List.take_succ_cons,Ho h0,Ai]
   have e1:(x+4294967296*Ai r) % 4294967296=x:=by omega
   have e2:(x+4294967296*Ai r) / 4294967296=Ai r:=by omega
   rw[e1,e2,ih]
theorem Fc:∀(a b:List Nat),Ai (a++b)=Ai a+4294967296 ^ a.length*Ai b
 |[],b=>by simp[Ai]
 |x::r,b=>by
  rw[List.cons_append,Ai,Fc r b,Ai,List.length_cons,Nat.pow_succ,Nat.mul_add,←Nat.mul_assoc,Nat.mul_comm 4294967296 (4294967296 ^ r.length)]
  omega
theorem CQ:∀{l:List Nat},Limbs l->Ai l<4294967296 ^ l.length
 |[],_=>by simp[Ai]
 |x::r,h=>by
  obtain⟨h1,h2⟩:=h.cons
  have:=CQ h2
  rw[Ai,List.length_cons,Nat.pow_succ]
  omega
theorem Hm(l:List Nat)(h:Limbs l):(AZ (Ai l)).length=C1 l:=by
 rw[←J9 h,List.length_take]
 have:=DY l
 omega
theorem BE{n k:Nat}(h:n<4294967296 ^ k):(AZ n).length<=k:=by
 induction k generalizing n with
 |zero=>
  have:n=0:=by simpa using h
  subst this;rw[EB];exact Nat.le_refl _
 |succ k ih=>
  by_cases h0:n=0
  .subst h0;rw[EB];exact Nat.zero_le _
  .rw[Ho h0,List.length_cons]
   have:n / 4294967296<4294967296 ^ k:=by
    rw[Nat.div_lt_iff_lt_mul (by omega)]
    rw[Nat.pow_succ]at h
    exact h
   have:=ih this
   omega
theorem R5{n k:Nat}(h:4294967296 ^ k<=n):k<(AZ n).length:=by
 by_cases h2:k<(AZ n).length
 .exact h2
 .have h3:=CQ (AL n)
  rw[AY]at h3
  have h4:4294967296 ^ (AZ n).length<=4294967296 ^ k:=Nat.pow_le_pow_right (by omega) (by omega)
  omega
theorem PF:∀{l:List Nat},0<C1 l->∃ x,l[C1 l-1]? = some x/\x≠0
 |[],h=>by simp[C1]at h
 |y::r,h=>by
  by_cases h1:C1 r=0
  .have h2:y≠0:=by
    intro h2
    unfold C1 at h
    rw[if_pos ⟨h1,h2⟩]at h
    omega
   refine⟨y,?_,h2⟩
   unfold C1
   rw[if_neg (fun e=>h2 e.2),h1]
   rfl
  .obtain⟨x,h3,h4⟩:=PF (l:=r) (by omega)
   refine⟨x,?_,h4⟩
   unfold C1
   rw[if_neg (fun e=>h1 e.1)]
   have:C1 r+1-1=(C1 r-1)+1:=by omega
   rw[this,List.getElem?_cons_succ,h3]
theorem QU:∀{l:List Nat} {i x:Nat},l[i]? = some x->x≠0->i<C1 l
 |[],i,x,h,_=>by simp at h
 |y::r,0,x,h,h2=>by
  have h:y=x:=by simpa using h
  unfold C1
  rw[if_neg (fun e=>h2 (by rw[←h];exact e.2))]
  omega
 |y::r,i+1,x,h,h2=>by
  rw[List.getElem?_cons_succ]at h
  have:=QU h h2
  unfold C1
  rw[if_neg (fun e=>by omega)]
  omega
theorem PE{l:List Nat}{n:Nat}(h:C1 l<=n+1)(h2:l[n]? = some 0):C1 l<=n:=by
 by_cases h3:C1 l=n+1
 .obtain⟨x,h4,h5⟩:=PF (l:=l) (by omega)
  rw[h3,Nat.add_sub_cancel,h2]at h4
  injection h4 with h4
  exact absurd h4.symm h5
 .omega
def eL(n:Nat):List AV:=[.v (.int .u32 (n:Int))]
def eN(l:List Nat):AV:=.ls (l.map eL)
theorem A3(x:Nat):(eL x).length=1:=rfl
end Go.Proofs.YtlmhajfbpplpoaaGreat
namespace Go.Proofs.YtlmhajfbpplpoaaGreat
open Go.RowKit
def Kp:Nat->List Nat->List Nat->List Nat
 |c,[],_=>[c]
 |c,x::a,b=>((x+b.headD 0+c) % 4294967296)::Kp ((x+b.headD 0+c) / 4294967296) a b.tail
theorem E0{b:List Nat}(h:Limbs b):b.headD 0<4294967296:=by
 cases b with
 |nil=>simp
 |cons y b=>exact h.cons.1
theorem Limbs.tail{b:List Nat}(h:Limbs b):Limbs b.tail:=by
 cases b with
 |nil=>exact h
 |cons y b=>exact h.cons.2
theorem Iw(b:List Nat):Ai b=b.headD 0+4294967296*Ai b.tail:=by
 cases b<;>rfl
theorem Lk:∀(a b:List Nat) (c:Nat),b.length<=a.length->Ai (Kp c a b)=c+Ai a+Ai b
 |[],b,c,h=>by
  obtain rfl:b=[]:=List.length_eq_zero_iff.1 (by simpa using h)
  simp[Kp,Ai]
 |x::a,b,c,h=>by
  have ih:=Lk a b.tail ((x+b.headD 0+c) / 4294967296) (by simp at h ⊢;omega)
  rw[Kp,Ai,ih,Ai,Iw b]
  omega
theorem IR:∀(a b:List Nat) (c:Nat),Limbs a->Limbs b->c<=1->Limbs (Kp c a b)
 |[],b,c,_,_,hc=>BK (by omega) Cc
 |x::a,b,c,ha,hb,hc=>by
  have h1:=E0 hb
  have h2:=ha.cons
  exact BK (Nat.mod_lt _ (by omega)) (IR a b.tail _ h2.2 hb.tail (by omega))
def LX:Nat->Nat->List Nat->List Nat->List Nat
 |0,_,_,_=>[]
 |k+1,c,a,b=>((a.headD 0+b.headD 0+c) % 4294967296)::LX k ((a.headD 0+b.headD 0+c) / 4294967296) a.tail b.tail
theorem PG:∀(k c:Nat) (a b:List Nat),Ai (LX k c a b)=(c+Ai a+Ai b) % 4294967296 ^ k
 |0,c,a,b=>by simp[LX,Ai,Nat.mod_one]
 |k+1,c,a,b=>by
  have ih:=PG k ((a.headD 0+b.headD 0+c) / 4294967296) a.tail b.tail
  rw[LX,Ai,ih,Iw a,Iw b,Nat.pow_succ,Nat.mul_comm (4294967296 ^ k) 4294967296,Nat.mod_mul]
  have e1:(c+(a.headD 0+4294967296*Ai a.tail)+(b.headD 0+4294967296*Ai b.tail)) % 4294967296=(a.headD 0+b.headD 0+c) % 4294967296:=by omega
  have e2:(c+(a.headD 0+4294967296*Ai a.tail)+(b.headD 0+4294967296*Ai b.tail)) / 4294967296=(a.headD 0+b.headD 0+c) / 4294967296+Ai a.tail+Ai b.tail:=by omega
  rw[e1,e2]
theorem Mv:∀(k c:Nat) (a b:List Nat),Limbs (LX k c a b)
 |0,_,_,_=>Cc
 |k+1,c,a,b=>BK (Nat.mod_lt _ (by omega)) (Mv k _ _ _)
def GL:Nat->List Nat->List Nat->List Nat
 |_,[],_=>[]
 |c,x::a,b=>(if x<b.headD 0+c then x+4294967296-(b.headD 0+c) else x-(b.headD 0+c))::GL (if x<b.headD 0+c then 1 else 0) a b.tail
def QS:Nat->List Nat->List Nat->Nat
 |c,[],_=>c
 |c,x::a,b=>QS (if x<b.headD 0+c then 1 else 0) a b.tail
theorem VH:∀(a b:List Nat) (c:Nat),c<=1->QS c a b<=1
 |[],_,_,h=>h
 |x::a,b,c,h=>VH a b.tail _ (by split<;>omega)
theorem PI:∀(a b:List Nat) (c:Nat),Limbs a->Limbs b->c<=1->b.length<=a.length->Ai (GL c a b)+Ai b+c=Ai a+4294967296 ^ a.length*QS c a b
 |[],b,c,_,_,_,h=>by
  obtain rfl:b=[]:=List.length_eq_zero_iff.1 (by simpa using h)
  simp[GL,QS,Ai]
 |x::a,b,c,ha,hb,hc,h=>by
  have h1:=E0 hb
  have h2:=ha.cons
  rw[GL,QS,Ai,Ai,Iw b,List.length_cons,Nat.pow_succ]
  have ih:=PI a b.tail (if x<b.headD 0+c then 1 else 0) h2.2 hb.tail (by split<;>omega) (by simp at h ⊢;omega)
  rw[Nat.mul_comm (4294967296 ^ a.length) 4294967296,Nat.mul_assoc]
  revert ih
  generalize 4294967296 ^ a.length*QS (if x<b.headD 0+c then 1 else 0) a b.tail=z
  generalize Ai (GL (if x<b.headD 0+c then 1 else 0) a b.tail)=s
  intro ih
  split at ih
  .rename_i h3
   rw[if_pos h3]
   omega
  .rename_i h3
   rw[if_neg h3]
   omega
theorem GM:∀(a b:List Nat) (c:Nat),Limbs a->Limbs b->c<=1->Limbs (GL c a b)
 |[],_,_,_,_,_=>Cc
 |x::a,b,c,ha,hb,hc=>by
  have h1:=E0 hb
  have h2:=ha.cons
  refine BK ?_ (GM a b.tail _ h2.2 hb.tail (by split<;>omega))
  split<;>omega
theorem J5:∀(a b:List Nat) (c:Nat),(GL c a b).length=a.length
 |[],_,_=>rfl
 |x::a,b,c=>by rw[GL,List.length_cons,J5 a,List.length_cons]
theorem SW{a b:List Nat}(ha:Limbs a)(hb:Limbs b)(h:b.length<=a.length)(hv:Ai b<=Ai a):Ai (GL 0 a b)=Ai a-Ai b:=by
 have h1:=PI a b 0 ha hb (by omega) h
 have h2:=CQ (GM a b 0 ha hb (by omega))
 rw[J5]at h2
 have h3:=VH a b 0 (by omega)
 have h4:=CQ ha
 rcases Nat.lt_or_ge (QS 0 a b) 1 with h5|h5
 .rw[show QS 0 a b=0 by omega]at h1
  omega
 .rw[show QS 0 a b=1 by omega]at h1
  omega
def Ns:Nat->Nat->List Nat->List Nat->List Nat
 |_,c,[],o=>c::o.tail
 |x,c,y::b,o=>((x*y+o.headD 0+c) % 4294967296)::Ns x ((x*y+o.headD 0+c) / 4294967296) b o.tail
theorem PH:∀(x:Nat) (b o:List Nat) (c:Nat),(o.drop b.length).headD 0=0->Ai (Ns x c b o)=x*Ai b+Ai o+c
 |x,[],o,c,h=>by
  have h:o.headD 0=0:=h
  rw[Ns,Ai,Ai,Iw o,h]
  omega
 |x,y::b,o,c,h=>by
  have h2:(o.tail.drop b.length).headD 0=0:=by
   rw[List.length_cons]at h
   cases o with
   |nil=>simp
   |cons z o=>exact h
  have ih:=PH x b o.tail ((x*y+o.headD 0+c) / 4294967296) h2
  have e:x*(y+4294967296*Ai b)=x*y+4294967296*(x*Ai b):=by
   rw[Nat.mul_add,←Nat.mul_assoc,Nat.mul_comm x 4294967296,Nat.mul_assoc]
  rw[Ns,Ai,ih,Ai,Iw o,e]
  omega
theorem Nu{x y:Nat}(hx:x<4294967296)(hy:y<4294967296):x*y<=18446744065119617025:=by
 have:=Nat.mul_le_mul (show x<=4294967295 by omega) (show y<=4294967295 by omega)
 omega
theorem Nt:∀(x:Nat) (b o:List Nat) (c:Nat),x<4294967296->Limbs b->Limbs o->c<4294967296->Limbs (Ns x c b o)
 |x,[],o,c,_,_,ho,hc=>BK hc ho.tail
 |x,y::b,o,c,hx,hb,ho,hc=>by
  have h1:=E0 ho
  have h2:=hb.cons
  have h3:=Nu hx h2.1
  exact BK (Nat.mod_lt _ (by omega)) (Nt x b o.tail _ hx h2.2 ho.tail (by omega))
def DS:Nat->Nat->List Nat->List Nat
 |_,c,[]=>[c]
 |m,c,x::a=>((x*m+c) % 4294967296)::DS m ((x*m+c) / 4294967296) a
theorem HY:∀(m:Nat) (a:List Nat) (c:Nat),Ai (DS m c a)=Ai a*m+c
 |m,[],c=>by simp[DS,Ai]
 |m,x::a,c=>by
  rw[DS,Ai,HY m a,Ai,Nat.add_mul,Nat.mul_assoc]
  omega
theorem GK:∀(m:Nat) (a:List Nat) (c:Nat),m<4294967296->Limbs a->c<4294967296->Limbs (DS m c a)
 |m,[],c,_,_,hc=>BK hc Cc
 |m,x::a,c,hm,ha,hc=>by
  have h2:=ha.cons
  have h3:=Nu h2.1 hm
  exact BK (Nat.mod_lt _ (by omega)) (GK m a _ hm h2.2 (by omega))
def Dv(a b:Nat):Int:=if a<b then -1 else if b<a then 1 else 0
theorem Rh{a b:List Nat}(ha:Limbs a)(hb:Limbs b)(h:a.length=b.length)(x y:Nat):Dv (Ai (a++[x])) (Ai (b++[y]))=if x<y then -1 else if y<x then 1 else Dv (Ai a) (Ai b):=by
 rw[Fc,Fc,←h]
 have h1:=CQ ha
 have h2:=CQ hb
 rw[←h]at h2
 simp only[Ai,Nat.mul_zero,Nat.add_zero]
 revert h1 h2
 generalize 4294967296 ^ a.length=k
 generalize Ai a=p
 generalize Ai b=q
 intro h1 h2
 by_cases h3:x<y
 .rw[if_pos h3]
  have:k*(x+1)<=k*y:=Nat.mul_le_mul_left _ h3
  rw[Nat.mul_add]at this
  unfold Dv
  rw[if_pos (by omega)]
 .rw[if_neg h3]
  by_cases h4:y<x
  .rw[if_pos h4]
   have:k*(y+1)<=k*x:=Nat.mul_le_mul_left _ h4
   rw[Nat.mul_add]at this
   unfold Dv
   rw[if_neg (by omega),if_pos (by omega)]
  .rw[if_neg h4]
   obtain rfl:x=y:=by omega
   unfold Dv
   by_cases h5:p<q
   .rw[if_pos (by omega),if_pos h5]
   .rw[if_neg (by omega),if_neg h5]
    by_cases h6:q<p
    .rw[if_pos (by omega),if_pos h6]
    .rw[if_neg (by omega),if_neg h6]
end Go.Proofs.YtlmhajfbpplpoaaGreat
namespace Go.Proofs.YtlmhajfbpplpoaaGreat
open Go.RowKit
structure Zi where
 neg:Bool
 abs:List Nat
def D3(neg:Bool)(n:Nat):Int:=if neg then -(n:Int) else n
def zv(z:Zi):Int:=D3 z.neg (Ai z.abs)
def AS(n:Int):Zi:=⟨decide (n<0),AZ n.natAbs⟩
def eZ(z:Zi):List AV:=[bv z.neg,eN z.abs]
theorem AcU(n:Int):D3 (decide (n<0)) n.natAbs=n:=by
 unfold D3
 by_cases h:n<0
 .rw[decide_eq_true h,if_pos rfl];omega
 .rw[decide_eq_false h,if_neg (by simp)];omega
theorem AJ(n:Int):zv (AS n)=n:=by
 unfold zv AS
 rw[AY]
 exact AcU n
theorem VP(neg:Bool)(v:Nat):AS (D3 neg v)=⟨neg&&decide (0<v),AZ v⟩:=by
 unfold AS D3
 cases neg with
 |false=>
  rw[if_neg (by simp),Bool.false_and,decide_eq_false (by omega)]
  rfl
 |true=>
  rw[if_pos rfl,Bool.true_and,Int.natAbs_neg,Int.natAbs_natCast]
  congr 1
  by_cases h:0<v
  .rw[decide_eq_true h,decide_eq_true (by omega)]
  .rw[decide_eq_false h,decide_eq_false (by omega)]
theorem Ll:AS 0=⟨false,[]⟩:=by
 unfold AS
 rw[show (0:Int).natAbs=0 from rfl,EB]
 rfl
structure Lz (k:Nat) (z:Zi):Prop where
 lim:Limbs z.abs
 len:z.abs.length<=k
theorem Lz.mono{k m:Nat}{z:Zi}(h:Lz k z)(hm:k<=m):Lz m z:=⟨h.lim,by have:=h.len;omega⟩
def InB(k:Nat)(n:Int):Prop:=n.natAbs<4294967296 ^ k
theorem InB.lz{k:Nat}{n:Int}(h:InB k n):Lz k (AS n):=⟨AL _,BE h⟩
theorem Lz.inb{k:Nat}{z:Zi}(h:Lz k z):InB k (zv z):=by
 unfold InB zv
 have h1:=CQ h.lim
 have h2:4294967296 ^ z.abs.length<=4294967296 ^ k:=Nat.pow_le_pow_right (by omega) h.len
 have h3:(D3 z.neg (Ai z.abs)).natAbs=Ai z.abs:=by
  unfold D3
  split
  .rw[Int.natAbs_neg];rfl
  .rfl
 omega
theorem InB.mono{k m:Nat}{n:Int}(h:InB k n)(hm:k<=m):InB m n:=by
 unfold InB at *
 have h2:4294967296 ^ k<=4294967296 ^ m:=Nat.pow_le_pow_right (by omega) hm
 omega
theorem InB.add{k:Nat}{a b:Int}(ha:InB k a)(hb:InB k b):InB (k+1) (a+b):=by
 unfold InB at *
 have:=Int.natAbs_add_le a b
 rw[Nat.pow_succ]
 omega
theorem InB.neg{k:Nat}{a:Int}(ha:InB k a):InB k (-a):=by
 unfold InB at *
 rw[Int.natAbs_neg]
 exact ha
theorem InB.mul{k m:Nat}{a b:Int}(ha:InB k a)(hb:InB m b):InB (k+m) (a*b):=by
 unfold InB at *
 rw[Int.natAbs_mul,Nat.pow_add]
 have h1:a.natAbs*b.natAbs<=a.natAbs*4294967296 ^ m:=Nat.mul_le_mul_left _ (Nat.le_of_lt hb)
 have h2:a.natAbs*4294967296 ^ m<4294967296 ^ k*4294967296 ^ m:=Nat.mul_lt_mul_of_pos_right ha (Nat.pow_pos (by omega))
 omega
theorem InB.zero(k:Nat):InB k 0:=by
 unfold InB
 exact Nat.pow_pos (by omega)
theorem InB.one{k:Nat}(h:1<=k):InB k 1:=by
 have:InB 1 1:=by unfold InB;decide
 exact this.mono h
def IZ(a b:Int):Int:=if a<b then -1 else if b<a then 1 else 0
def CD(n:Int):Int:=if n<0 then -1 else if 0<n then 1 else 0
theorem AaR(z:Zi):zv z<0 ↔ z.neg=true/\0<Ai z.abs:=by
 obtain⟨n,l⟩:=z
 cases n with
 |true=>
  show (-(Ai l:Int)<0) ↔ (true=true/\0<Ai l)
  exact⟨fun h=>⟨rfl,by omega⟩,fun h=>by have:=h.2;omega⟩
 |false=>
  show ((Ai l:Int)<0) ↔ (false=true/\0<Ai l)
  exact⟨fun h=>by omega,fun h=>by cases h.1⟩
theorem VQ(z:Zi):zv z=0 ↔ Ai z.abs=0:=by
 unfold zv D3
 split<;>omega
theorem EG{n:Nat}:0<(AZ n).length ↔ 0<n:=by
 constructor
 .intro h
  by_cases h0:n=0
  .subst h0;rw[EB]at h;simp at h
  .omega
 .intro h
  rw[Ho (by omega)]
  simp
end Go.Proofs.YtlmhajfbpplpoaaGreat
namespace Go.Proofs.YtlmhajfbpplpoaaGreat
open Go.RowKit
def A6(v:Int):List (Int × Int)->Int
 |[]=>0
 |p::r=>(if p.1=v then p.2 else 0)+A6 v r
theorem Gq{v:Int}:∀{l:List (Int × Int)},(∀ p∈l,p.1≠v)->A6 v l=0
 |[],_=>rfl
 |p::r,h=>by
  rw[A6,if_neg (h p (List.mem_cons_self ..)),Gq fun q hq=>h q (List.mem_cons_of_mem _ hq)]
  rfl
theorem MN{v:Int}{a b:List (Int × Int)}(h:a.Perm b):A6 v a=A6 v b:=by
 induction h with
 |nil=>rfl
 |cons x _ ih=>rw[A6,A6,ih]
 |swap x y l=>rw[A6,A6,A6,A6];omega
 |trans _ _ ih1 ih2=>rw[ih1,ih2]
theorem KD{v:Int}(hv:0<=v):∀ l:List (Int × Int),A6 v (l.filter fun p=>decide (0<=p.1))=A6 v l
 |[]=>rfl
 |p::r=>by
  have ih:=KD hv r
  by_cases h:0<=p.1
  .rw[List.filter_cons_of_pos (by simpa using h),A6,A6,ih]
  .rw[List.filter_cons_of_neg (by simpa using h),A6,ih,if_neg (by omega)]
   omega
structure Pln (l:List (Int × Int)):Prop where
 asc:l.Pairwise fun a b=>a.1<b.1
 pos:∀ p∈l,0<=p.1
 nz:∀ p∈l,p.2≠0
theorem Vu:Pln []:=⟨.nil,by simp,by simp⟩
theorem Pln.tail{p:Int × Int}{r:List (Int × Int)}(h:Pln (p::r)):Pln r:=⟨(List.pairwise_cons.1 h.asc).2,fun q hq=>h.pos q (List.mem_cons_of_mem _ hq),fun q hq=>h.nz q (List.mem_cons_of_mem _ hq)⟩
theorem Pln.head{p:Int × Int}{r:List (Int × Int)}(h:Pln (p::r)):A6 p.1 (p::r)=p.2:=by
 rw[A6,if_pos rfl,Gq fun q hq=>by have:=(List.pairwise_cons.1 h.asc).1 q hq;omega]
 omega
theorem Pln.below{p:Int × Int}{r:List (Int × Int)}(h:Pln (p::r)){v:Int}(hv:v<p.1):A6 v (p::r)=0:=by
 refine Gq fun q hq=>?_
 rcases List.mem_cons.1 hq with rfl|hq
 .omega
 .have:=(List.pairwise_cons.1 h.asc).1 q hq
  omega
theorem Pln.ext:∀{a b:List (Int × Int)},Pln a->Pln b->(∀ v,A6 v a=A6 v b)->a=b
 |[],[],_,_,_=>rfl
 |[],q::s,_,hb,h=>by
  have h1:=hb.head
  rw[←h q.1]at h1
  exact absurd h1.symm (hb.nz q (List.mem_cons_self ..))
 |p::r,[],ha,_,h=>by
  have h1:=ha.head
  rw[h p.1]at h1
  exact absurd h1.symm (ha.nz p (List.mem_cons_self ..))
 |p::r,q::s,ha,hb,h=>by
  have h1:=ha.head
  have h2:=hb.head
  have n1:=ha.nz p (List.mem_cons_self ..)
  have n2:=hb.nz q (List.mem_cons_self ..)
  have e:p.1=q.1:=by
   rcases Int.lt_trichotomy p.1 q.1 with h3|h3|h3
   .rw[h p.1,hb.below h3]at h1
    exact absurd h1.symm n1
   .exact h3
   .rw[←h q.1,ha.below h3]at h2
    exact absurd h2.symm n2
  have e2:p.2=q.2:=by rw[←h1,←h2,h p.1,e]
  have ep:p=q:=Prod.ext e e2
  rw[ep,Pln.ext ha.tail hb.tail fun v=>by
   have:=h v
   rw[A6,A6,ep]at this
   omega]
def G0(v c:Int):List (Int × Int)->List (Int × Int)
 |[]=>if c=0 then [] else [(v,c)]
 |p::r=>if v<p.1 then(if c=0 then p::r else(v,c)::p::r) else if p.1<v then p::G0 v c r else if p.2+c=0 then r else(v,p.2+c)::r
theorem KU(v c u:Int):∀ l:List (Int × Int),A6 u (G0 v c l)=(if v=u then c else 0)+A6 u l
 |[]=>by
  unfold G0
  split
  .rename_i h;simp[A6,h]
  .simp[A6]
 |p::r=>by
  have ih:=KU v c u r
  unfold G0
  split
  .split
   .rename_i h;rw[h];simp
   .rfl
  .split
   .rw[A6,ih,A6];omega
   .have e:p.1=v:=by omega
    split
    .rename_i h
     rw[A6,e]
     split<;>omega
    .rw[A6,A6,e]
     split<;>omega
theorem RX{v c:Int}:∀{l:List (Int × Int)} {q:Int × Int},q∈G0 v c l->q.1=v\/q∈l
 |[],q,h=>by
  unfold G0 at h
  split at h
  .exact .inr h
  .rw[List.mem_singleton.1 h];exact .inl rfl
 |p::r,q,h=>by
  unfold G0 at h
  split at h
  .split at h
   .exact .inr h
   .rcases List.mem_cons.1 h with h|h
    .rw[h];exact .inl rfl
    .exact .inr h
  .split at h
   .rcases List.mem_cons.1 h with h|h
    .rw[h];exact .inr (List.mem_cons_self ..)
    .rcases RX h with h|h
     .exact .inl h
     .exact .inr (List.mem_cons_of_mem _ h)
   .split at h
    .exact .inr (List.mem_cons_of_mem _ h)
    .rcases List.mem_cons.1 h with h|h
     .rw[h];exact .inl rfl
     .exact .inr (List.mem_cons_of_mem _ h)
theorem RY{v c:Int}(hv:0<=v):∀{l:List (Int × Int)},Pln l->Pln (G0 v c l)
 |[],_=>by
  unfold G0
  split
  .exact Vu
  .rename_i h
   exact⟨List.pairwise_singleton _ _,by simpa using hv,by simpa using h⟩
 |p::r,h=>by
  have ih:=RY (c:=c) hv h.tail
  have hp:=List.pairwise_cons.1 h.asc
  unfold G0
  split
  .rename_i h1
   split
   .exact h
   .rename_i h2
    refine⟨List.pairwise_cons.2 ⟨fun q hq=>?_,h.asc⟩,fun q hq=>?_,fun q hq=>?_⟩
    .rcases List.mem_cons.1 hq with rfl|hq
     .exact h1
     .have:=hp.1 q hq;simp only;omega
    .rcases List.mem_cons.1 hq with rfl|hq
     .exact hv
     .exact h.pos q hq
    .rcases List.mem_cons.1 hq with rfl|hq
     .exact h2
     .exact h.nz q hq
  .split
   .rename_i h1 h2
    refine⟨List.pairwise_cons.2 ⟨fun q hq=>?_,ih.asc⟩,fun q hq=>?_,fun q hq=>?_⟩
    .rcases RX hq with e|hq
     .rw[e];exact h2
     .exact hp.1 q hq
    .rcases List.mem_cons.1 hq with rfl|hq
     .exact h.pos _ (List.mem_cons_self ..)
     .exact ih.pos q hq
    .rcases List.mem_cons.1 hq with rfl|hq
     .exact h.nz _ (List.mem_cons_self ..)
     .exact ih.nz q hq
   .rename_i h1 h2
    split
    .exact h.tail
    .rename_i h3
     refine⟨List.pairwise_cons.2 ⟨fun q hq=>?_,hp.2⟩,fun q hq=>?_,fun q hq=>?_⟩
     .have:=hp.1 q hq;simp only;omega
     .rcases List.mem_cons.1 hq with rfl|hq
      .exact hv
      .exact h.tail.pos q hq
     .rcases List.mem_cons.1 hq with rfl|hq
      .exact h3
      .exact h.tail.nz q hq
def DA:List (Int × Int)->List (Int × Int)
 |[]=>[]
 |p::r=>if 0<=p.1 then G0 p.1 p.2 (DA r) else DA r
theorem EQ:∀ l:List (Int × Int),Pln (DA l)
 |[]=>Vu
 |p::r=>by
  unfold DA
  split
  .rename_i h;exact RY h (EQ r)
  .exact EQ r
theorem Jc(v:Int):∀ l:List (Int × Int),A6 v (DA l)=if 0<=v then A6 v l else 0
 |[]=>by simp[DA,A6]
 |p::r=>by
  have ih:=Jc v r
  unfold DA
  by_cases h:0<=p.1
  .by_cases hv:0<=v
   .rw[if_pos h,KU,ih,A6,if_pos hv,if_pos hv]
   .rw[if_pos h,KU,ih,if_neg hv,if_neg hv,if_neg (by omega)]
    rfl
  .by_cases hv:0<=v
   .rw[if_neg h,ih,A6,if_pos hv,if_pos hv,if_neg (show ¬ p.1=v by omega)]
    omega
   .rw[if_neg h,ih,if_neg hv,if_neg hv]
theorem Ss{l r:List (Int × Int)}(h:Pln r)(hc:∀ v,0<=v->A6 v r=A6 v l):r=DA l:=by
 refine Pln.ext h (EQ l) fun v=>?_
 rw[Jc]
 by_cases hv:0<=v
 .rw[if_pos hv,hc v hv]
 .rw[if_neg hv]
  refine Gq fun p hp e=>?_
  have:=h.pos p hp
  omega
theorem Ug{l:List (Int × Int)}(h:Pln l):DA l=l:=(Ss h fun _ _=>rfl).symm
theorem Pj:∀ l:List (Int × Int),(DA l).length<=l.length
 |[]=>Nat.le_refl _
 |p::r=>by
  have ih:=Pj r
  have ins:∀ l:List (Int × Int),(G0 p.1 p.2 l).length<=l.length+1:=fun l=>by
   induction l with
   |nil=>unfold G0;split<;>simp
   |cons q s ih=>
    unfold G0
    split
    .split<;>simp
    .split
     .simpa using ih
     .split
      .simp;omega
      .simp
  unfold DA
  split
  .have:=ins (DA r)
   rw[List.length_cons]
   omega
  .rw[List.length_cons]
   omega
end Go.Proofs.YtlmhajfbpplpoaaGreat
namespace Go.Proofs.YtlmhajfbpplpoaaGreat
open Go.RowKit
section
variable {α:Type} (key:α->Int)
def kf(l:List α)(p:Nat):Int:=match l[p]? with
 |some x=>key x
 |none=>0
theorem FK{l:List α}{p:Nat}(h:p<l.length):kf key l p=key l[p]:=by
 unfold kf
 rw[List.getElem?_eq_getElem h]
def Da(l:List α)(i j:Nat):List α:=match l[i]?,l[j]? with
 |some x,some y=>(l.set i y).set j x
 |_,_=>l
theorem DV{l:List α}{i j:Nat}(hi:i<l.length)(hj:j<l.length):Da l i j=(l.set i l[j]).set j l[i]:=by
 unfold Da
 rw[List.getElem?_eq_getElem hi,List.getElem?_eq_getElem hj]
theorem Iu(l:List α)(i j:Nat):(Da l i j).length=l.length:=by
 unfold Da
 split<;>simp
theorem UV{l:List α}{i j:Nat}(hi:i<l.length)(hj:j<l.length)(p:Nat):kf key (Da l i j) p=if p=j then kf key l i else if p=i then kf key l j else kf key l p:=by
 rw[DV hi hj]
 unfold kf
 by_cases h1:p=j
 .subst h1
  rw[if_pos rfl,List.getElem?_set_self (by simpa using hj),List.getElem?_eq_getElem hi]
 .rw[if_neg h1,List.getElem?_set_ne (fun e=>h1 e.symm)]
  by_cases h2:p=i
  .subst h2
   rw[if_pos rfl,List.getElem?_set_self hi,List.getElem?_eq_getElem hj]
  .rw[if_neg h2,List.getElem?_set_ne (fun e=>h2 e.symm)]
theorem GN(l:List α)(i j:Nat):(Da l i j).Perm l:=by
 by_cases hi:i<l.length
 .by_cases hj:j<l.length
  .rw[DV hi hj]
   have:=Array.swap_perm (xs:=l.toArray) (i:=i) (j:=j) (by simpa using hi) (by simpa using hj)
   have h2:=this.toList
   simpa[Array.swap]using h2
  .unfold Da
   rw[List.getElem?_eq_none (show l.length<=j by omega)]
   split
   .rename_i h;cases h
   .exact List.Perm.refl _
 .unfold Da
  rw[List.getElem?_eq_none (show l.length<=i by omega)]
theorem Xj{l:List α}{i j p:Nat}(h1:p≠i)(h2:p≠j):(Da l i j)[p]? = l[p]?:=by
 unfold Da
 split
 .rw[List.getElem?_set_ne (fun e=>h2 e.symm),List.getElem?_set_ne (fun e=>h1 e.symm)]
 .rfl
def Srt(l:List α)(a b:Nat):Prop:=∀ p q,a<=p->p<q->q<b->kf key l p<=kf key l q
def VS(l:List α)(a i j:Nat):Prop:=∀ p q,a<=p->p<q->q<=i->q≠j->kf key l p<=kf key l q
def Same0(l r:List α)(a b:Nat):Prop:=∀ p,(p<a\/b<=p)->r[p]? = l[p]?
theorem C7(l:List α)(a b:Nat):Same0 l l a b:=fun _ _=>rfl
theorem Same0.trans{l r s:List α}{a b:Nat}(h1:Same0 l r a b)(h2:Same0 r s a b):Same0 l s a b:=fun p hp=>(h2 p hp).trans (h1 p hp)
theorem Same0.wide{l r:List α}{a b c d:Nat}(h1:Same0 l r a b)(hc:c<=a)(hd:b<=d):Same0 l r c d:=fun p hp=>h1 p (by omega)
theorem Same0.kf{l r:List α}{a b p:Nat}(h:Same0 l r a b)(hp:p<a\/b<=p):kf key r p=kf key l p:=by
 unfold Go.Proofs.YtlmhajfbpplpoaaGreat.kf
 rw[h p hp]
theorem Xk{l:List α}{i j a b:Nat}(h1:a<=i)(h2:i<b)(h3:a<=j)(h4:j<b):Same0 l (Da l i j) a b:=fun p hp=>Xj (by omega) (by omega)
theorem Xg{l:List α}{a i j:Nat}(hi:i<l.length)(ha:a<j)(hj:j<=i)(h:VS key l a i j)(hlt:kf key l j<kf key l (j-1)):VS key (Da l j (j-1)) a i (j-1):=by
 intro p q h1 h2 h3 h4
 rw[UV key (by omega) (by omega),UV key (by omega) (by omega)]
 by_cases q1:q=j
 .subst q1
  rw[if_neg (show ¬ q=q-1 by omega),if_pos rfl]
  by_cases p1:p=q-1
  .rw[if_pos p1];omega
  .rw[if_neg p1,if_neg (by omega)]
   exact h p (q-1) h1 (by omega) (by omega) (by omega)
 .rw[if_neg h4,if_neg q1]
  by_cases p1:p=j-1
  .rw[if_pos p1]
   exact h j q (by omega) (by omega) h3 q1
  .rw[if_neg p1]
   by_cases p2:p=j
   .rw[if_pos p2]
    exact h (j-1) q (by omega) (by omega) h3 q1
   .rw[if_neg p2]
    exact h p q h1 h2 h3 q1
theorem SF{l:List α}{a i j:Nat}(hj:j<=i)(h:VS key l a i j)(he:j=a\/kf key l (j-1)<=kf key l j):Srt key l a (i+1):=by
 intro p q h1 h2 h3
 by_cases hq:q=j
 .subst hq
  rcases he with he|he
  .omega
  .by_cases hp:p=q-1
   .rw[hp];exact he
   .have:=h p (q-1) h1 (by omega) (by omega) (by omega)
    omega
 .exact h p q h1 h2 (by omega) hq
theorem Us{l:List α}{a i:Nat}(h:Srt key l a i):VS key l a i i:=fun p q h1 h2 h3 h4=>h p q h1 h2 (by omega)
theorem QN{l:List α}(h:Srt key l 0 l.length):l.Pairwise fun x y=>key x<=key y:=by
 rw[List.pairwise_iff_getElem]
 intro i j hi hj hij
 have:=h i j (by omega) hij hj
 rwa [FK key hi,FK key hj]at this
theorem Ac1(l:List α)(a:Nat):Srt key l a (a+1):=fun p q h1 h2 h3=>by omega
theorem Ac0(l:List α)(a:Nat):Srt key l a a:=fun p q h1 h2 h3=>by omega
end
end Go.Proofs.YtlmhajfbpplpoaaGreat
namespace Go.Proofs.YtlmhajfbpplpoaaGreat
open Go.RowKit
structure Pt where
 v:Int
 z:Zi
def eP(p:Pt):List AV:=[iv p.v,bv p.z.neg,eN p.z.abs]
theorem AK(p:Pt):(eP p).length=3:=rfl
section
variable {α:Type} {e:α->List AV} {w:Nat} (he:∀ x,(e x).length=w)
include he
theorem VD(l:List α):∀(i:Nat) (h:i<l.length),(Av e l).drop (i*w)=e l[i]++(Av e l).drop (i*w+w):=by
 induction l with
 |nil=>intro i h;cases h
 |cons x r ih=>
  intro i h
  have hx:=he x
  cases i with
  |zero=>
   rw[Nat.zero_mul,List.drop_zero,Nat.zero_add]
   show e x++Av e r=e x++(e x++Av e r).drop w
   rw[←hx,List.drop_left]
  |succ i=>
   have:=ih i (by simpa using h)
   have e1:∀ n,(Av e (x::r)).drop (w+n)=(Av e r).drop n:=fun n=>by
    show (e x++Av e r).drop (w+n)=_
    rw[←hx,List.drop_append]
    simp
   rw[show (i+1)*w=w+i*w by rw[Nat.add_mul];omega,e1,this,show w+i*w+w=w+(i*w+w) by omega,e1]
   rfl
theorem Bx(l:List α)(i:Nat)(h:i<l.length)(k:List AV->KR):IA (Av e l) (0+i*w) w k=k (e l[i]):=by
 have hw:i*w+w<=l.length*w:=by
  rw[←Nat.succ_mul]
  exact Nat.mul_le_mul_right w h
 unfold IA
 have:Nat.ble (0+i*w+w) (Av e l).length=true:=by rw[By he];simp;omega
 rw[this]
 show k (((Av e l).drop (0+i*w)).take w)=_
 rw[Nat.zero_add,VD he l i h,List.take_left' (he _)]
theorem CP(l:List α)(i:Nat)(h:i<l.length)(x:α):Ba (Av e l) (0+i*w) (e x)=Av e (l.set i x):=by
 unfold Ba
 rw[he x,Nat.zero_add]
 have e1:=VD he l i h
 have e2:∀(l:List α) (i:Nat),i<=l.length->(Av e l).take (i*w)=Av e (l.take i):=fun l=>by
  induction l with
  |nil=>intro i _;simp[Av]
  |cons y r ih=>
   intro i hi
   cases i with
   |zero=>simp[Av]
   |succ i=>
    rw[show (i+1)*w=w+i*w by rw[Nat.add_mul];omega]
    show (e y++Av e r).take (w+i*w)=e y++Av e (r.take i)
    rw[←he y,List.take_append,List.take_of_length_le (by omega),show (e y).length+i*(e y).length-(e y).length=i*(e y).length by omega,he y,ih i (by simpa using hi)]
 have e3:∀(l:List α) (i:Nat),i<=l.length->(Av e l).drop (i*w)=Av e (l.drop i):=fun l=>by
  induction l with
  |nil=>intro i _;simp[Av]
  |cons y r ih=>
   intro i hi
   cases i with
   |zero=>simp[Av]
   |succ i=>
    rw[show (i+1)*w=w+i*w by rw[Nat.add_mul];omega]
    show (e y++Av e r).drop (w+i*w)=Av e (r.drop i)
    rw[←he y,List.drop_append,List.drop_of_length_le (by omega),show (e y).length+i*(e y).length-(e y).length=i*(e y).length by omega,he y,ih i (by simpa using hi),List.nil_append]
 rw[e2 l i (by omega),show i*w+w=(i+1)*w by rw[Nat.add_mul];omega,e3 l (i+1) (by omega),List.set_eq_take_append_cons_drop,if_pos h]
 simp[Av]
end
theorem Fl{a b:Int}:IZ a b<0 ↔ a<b:=by
 unfold IZ
 split
 .omega
 .split<;>omega
theorem SG{j:Nat}(h:j<4611686018427387904):Ao.sub .i64 ((j+1:Nat):Int) 1=(j:Int):=by
 rw[F6 (by omega) (by omega)]
 omega
theorem Bb{a b:Nat}(h:a<b):Nat.blt a b=true:=by simpa using h
section
variable {D:Orc} (K:Knows As Fz D)
include K
theorem RZ(x:Int):D.ask (.fn 207) [iv x] []=some (bv false,[]):=by
 refine K.fn' Aei _ rfl ((Al8 ..).trans ?_)
 exact(AQ rfl).trans rfl
theorem Abv(x y:Int):D.ask (.fn 154) [iv x,iv y] []=some (iv (IZ x y),[]):=by
 refine K.fn' Ad4 _ rfl ((AlK ..).trans ?_)
 refine(Aa (RZ K x) _).trans ?_
 simp only[ND,Ab]
 refine(Aa (RZ K y) _).trans ?_
 simp only[ND,Ab]
 unfold IZ
 by_cases h:x<y
 .rw[if_pos h]
  exact(Aq h).trans rfl
 .rw[if_neg h]
  refine(Ap h).trans ?_
  by_cases h2:y<x
  .rw[if_pos h2]
   exact(Aq h2).trans rfl
  .rw[if_neg h2]
   exact(Ap h2).trans rfl
theorem Ha(p q:Pt):D.ask (.fn 153) [.agg (eP p),.agg (eP q)] []=some (iv (IZ p.v q.v),[]):=by
 refine K.fn' Ad3 _ rfl ((AlJ ..).trans ?_)
 refine(Aa (Abv K p.v q.v) _).trans ?_
 rfl
def Fq:AV:=.fn (.func 153) [] []
theorem AgD(a i:Nat)(b:Int):∀(m j:Nat) (l:List Pt),j-a=m->a<=j->j<=i->i<l.length->l.length<=1000000000->VS Pt.v l a i j->
  ∃ r:List Pt,D.ask (.lp 242 1) [.sl 0 0 l.length 3,iv (a:Int),iv b,Fq,iv (i:Int),iv (j:Int)] [ABlk.mk (Av eP l) true true]
   = some (.tup [iv 2,.sl 0 0 l.length 3,iv (a:Int),iv b,Fq,iv (i:Int)],[.set (ABlk.mk (Av eP r) true true)])
   ∧ r.length=l.length/\r.Perm l/\Srt Pt.v r a (i+1)/\Same0 l r a (i+1):=by
 intro m
 induction m with
 |zero=>
  intro j l hm ha hj hi hl hs
  obtain rfl:j=a:=by omega
  refine⟨l,?_,rfl,List.Perm.refl _,SF Pt.v hj hs (.inl rfl),C7 _ _ _⟩
  refine K.lp' He _ rfl (by kernel_rfl) ((Ty ..).trans ?_)
  exact(Ap (by omega)).trans rfl
 |succ m ih=>
  intro j l hm ha hj hi hl hs
  obtain⟨k,rfl⟩:∃ k,j=k+1:=⟨j-1,by omega⟩
  have h1:k+1<l.length:=by omega
  have h0:k<l.length:=by omega
  have kf1:kf Pt.v l (k+1)=l[k+1].v:=FK Pt.v h1
  have kf0:kf Pt.v l k=l[k].v:=FK Pt.v h0
  by_cases hlt:l[k+1].v<l[k].v
  .have hs2:VS Pt.v (Da l (k+1) k) a i k:=Xg (j:=k+1) Pt.v hi (by omega) hj hs (by rw[Nat.add_sub_cancel,kf1,kf0];exact hlt)
   have hlen:=Iu l (k+1) k
   obtain⟨r,g,hr,hp,ho,hsm⟩:=ih k (Da l (k+1) k) (by omega) (by omega) (by omega) (by omega) (by omega) hs2
   rw[hlen]at g hr
   refine⟨r,?_,hr,hp.trans (GN _ _ _),ho,(Xk (by omega) (by omega) (by omega) (by omega)).trans hsm⟩
   refine K.lp' He _ rfl (by kernel_rfl) ((Ty ..).trans ?_)
   refine(Aq (by omega)).trans ?_
   rw[SG (by omega),AN,Bb h1]
   refine(Az _ _).trans ?_
   refine(Bx AK l (k+1) h1 _).trans ?_
   simp only[eP,eN,ND,Ab]
   rw[AN,Bb h0]
   refine(Az _ _).trans ?_
   refine(Bx AK l k h0 _).trans ?_
   simp only[eP,eN,ND,Ab]
   refine(Aa (Ha K l[k+1] l[k]) _).trans ?_
   simp only[ND,Ab]
   refine(Aq (Fl.2 hlt)).trans ?_
   rw[AN,Bb h0]
   refine(Az _ _).trans ?_
   refine(Bx AK l k h0 _).trans ?_
   simp only[eP,eN,ND,Ab]
   rw[AN,Bb h1]
   refine(Az _ _).trans ?_
   refine(Bx AK l (k+1) h1 _).trans ?_
   simp only[eP,eN,ND,Ab]
   rw[AN,Bb h1]
   refine(Az _ _).trans ?_
   have s1:=CP AK l (k+1) h1 l[k]
   have s2:=CP AK (l.set (k+1) l[k]) k (by rw[List.length_set];exact h0) l[k+1]
   rw[←DV h1 h0]at s2
   simp only[eP,eN]at s1 s2
   rw[show Nat.ble (0+(k+1)*3+3) (Av eP l).length=true by rw[By AK];simp;omega]
   refine(Az _ _).trans ?_
   rw[AN,Bb h0]
   refine(Az _ _).trans ?_
   rw[s1,s2]
   rw[show Nat.ble (0+k*3+3) (Av eP (l.set (k+1) l[k])).length=true by rw[By AK,List.length_set];simp;omega]
   refine(Az _ _).trans ?_
   refine(Aa g _).trans ?_
   rfl
  .refine⟨l,?_,rfl,List.Perm.refl _,SF Pt.v hj hs (.inr ?_),C7 _ _ _⟩
   .skip
    refine K.lp' He _ rfl (by kernel_rfl) ((Ty ..).trans ?_)
    refine(Aq (by omega)).trans ?_
    rw[SG (by omega),AN,Bb h1]
    refine(Az _ _).trans ?_
    refine(Bx AK l (k+1) h1 _).trans ?_
    simp only[eP,eN,ND,Ab]
    rw[AN,Bb h0]
    refine(Az _ _).trans ?_
    refine(Bx AK l k h0 _).trans ?_
    simp only[eP,eN,ND,Ab]
    refine(Aa (Ha K l[k+1] l[k]) _).trans ?_
    simp only[ND,Ab]
    exact(Ap (fun h=>hlt (Fl.1 h))).trans rfl
   .rw[Nat.add_sub_cancel,kf1,kf0]
    omega
theorem Ab6(a b:Nat):∀(m i:Nat) (l:List Pt),b-i=m->a<i->i<=b->b<=l.length->l.length<=1000000000->Srt Pt.v l a i->
  ∃ r:List Pt,D.ask (.lp 242 0) [.sl 0 0 l.length 3,iv (a:Int),iv (b:Int),Fq,iv (i:Int)] [ABlk.mk (Av eP l) true true]
   = some (.tup [iv 0,.sl 0 0 l.length 3],[.set (ABlk.mk (Av eP r) true true)])
   ∧ r.length=l.length/\r.Perm l/\Srt Pt.v r a b/\Same0 l r a b:=by
 intro m
 induction m with
 |zero=>
  intro i l hm ha hi hb hl hs
  obtain rfl:i=b:=by omega
  refine⟨l,?_,rfl,List.Perm.refl _,hs,C7 _ _ _⟩
  refine K.lp' He _ rfl (by kernel_rfl) ((Tx ..).trans ?_)
  exact(Ap (by omega)).trans rfl
 |succ m ih=>
  intro i l hm ha hi hb hl hs
  obtain⟨r,g,hr,hp,ho,hsm⟩:=AgD K a i (b:Int) _ i l rfl (by omega) (Nat.le_refl _) (by omega) hl (Us Pt.v hs)
  obtain⟨r2,g2,hr2,hp2,ho2,hsm2⟩:=ih (i+1) r (by omega) (by omega) (by omega) (by omega) (by omega) ho
  rw[hr]at g2
  refine⟨r2,?_,by omega,hp2.trans hp,ho2,(hsm.wide (Nat.le_refl _) (by omega)).trans hsm2⟩
  refine K.lp' He _ rfl (by kernel_rfl) ((Tx ..).trans ?_)
  refine(Aq (by omega)).trans ?_
  refine(Aa g _).trans ?_
  simp only[Fq,ND,Ab]
  refine(Az _ _).trans ?_
  rw[Bn (by omega)]
  refine(Aa g2 _).trans ?_
  rfl
theorem Za{a b:Nat}{l:List Pt}(hab:a<=b)(hb:b<=l.length)(hl:l.length<=1000000000) :
  ∃ r:List Pt,D.ask (.fn 242) [.sl 0 0 l.length 3,iv (a:Int),iv (b:Int),Fq] [ABlk.mk (Av eP l) true true]=some (.tup [],[.set (ABlk.mk (Av eP r) true true)])
   ∧ r.length=l.length/\r.Perm l/\Srt Pt.v r a b/\Same0 l r a b:=by
 by_cases h:a<b
 .obtain⟨r,g,hr⟩:=Ab6 K a b _ (a+1) l rfl (by omega) (by omega) hb hl (Ac1 Pt.v l a)
  refine⟨r,?_,hr⟩
  refine K.fn' He _ rfl ((Ah1 ..).trans ?_)
  rw[Bn (by omega)]
  refine(Aa g _).trans ?_
  rfl
 .obtain rfl:a=b:=by omega
  have g:D.ask (.lp 242 0) [.sl 0 0 l.length 3,iv (a:Int),iv (a:Int),Fq,iv ((a+1:Nat):Int)] [ABlk.mk (Av eP l) true true]=some (.tup [iv 0,.sl 0 0 l.length 3],[.set (ABlk.mk (Av eP l) true true)]):=by
   refine K.lp' He _ rfl (by kernel_rfl) ((Tx ..).trans ?_)
   exact(Ap (by omega)).trans rfl
  refine⟨l,?_,rfl,List.Perm.refl _,Ac0 Pt.v l a,C7 _ _ _⟩
  refine K.fn' He _ rfl ((Ah1 ..).trans ?_)
  rw[Bn (by omega)]
  refine(Aa g _).trans ?_
  rfl
end
end Go.Proofs.YtlmhajfbpplpoaaGreat
namespace Go.Proofs.YtlmhajfbpplpoaaGreat
open Go.RowKit
structure Tm where
 ps:List Pt
 k:Zi
def eT(t:Tm):List AV:=[.ls (t.ps.map eP),bv t.k.neg,eN t.k.abs]
structure Lf where
 ps:List (Int × Int)
 k:Int
def pv(p:Pt):Int × Int:=(p.v,zv p.z)
def Bk(p:Int × Int):Pt:=⟨p.1,AS p.2⟩
def Tm.lf(t:Tm):Lf:=⟨t.ps.map pv,zv t.k⟩
def Lf.tm(l:Lf):Tm:=⟨l.ps.map Bk,AS l.k⟩
def Lf.pln(l:Lf):Lf:=⟨DA l.ps,l.k⟩
theorem AcF(p:Int × Int):pv (Bk p)=p:=by
 unfold pv Bk
 rw[AJ]
theorem Ge(l:Lf):l.tm.lf=l:=by
 obtain⟨ps,k⟩:=l
 unfold Lf.tm Tm.lf
 simp only[List.map_map,AJ]
 rw[show (pv ∘ Bk)=id from funext AcF,List.map_id]
theorem Vv(l:Lf):l.pln.pln=l.pln:=by
 unfold Lf.pln
 rw[Ug (EQ _)]
structure TmB (n k:Nat) (t:Tm):Prop where
 len:t.ps.length<=n
 ps:∀ p∈t.ps,Lz k p.z
 k:Lz k t.k
structure LB (n k:Nat) (l:Lf):Prop where
 len:l.ps.length<=n
 ps:∀ p∈l.ps,InB k p.2
 k:InB k l.k
theorem TmB.lb{n k:Nat}{t:Tm}(h:TmB n k t):LB n k t.lf:=by
 refine⟨by simpa[Tm.lf]using h.len,fun p hp=>?_,h.k.inb⟩
 simp only[Tm.lf,List.mem_map]at hp
 obtain⟨q,hq,rfl⟩:=hp
 exact(h.ps q hq).inb
theorem LB.tb{n k:Nat}{l:Lf}(h:LB n k l):TmB n k l.tm:=by
 refine⟨by simpa[Lf.tm]using h.len,fun p hp=>?_,h.k.lz⟩
 simp only[Lf.tm,List.mem_map]at hp
 obtain⟨q,hq,rfl⟩:=hp
 exact(h.ps q hq).lz
theorem LB.mono{n k m j:Nat}{l:Lf}(h:LB n k l)(hn:n<=m)(hk:k<=j):LB m j l:=⟨by have:=h.len;omega,fun p hp=>(h.ps p hp).mono hk,h.k.mono hk⟩
theorem TmB.mono{n k m j:Nat}{t:Tm}(h:TmB n k t)(hn:n<=m)(hk:k<=j):TmB m j t:=⟨by have:=h.len;omega,fun p hp=>(h.ps p hp).mono hk,h.k.mono hk⟩
theorem Ie{k:Nat}(v:Int):∀ l:List (Int × Int),(∀ p∈l,InB k p.2)->InB (k+l.length) (A6 v l)
 |[],_=>InB.zero _
 |p::r,h=>by
  have h1:=Ie v r fun q hq=>h q (List.mem_cons_of_mem _ hq)
  have h2:=h p (List.mem_cons_self ..)
  rw[A6,List.length_cons,←Nat.add_assoc]
  refine InB.add ?_ h1
  split
  .exact h2.mono (by omega)
  .exact InB.zero _
theorem Pln.mem:∀{l:List (Int × Int)},Pln l->∀ p∈l,A6 p.1 l=p.2
 |q::r,h,p,hp=>by
  rcases List.mem_cons.1 hp with rfl|hp
  .exact h.head
  .rw[A6,if_neg (by have:=(List.pairwise_cons.1 h.asc).1 p hp;omega),h.tail.mem p hp]
   omega
theorem LB.pln{n k:Nat}{l:Lf}(h:LB n k l):LB n (k+n) l.pln:=by
 have hl:=Pj l.ps
 refine⟨by have:=h.len;simp only[Lf.pln];omega,fun p hp=>?_,h.k.mono (by omega)⟩
 have h1:=(EQ l.ps).mem p hp
 rw[Jc,if_pos ((EQ l.ps).pos p hp)]at h1
 rw[←h1]
 exact(Ie p.1 l.ps h.ps).mono (by have:=h.len;omega)
def Lf.add(a b:Lf):Lf:=Lf.pln ⟨a.ps++b.ps,a.k+b.k⟩
def Lf.scale(a:Lf)(n:Int):Lf:=Lf.pln ⟨a.ps.map fun p=>(p.1,p.2*n),a.k*n⟩
def Lf.sub(a b:Lf):Lf:=a.add (b.scale (-1))
def Lf.num(k:Int):Lf:=⟨[],k⟩
theorem LB.app{n k m j:Nat}{a b:Lf}(ha:LB n k a)(hb:LB m j b):LB (n+m) (k+j+1) ⟨a.ps++b.ps,a.k+b.k⟩:=by
 refine⟨by have:=ha.len;have:=hb.len;simp only[List.length_append];omega,fun p hp=>?_,InB.add (ha.k.mono (by omega)) (hb.k.mono (by omega))⟩
 rcases List.mem_append.1 hp with h|h
 .exact(ha.ps p h).mono (by omega)
 .exact(hb.ps p h).mono (by omega)
theorem LB.mul{n k j:Nat}{a:Lf}{x:Int}(ha:LB n k a)(hx:InB j x):LB n (k+j) ⟨a.ps.map fun p=>(p.1,p.2*x),a.k*x⟩:=by
 refine⟨by simpa using ha.len,fun p hp=>?_,InB.mul ha.k hx⟩
 simp only[List.mem_map]at hp
 obtain⟨q,hq,rfl⟩:=hp
 exact InB.mul (ha.ps q hq) hx
theorem LB.add{n k m j:Nat}{a b:Lf}(ha:LB n k a)(hb:LB m j b):LB (n+m) (k+j+1+(n+m)) (a.add b):=(ha.app hb).pln
theorem LB.scale{n k j:Nat}{a:Lf}{x:Int}(ha:LB n k a)(hx:InB j x):LB n (k+j+n) (a.scale x):=(ha.mul hx).pln
def DU(f:Int->Int):List (Int × Int)->Int
 |[]=>0
 |p::r=>p.2*f p.1+DU f r
def Lf.val(f:Int->Int)(l:Lf):Int:=DU f l.ps+l.k
theorem NU(f:Int->Int):∀ a b,DU f (a++b)=DU f a+DU f b
 |[],b=>by simp[DU]
 |p::r,b=>by rw[List.cons_append,DU,DU,NU f r b];omega
theorem NV(f:Int->Int)(n:Int):∀ a:List (Int × Int),DU f (a.map fun p=>(p.1,p.2*n))=DU f a*n
 |[]=>by simp[DU]
 |p::r=>by
  rw[List.map_cons,DU,DU,NV f n r,Int.add_mul,Int.mul_assoc,Int.mul_assoc,Int.mul_comm n]
theorem Px(f:Int->Int)(v c:Int):∀ l,DU f (G0 v c l)=c*f v+DU f l
 |[]=>by
  unfold G0
  split
  .rename_i h;simp[DU,h]
  .simp[DU]
 |p::r=>by
  have ih:=Px f v c r
  unfold G0
  split
  .split
   .rename_i h;rw[h];simp
   .rfl
  .split
   .rw[DU,ih,DU];omega
   .have e:p.1=v:=by omega
    split
    .rename_i h
     rw[DU,e,←Int.add_assoc,←Int.add_mul,Int.add_comm c,h]
     simp
    .show (p.2+c)*f v+DU f r=c*f v+(p.2*f p.1+DU f r)
     rw[e,Int.add_mul]
     omega
theorem SL{f:Int->Int}(hf:∀ v,v<0->f v=0):∀ l,DU f (DA l)=DU f l
 |[]=>rfl
 |p::r=>by
  have ih:=SL hf r
  unfold DA
  split
  .rw[Px,ih,DU]
  .rename_i h
   rw[ih,DU,hf p.1 (by omega)]
   simp
theorem Mp{f:Int->Int}(hf:∀ v,v<0->f v=0)(l:Lf):l.pln.val f=l.val f:=by
 unfold Lf.pln Lf.val
 rw[SL hf]
theorem Adi{f:Int->Int}(hf:∀ v,v<0->f v=0)(a b:Lf):(a.add b).val f=a.val f+b.val f:=by
 unfold Lf.add
 rw[Mp hf]
 unfold Lf.val
 simp only[NU]
 omega
theorem Xy{f:Int->Int}(hf:∀ v,v<0->f v=0)(a:Lf)(n:Int):(a.scale n).val f=a.val f*n:=by
 unfold Lf.scale
 rw[Mp hf]
 unfold Lf.val
 simp only[NV,Int.add_mul]
theorem Mq{f:Int->Int}(hf:∀ v,v<0->f v=0)(a b:Lf):(a.sub b).val f=a.val f-b.val f:=by
 unfold Lf.sub
 rw[Adi hf,Xy hf]
 omega
def CK(vals:List Int)(v:Int):Int:=if v<0 then 0 else vals.getD v.toNat 0
theorem SV(vals:List Int)(v:Int)(h:v<0):CK vals v=0:=if_pos h
end Go.Proofs.YtlmhajfbpplpoaaGreat
namespace Go.Proofs.YtlmhajfbpplpoaaGreat
open Go.RowKit
inductive Fm where
 |mk (kind:Int) (t:Tm) (eq:Bool) (kids:List Fm)
mutual
def eF:Fm->List AV
 |.mk k t e ks=>[iv k,.ls (t.ps.map eP),bv t.k.neg,eN t.k.abs,bv e,.ls (eFs ks)]
def eFs:List Fm->List (List AV)
 |[]=>[]
 |x::r=>eF x::eFs r
end
theorem De:∀ l,eFs l=l.map eF
 |[]=>rfl
 |x::r=>by simp[eFs,De r]
def Fm.kind:Fm->Int
 |.mk k _ _ _=>k
def Fm.tm:Fm->Tm
 |.mk _ t _ _=>t
def Fm.eq:Fm->Bool
 |.mk _ _ e _=>e
def Fm.kids:Fm->List Fm
 |.mk _ _ _ ks=>ks
def Tm0:Tm:=⟨[],⟨false,[]⟩⟩
def Mr:Lf:=⟨[],0⟩
theorem TZ:Mr.tm=Tm0:=by
 unfold Lf.tm Mr Tm0
 rw[Ll]
 rfl
def kF(k:Int)(ks:List Fm):Fm:=.mk k Tm0 false ks
def N4(b:Bool):Fm:=kF (if b then 0 else 1) []
def D1(l:Lf)(e:Bool):Fm:=.mk 2 l.tm e []
def IK:Fm->List Fm
 |.mk k _ _ ks=>if k=4\/k=5 then ks else if k=3 then ks.take 1 else []
mutual
def BI:Fm->Fm
 |.mk k t e ks=>if k=0 then N4 true else if k=2 then D1 t.lf.pln e else if k=3 then kF 3 (Gp ks) else if k=4\/k=5 then kF k (DH ks) else N4 false
def Gp:List Fm->List Fm
 |[]=>[]
 |x::_=>[BI x]
def DH:List Fm->List Fm
 |[]=>[]
 |x::r=>BI x::DH r
end
theorem Hb:∀ l,DH l=l.map BI
 |[]=>rfl
 |x::r=>by simp[DH,Hb r]
theorem Rf:∀ l,Gp l=(l.take 1).map BI
 |[]=>rfl
 |x::r=>by simp[Gp]
def Ui(v:Int)(e:Bool):Bool:=decide (v=0)||(!e&&decide (0<v))
mutual
def Ct(f:Int->Int):Fm->Bool
 |.mk k t e ks=>if k=0 then true else if k=2 then Ui (t.lf.val f) e else if k=3 then Gx f ks else if k=4 then Ea f ks else if k=5 then Eb f ks else false
def Gx(f:Int->Int):List Fm->Bool
 |[]=>false
 |x::_=>!Ct f x
def Ea(f:Int->Int):List Fm->Bool
 |[]=>true
 |x::r=>Ct f x&&Ea f r
def Eb(f:Int->Int):List Fm->Bool
 |[]=>false
 |x::r=>Ct f x||Eb f r
end
theorem FV(f:Int->Int)(b:Bool):Ct f (N4 b)=b:=by
 cases b<;>rfl
theorem Dw(f:Int->Int)(l:Lf)(e:Bool):Ct f (D1 l e)=Ui (l.val f) e:=by
 unfold D1
 rw[Ct,if_neg (by decide),if_pos rfl,Ge]
mutual
theorem Hf{f:Int->Int}(hf:∀ v,v<0->f v=0):∀ x:Fm,Ct f (BI x)=Ct f x
 |.mk k t e ks=>by
  rw[BI,Ct]
  by_cases h0:k=0
  .rw[if_pos h0,if_pos h0,FV]
  rw[if_neg h0,if_neg h0]
  by_cases h2:k=2
  .rw[if_pos h2,if_pos h2,Dw,Mp hf]
  rw[if_neg h2,if_neg h2]
  by_cases h3:k=3
  .rw[if_pos h3,if_pos h3]
   unfold kF
   rw[Ct,if_neg (by decide),if_neg (by decide),if_pos rfl]
   exact Qm hf ks
  rw[if_neg h3,if_neg h3]
  by_cases h4:k=4
  .rw[if_pos (.inl h4),if_pos h4,h4]
   unfold kF
   rw[Ct,if_neg (by decide),if_neg (by decide),if_neg (by decide),if_pos rfl]
   exact JE hf ks
  rw[if_neg h4]
  by_cases h5:k=5
  .rw[if_pos (.inr h5),if_pos h5,h5]
   unfold kF
   rw[Ct,if_neg (by decide),if_neg (by decide),if_neg (by decide),if_neg (by decide),if_pos rfl]
   exact JF hf ks
  rw[if_neg (by omega),if_neg h5,FV]
theorem Qm{f:Int->Int}(hf:∀ v,v<0->f v=0):∀ l:List Fm,Gx f (Gp l)=Gx f l
 |[]=>rfl
 |x::r=>by rw[Gp,Gx,Gx,Hf hf x]
theorem JE{f:Int->Int}(hf:∀ v,v<0->f v=0):∀ l:List Fm,Ea f (DH l)=Ea f l
 |[]=>rfl
 |x::r=>by rw[DH,Ea,Ea,Hf hf x,JE hf r]
theorem JF{f:Int->Int}(hf:∀ v,v<0->f v=0):∀ l:List Fm,Eb f (DH l)=Eb f l
 |[]=>rfl
 |x::r=>by rw[DH,Eb,Eb,Hf hf x,JF hf r]
end
def Ok(op:Int)(l r:Lf):Fm:=
 if op=0 then D1 (l.sub r) true
 else if op=1 then kF 3 [D1 (l.sub r) true]
 else if op=2 then D1 ((r.sub l).sub (.num 1)) false
 else if op=3 then D1 (r.sub l) false
 else if op=4 then D1 ((l.sub r).sub (.num 1)) false
 else if op=5 then D1 (l.sub r) false
 else N4 false
def UN(op a b:Int):Bool:=
 if op=0 then decide (a=b) else if op=1 then decide (a≠b) else if op=2 then decide (a<b) else if op=3 then decide (a<=b) else if op=4 then decide (b<a) else if op=5 then decide (b<=a) else false
theorem Adk(f:Int->Int)(k:Int):(Lf.num k).val f=k:=by
 show 0+k=k
 omega
theorem F7(v:Int)(e:Bool):Ui v e=true ↔ v=0\/e=false/\0<v:=by
 unfold Ui
 cases e<;>simp
theorem Wv{f:Int->Int}(hf:∀ v,v<0->f v=0)(op:Int)(l r:Lf):Ct f (Ok op l r)=UN op (l.val f) (r.val f):=by
 have e1:=Mq hf l r
 have e2:=Mq hf r l
 have e3:=Mq hf (r.sub l) (.num 1)
 have e4:=Mq hf (l.sub r) (.num 1)
 rw[Adk]at e3 e4
 rw[Bool.eq_iff_iff]
 unfold Ok UN
 split
 .rw[Dw,F7,decide_eq_true_iff];simp;omega
 split
 .unfold kF
  rw[Ct,if_neg (by decide),if_neg (by decide),if_pos rfl,Gx,Bool.not_eq_true',←Bool.not_eq_true,Dw,F7,decide_eq_true_iff];simp;omega
 split
 .rw[Dw,F7,decide_eq_true_iff];simp;omega
 split
 .rw[Dw,F7,decide_eq_true_iff];simp;omega
 split
 .rw[Dw,F7,decide_eq_true_iff];simp;omega
 split
 .rw[Dw,F7,decide_eq_true_iff];simp;omega
 rw[FV]
mutual
inductive CanF:Fm->Prop
 |tru (b:Bool):CanF (N4 b)
 |atom (l:Lf) (e:Bool) (h:l.pln=l):CanF (D1 l e)
 |no (x:Fm) (h:CanF x):CanF (kF 3 [x])
 |and (l:List Fm) (h:CanFs l):CanF (kF 4 l)
 |or (l:List Fm) (h:CanFs l):CanF (kF 5 l)
 |no0:CanF (kF 3 [])
inductive CanFs:List Fm->Prop
 |nil:CanFs []
 |cons {x:Fm} {r:List Fm} (h:CanF x) (hr:CanFs r):CanFs (x::r)
end
mutual
theorem CanF.clone:∀{x:Fm},CanF x->BI x=x
 |_,.tru b=>by cases b<;>rfl
 |_,.atom l e h=>by
  unfold D1
  rw[BI,if_neg (by decide),if_pos rfl,Ge,h]
  rfl
 |_,.no x h=>by
  unfold kF
  rw[BI,if_neg (by decide),if_neg (by decide),if_pos rfl,Gp,h.clone]
  rfl
 |_,.and l h=>by
  unfold kF
  rw[BI,if_neg (by decide),if_neg (by decide),if_neg (by decide),if_pos (.inl rfl),h.clone]
  rfl
 |_,.or l h=>by
  unfold kF
  rw[BI,if_neg (by decide),if_neg (by decide),if_neg (by decide),if_pos (.inr rfl),h.clone]
  rfl
 |_,.no0=>rfl
theorem CanFs.clone:∀{l:List Fm},CanFs l->DH l=l
 |_,.nil=>rfl
 |_,.cons h hr=>by rw[DH,h.clone,hr.clone]
end
theorem Du(l r:Lf):(l.sub r).pln=l.sub r:=Vv _
theorem X4(op:Int)(l r:Lf):CanF (Ok op l r):=by
 unfold Ok
 repeat' split
 .exact .atom _ _ (Du _ _)
 .exact .no _ (.atom _ _ (Du _ _))
 .exact .atom _ _ (Du _ _)
 .exact .atom _ _ (Du _ _)
 .exact .atom _ _ (Du _ _)
 .exact .atom _ _ (Du _ _)
 .exact .tru _
mutual
theorem OJ:∀ x:Fm,CanF (BI x)
 |.mk k t e ks=>by
  rw[BI]
  split
  .exact .tru _
  split
  .exact .atom _ _ (Vv _)
  split
  .exact Tl ks
  split
  .rename_i h
   rcases h with h|h
   .rw[h];exact .and _ (IY ks)
   .rw[h];exact .or _ (IY ks)
  .exact .tru _
theorem Tl:∀ l:List Fm,CanF (kF 3 (Gp l))
 |[]=>.no0
 |x::_=>.no _ (OJ x)
theorem IY:∀ l:List Fm,CanFs (DH l)
 |[]=>.nil
 |x::r=>.cons (OJ x) (IY r)
end
end Go.Proofs.YtlmhajfbpplpoaaGreat
namespace Go.Proofs.YtlmhajfbpplpoaaGreat
open Go.RowKit
def HS(ps:List (Int × Int))(vals:List Int):Nat->Int
 |0=>0
 |n+1=>HS ps vals n+A6 (n:Int) ps*vals.getD n 0
theorem Kk(vals:List Int)(n:Nat):CK vals (n:Int)=vals.getD n 0:=by
 unfold CK
 rw[if_neg (by omega),Int.toNat_natCast]
theorem N6(vals:List Int){v:Int}(h:(vals.length:Int)<=v):CK vals v=0:=by
 unfold CK
 rw[if_neg (by omega),List.getD_eq_getElem?_getD,List.getElem?_eq_none (by omega)]
 rfl
theorem SI(vals:List Int):∀ n,HS [] vals n=0
 |0=>rfl
 |n+1=>by rw[HS,SI vals n,A6,Int.zero_mul];rfl
theorem Pw(p:Int × Int)(r:List (Int × Int))(vals:List Int):∀ n:Nat,HS (p::r) vals n=(if 0<=p.1/\p.1<(n:Int) then p.2*CK vals p.1 else 0)+HS r vals n
 |0=>by rw[HS,HS,if_neg (by omega)];rfl
 |n+1=>by
  rw[HS,HS,Pw p r vals n,A6,Int.add_mul]
  by_cases h:p.1=(n:Int)
  .rw[if_pos h,if_neg (by omega),if_pos (by omega),h,Kk]
   omega
  .rw[if_neg h,Int.zero_mul]
   by_cases h2:0<=p.1/\p.1<(n:Int)
   .rw[if_pos h2,if_pos (by omega)];omega
   .rw[if_neg h2,if_neg (by omega)];omega
theorem Py(vals:List Int):∀ ps:List (Int × Int),DU (CK vals) ps=HS ps vals vals.length
 |[]=>by rw[SI];rfl
 |p::r=>by
  rw[Pw,DU,Py vals r]
  by_cases h:0<=p.1/\p.1<(vals.length:Int)
  .rw[if_pos h]
  .rw[if_neg h]
   by_cases h0:p.1<0
   .rw[SV _ _ h0,Int.mul_zero]
   .rw[N6 vals (by omega),Int.mul_zero]
theorem SY(vals:List Int)(l:Lf):l.val (CK vals)=l.k+HS l.ps vals vals.length:=by
 unfold Lf.val
 rw[Py]
 omega
theorem Rv{k:Nat}{vals:List Int}(h:∀ x∈vals,InB k x)(n:Nat):InB k (vals.getD n 0):=by
 rw[List.getD_eq_getElem?_getD]
 cases e:vals[n]? with
 |none=>exact InB.zero _
 |some x=>
  obtain⟨hn,rfl⟩:=List.getElem?_eq_some_iff.1 e
  exact h _ (List.getElem_mem hn)
theorem SH{n k j:Nat}{l:Lf}{vals:List Int}(hl:LB n k l)(hv:∀ x∈vals,InB j x):∀ m:Nat,InB (k+n+j+m) (HS l.ps vals m)
 |0=>InB.zero _
 |m+1=>by
  rw[HS,←Nat.add_assoc]
  refine InB.add (SH hl hv m) ?_
  have h1:=Ie (m:Int) l.ps hl.ps
  have h2:=InB.mul h1 (Rv hv m)
  exact h2.mono (by have:=hl.len;omega)
end Go.Proofs.YtlmhajfbpplpoaaGreat
namespace Go.Proofs.YtlmhajfbpplpoaaGreat
open Go.RowKit
theorem E8(x:Nat):Ao.conv .u32 (x:Int)=((x % 4294967296:Nat):Int):=by
 show IntKind.u32.wrap (x:Int)=_
 rw[IntKind.wrap_u32]
 omega
theorem BH{x:Nat}(h:x<4294967296):Ao.conv .u32 (x:Int)=(x:Int):=by rw[E8,Nat.mod_eq_of_lt h]
theorem B1{x:Nat}(h:x<18446744073709551616):Ao.conv .u64 (x:Int)=(x:Int):=by
 show IntKind.u64.wrap (x:Int)=_
 rw[IntKind.wrap_u64]
 omega
theorem C3{x y:Nat}(h:x+y<18446744073709551616):Ao.add .u64 (x:Int) (y:Int)=((x+y:Nat):Int):=by
 show IntKind.u64.wrap ((x:Int)+(y:Int))=_
 rw[IntKind.wrap_u64]
 omega
theorem GG{x y:Nat}(h:y<=x)(h2:x<18446744073709551616):Ao.sub .u64 (x:Int) (y:Int)=((x-y:Nat):Int):=by
 show IntKind.u64.wrap ((x:Int)-(y:Int))=_
 rw[IntKind.wrap_u64]
 omega
theorem QB{x y:Nat}(h:x*y<18446744073709551616):Ao.mul .u64 (x:Int) (y:Int)=((x*y:Nat):Int):=by
 show IntKind.u64.wrap ((x:Int)*(y:Int))=_
 rw[IntKind.wrap_u64,←Int.natCast_mul]
 omega
theorem JU(x:Nat):Ao.shr .u64 (x:Int) 32=((x / 4294967296:Nat):Int):=by
 show Int.fdiv (x:Int) (2 ^ 32)=_
 have:(2 ^ 32:Int)=((4294967296:Nat):Int):=by decide
 rw[this,Int.fdiv_eq_ediv_of_nonneg _ (by omega)]
 rfl
theorem Fx(x y:Nat):Ao.add .u32 (x:Int) (y:Int)=(((x+y) % 4294967296:Nat):Int):=by
 show IntKind.u32.wrap ((x:Int)+(y:Int))=_
 rw[IntKind.wrap_u32]
 omega
theorem CE(x y:Nat):Ao.mul .u32 (x:Int) (y:Int)=(((x*y) % 4294967296:Nat):Int):=by
 show IntKind.u32.wrap ((x:Int)*(y:Int))=_
 rw[IntKind.wrap_u32,←Int.natCast_mul]
 omega
theorem AkU{i j:Nat}(h:j<=i)(h2:i<4611686018427387904):Ao.sub .i64 (i:Int) (j:Int)=((i-j:Nat):Int):=by
 rw[F6 (by omega) (by omega)]
 omega
theorem AfE{i j:Nat}(h2:i+j<4611686018427387904):Ao.add .i64 (i:Int) (j:Int)=((i+j:Nat):Int):=by
 rw[GW (by omega) (by omega)]
 omega
theorem Fe(kd:IntKind)(n:Int)(r:List AV)(k:Int->List AV->KR):Ay kd (.v (.int kd n)::r) k=k n r:=by simp[Ay]
theorem QY(kd:IntKind)(n:Int)(k:Int->KR):Bp kd (.v (.int kd n)) k=k n:=by simp[Bp]
theorem We(n:Nat)(k:Int->List AV->KR)(r:List AV):Ay .u32 (.v (.int .u32 (n:Int))::r) k=k n r:=rfl
theorem VN(l:List Nat):Gi 1 (l.map eL)=true:=Iy A3 l
theorem Ahc(l:List Nat):JP (Iz (l.map eL))=true:=by rw[EX];exact JQ (fun _=>rfl) l
theorem AcC(l:List Nat):A8 (Iz (l.map eL))=true:=by
 rw[EX]
 induction l with
 |nil=>rfl
 |cons x r ih=>exact ih
theorem SO(l:List Nat)(n:Nat):II (Zq1 (l.map eL) n) 0=(l.take n).map eL:=by
 rw[J8,Jx,List.drop_zero,List.map_take]
theorem G8:∀(a b:List Nat) (c:Nat),(Kp c a b).length=a.length+1
 |[],_,_=>rfl
 |x::a,b,c=>by rw[Kp,List.length_cons,G8 a,List.length_cons]
theorem MM{a b:Nat}(h:(AZ a).length<(AZ b).length):a<b:=by
 by_cases h2:a<b
 .exact h2
 .have h3:AL b=AL b:=rfl
  have h4:0<(AZ b).length:=by omega
  have hb:4294967296 ^ ((AZ b).length-1)<=b:=by
   by_cases h5:4294967296 ^ ((AZ b).length-1)<=b
   .exact h5
   .have:=BE (n:=b) (k:=(AZ b).length-1) (by omega)
    omega
  have h6:=R5 (n:=a) (k:=(AZ b).length-1) (by omega)
  omega
def CB(l:List Nat):Prop:=l.length<=1000000000
theorem GD{l:List Nat}(h:Limbs l)(h2:CB l):CB (AZ (Ai l)):=by
 unfold CB at *
 rw[Hm l h]
 have:=DY l
 omega
structure CloneF (D:Orc):Prop where
 nat:∀ l:List Nat,CB l->D.ask (.fn 240) [eN l] []=some (.sl 0 0 l.length 1,[.set (ABlk.mk (Av eL l) true true)])
theorem V8{l:List Nat}(h:CB l):Fh 1 (Ch 1 4) [eN l] []=some (.sl 0 0 l.length 1,[.set (ABlk.mk (Av eL l) true true)]):=by
 unfold Fh Ch eN
 have h4:Nat.ble (Be (l.map eL)*4) 140737488355328=true:=by
  rw[Ax]
  unfold CB at h
  simp
  omega
 simp only[VN,Ahc,AcC,h4,Bool.and_true,if_true,Option.map_some]
 rw[Ax,EX]
section
variable {D:Orc} (K:Knows As J6 D)
include K
theorem Ade(l:List Nat)(hl:CB l):∀(n:Nat),n<=l.length->C1 l<=n->D.ask (.lp 204 0) [eN l,iv (n:Int)] []=some (.tup [iv 0,eN l,iv (C1 l:Int)],[]):=by
 intro n
 have hl':=hl
 unfold CB at hl'
 induction n with
 |zero=>
  intro _ ht
  refine K.lp' RN _ rfl (by kernel_rfl) ((Yt ..).trans ?_)
  refine(Ap (by omega)).trans ?_
  rw[show C1 l=0 by omega]
  rfl
 |succ n ih=>
  intro hn ht
  refine K.lp' RN _ rfl (by kernel_rfl) ((Yt ..).trans ?_)
  refine(Aq (by omega)).trans ?_
  rw[show Ao.sub .i64 ((n+1:Nat):Int) 1=(n:Int) from (AkU (i:=n+1) (j:=1) (by omega) (by omega)).trans (by simp)]
  rw[AN,AO (List.getElem?_eq_getElem (show n<l.length by omega))]
  simp only[eL,We,ND,Ab]
  by_cases h0:l[n]=0
  .refine(AQ (by rw[h0];rfl)).trans ?_
   refine(Aa (ih (by omega) (PE ht (by rw[List.getElem?_eq_getElem (show n<l.length by omega),h0]))) _).trans ?_
   rfl
  .refine(AA (by omega)).trans ?_
   have:=QU (List.getElem?_eq_getElem (show n<l.length by omega)) h0
   rw[show C1 l=n+1 by omega]
   rfl
theorem EK{l:List Nat}(hl:CB l)(h:Limbs l):D.ask (.fn 204) [eN l] []=some (eN (AZ (Ai l)),[]):=by
 refine K.fn' RN _ rfl ((Al5 ..).trans ?_)
 rw[Ax]
 refine(Aa (Ade K l hl _ (Nat.le_refl _) (DY l)) _).trans ?_
 simp only[eN,ND,Ab]
 rw[AN,Ax,VN,SO,J9 h]
 rw[show JG 0 (C1 l) l.length=true by unfold JG;rw[show Nat.ble 0 (C1 l)=true by simp];simpa using DY l]
 rfl
variable (C:CloneF D)
include C
theorem Gk{l:List Nat}(hl:CB l)(h:Limbs l):D.ask (.fn 200) [eN l] []=some (eN (AZ (Ai l)),[]):=by
 refine K.fn' Aeg _ rfl ((Al3 ..).trans ?_)
 refine(Aa (EK K hl h) _).trans ?_
 simp only[eN,ND,Ab]
 have g:=C.nat _ (GD h hl)
 unfold eN at g
 refine(Aa g _).trans ?_
 simp only[ND,Ab]
 rw[Bg A3 _ (by omega)]
 refine(Az _ _).trans ?_
 rw[C5 A3 _ rfl]
theorem Adu(n:Nat)(h:n<18446744073709551616):D.ask (.fn 146) [.v (.int .u64 (n:Int))] []=some (eN (AZ n),[]):=by
 refine K.fn' Ad0 _ rfl ((AlC ..).trans ?_)
 refine(Ap (by decide)).trans ?_
 rw[E8,JU,E8]
 have hl:Limbs [n % 4294967296,n / 4294967296 % 4294967296]:=BK (Nat.mod_lt _ (by omega)) (BK (Nat.mod_lt _ (by omega)) Cc)
 have g:=Gk K C (l:=[n % 4294967296,n / 4294967296 % 4294967296]) (by unfold CB;simp) hl
 rw[show Ai [n % 4294967296,n / 4294967296 % 4294967296]=n by simp only[Ai];omega]at g
 refine(Aa g _).trans ?_
 rfl
omit C in
theorem Afy(a b:List Nat)(ha:Limbs a)(hb:Limbs b)(hab:a.length=b.length)(hs:CB a):∀(n:Nat),n<=a.length->D.ask (.lp 205 0) [eN a,eN b,iv ((n:Int)-1)] []
  = some (if Dv (Ai (a.take n)) (Ai (b.take n))=0 then .tup [iv 1] else .tup [bv true,iv (Dv (Ai (a.take n)) (Ai (b.take n)))],[]):=by
 intro n
 unfold CB at hs
 induction n with
 |zero=>
  intro _
  refine K.lp' RO _ rfl (by kernel_rfl) ((Yu ..).trans ?_)
  refine(C4 (by omega)).trans ?_
  rfl
 |succ n ih=>
  intro hn
  refine K.lp' RO _ rfl (by kernel_rfl) ((Yu ..).trans ?_)
  rw[show (((n+1:Nat):Int)-1)=(n:Int) by omega]
  refine(CN (by omega)).trans ?_
  have h1:n<a.length:=by omega
  have h2:n<b.length:=by omega
  have e1:a.take (n+1)=a.take n++[a[n]]:=by rw[List.take_succ_eq_append_getElem h1]
  have e2:b.take (n+1)=b.take n++[b[n]]:=by rw[List.take_succ_eq_append_getElem h2]
  rw[e1,e2,Rh (ha.take n) (hb.take n) (by simp;omega)]
  simp only[AN,AO (List.getElem?_eq_getElem h1),AO (List.getElem?_eq_getElem h2),eL,We,ND,Ab]
  by_cases h3:a[n]<b[n]
  .refine(Aq (by omega)).trans ?_
   rw[if_pos h3]
   rfl
  .refine(Ap (by omega)).trans ?_
   rw[if_neg h3]
   by_cases h4:b[n]<a[n]
   .refine(Aq (by omega)).trans ?_
    rw[if_pos h4]
    rfl
   .refine(Ap (by omega)).trans ?_
    rw[if_neg h4]
    rw[show Ao.sub .i64 (n:Int) 1=(n:Int)-1 from F6 (by omega) (by omega)]
    refine(Aa (ih (by omega)) _).trans ?_
    by_cases h5:Dv (Ai (a.take n)) (Ai (b.take n))=0
    .rw[if_pos h5];rfl
    .rw[if_neg h5];rfl
omit C in
theorem S7{a b:List Nat}(hsa:CB a)(ha:Limbs a)(hsb:CB b)(hb:Limbs b):D.ask (.fn 205) [eN a,eN b] []=some (iv (Dv (Ai a) (Ai b)),[]):=by
 have s1:=GD ha hsa
 have s2:=GD hb hsb
 unfold CB at s1 s2
 refine K.fn' RO _ rfl ((Al6 ..).trans ?_)
 refine(Aa (EK K hsa ha) _).trans ?_
 simp only[eN,ND,Ab]
 refine(Aa (EK K hsb hb) _).trans ?_
 simp only[eN,ND,Ab,Ax]
 generalize Ai a=x at *
 generalize Ai b=y at *
 by_cases h1:(AZ x).length<(AZ y).length
 .refine(Aq (by omega)).trans ?_
  have:=MM h1
  unfold Dv
  rw[if_pos this]
 .refine(Ap (by omega)).trans ?_
  by_cases h2:(AZ y).length<(AZ x).length
  .refine(Aq (by omega)).trans ?_
   have:=MM h2
   unfold Dv
   rw[if_neg (by omega),if_pos this]
  .refine(Ap (by omega)).trans ?_
   have hx:(AZ x).length=(AZ y).length:=by omega
   have g:=Afy K (AZ x) (AZ y) (AL x) (AL y) hx s1 (AZ x).length (Nat.le_refl _)
   rw[List.take_length,hx,List.take_length,AY,AY]at g
   rw[show Ao.sub .i64 ((AZ x).length:Int) 1=((AZ x).length:Int)-1 from F6 (by omega) (by omega),hx]
   refine(Aa g _).trans ?_
   by_cases h5:Dv x y=0
   .rw[if_pos h5,h5];rfl
   .rw[if_neg h5];rfl
omit C in
theorem XL(b:List Nat)(hb:Limbs b)(a:List Nat)(ha:Limbs a)(hs:CB a):∀(k i:Nat) (out:List Nat) (c:Nat),a.length-i=k->i<=a.length->b.length<=a.length->c<=1->out.length+k<=2000000000->
  ∃(o:List Nat) (c':Nat),D.ask (.lp 149 0) [eN b,.sl 0 0 out.length 1,.v (.int .u64 (c:Int)),eN a,iv (a.length:Int),iv (i:Int)] [ABlk.mk (Av eL out) true true]
   = some (.tup [iv 0,.sl 1 0 o.length 1,.v (.int .u64 (c':Int))],[.del,.set (ABlk.mk (Av eL o) true true)])/\c'<=1/\o++[c']=out++Kp c (a.drop i) (b.drop i):=by
 intro k
 unfold CB at hs
 induction k with
 |zero=>
  intro i out c hi hle hba hc ho
  refine⟨out,c,?_,hc,?_⟩
  .refine K.lp' RH _ rfl (by kernel_rfl) ((Yi ..).trans ?_)
   refine(Ap (by omega)).trans ?_
   rfl
  .rw[show a.drop i=[] from List.drop_eq_nil_of_le (by omega)]
   rfl
 |succ k ih=>
  intro i out c hi hle hba hc ho
  have hlt:i<a.length:=by omega
  have hx:=ha.get hlt
  have hbd:=E0 (hb.drop i)
  have hdt:(b.drop i).tail=b.drop (i+1):=by rw[List.tail_drop]
  rw[show a.drop i=a[i]::a.drop (i+1) from List.drop_eq_getElem_cons hlt]
  obtain⟨o,c',h1,h2,h3⟩:=ih (i+1) (out++[(a[i]+(b.drop i).headD 0+c) % 4294967296]) ((a[i]+(b.drop i).headD 0+c) / 4294967296) (by omega) (by omega) hba (by omega) (by simp;omega)
  refine⟨o,c',?_,h2,?_⟩
  .refine K.lp' RH _ rfl (by kernel_rfl) ((Yi ..).trans ?_)
   refine(Aq (by omega)).trans ?_
   rw[AN,AO (List.getElem?_eq_getElem hlt)]
   have hf:Bu (out.length+1) 4=true:=A4 (by omega) (by omega)
   have hb1:Nat.ble (0+out.length*1) (Av eL out).length=true:=Bg A3 out (by omega)
   have e3:∀ s:Nat,List.drop 0 (List.take (0+out.length*1) (Av eL out))++[.v (.int .u32 (s:Int))]=Av eL (out++[s]):=fun s=>by
    rw[List.drop_zero,Bl A3 out (by omega)]
    exact Bm eL out s
   rw[List.length_append,List.length_singleton]at h1
   simp only[eL,We,ND,Ab,Ax]
   rw[Bn (by omega)]
   by_cases hib:i<b.length
   .have hd:(b.drop i).headD 0=b[i]:=by rw[List.drop_eq_getElem_cons hib];rfl
    rw[hd]at h1 hbd
    refine(Aq (by omega)).trans ?_
    rw[AN,AO (List.getElem?_eq_getElem hib)]
    simp only[eL,We,ND,Ab]
    rw[B1 (by omega),B1 (by omega),C3 (by omega),C3 (by omega),E8,JU,hf,hb1,e3]
    rw[show a[i]+c+b[i]=a[i]+b[i]+c by omega]
    refine(Az _ _).trans ?_
    refine(Az _ _).trans ?_
    refine(Ap (by decide)).trans ?_
    refine(Aa h1 _).trans ?_
    rfl
   .have hd:(b.drop i).headD 0=0:=by rw[List.drop_eq_nil_of_le (by omega)];rfl
    rw[hd]at h1
    refine(Ap (by omega)).trans ?_
    rw[B1 (by omega),C3 (by omega),E8,JU,hf,hb1,e3]
    rw[show a[i]+c=a[i]+0+c by omega]
    refine(Az _ _).trans ?_
    refine(Az _ _).trans ?_
    refine(Ap (by decide)).trans ?_
    refine(Aa h1 _).trans ?_
    rfl
  .rw[h3,Kp,hdt,List.append_assoc]
   rfl
theorem Afx{a b:List Nat}(hsa:a.length<=999999999)(ha:Limbs a)(hsb:b.length<=999999999)(hb:Limbs b):D.ask (.fn 149) [eN a,eN b] []=some (eN (AZ (Ai a+Ai b)),[]):=by
 have s1:=GD ha (by unfold CB;omega)
 have s2:=GD hb (by unfold CB;omega)
 have t1:(AZ (Ai a)).length<=999999999:=by rw[Hm a ha];have:=DY a;omega
 have t2:(AZ (Ai b)).length<=999999999:=by rw[Hm b hb];have:=DY b;omega
 refine K.fn' RH _ rfl ((AlG ..).trans ?_)
 refine(Aa (EK K (by unfold CB;omega) ha) _).trans ?_
 simp only[eN,ND,Ab]
 refine(Aa (EK K (by unfold CB;omega) hb) _).trans ?_
 simp only[eN,ND,Ab,Ax]
 generalize Ai a=x at *
 generalize Ai b=y at *
 by_cases h1:(AZ x).length<(AZ y).length
 .refine(Aq (by omega)).trans ?_
  have hl:Limbs (Kp 0 (AZ y) (AZ x)):=IR _ _ _ (AL _) (AL _) (by omega)
  obtain⟨o,c',g,hc,ho⟩:=XL K (AZ x) (AL x) (AZ y) (AL y) s2 (AZ y).length 0 [] 0 (by omega) (by omega) (by omega) (by omega) (by unfold CB at s2;simp;omega)
  rw[List.nil_append,List.drop_zero,List.drop_zero]at ho
  have hol:o.length=(AZ y).length:=by
   have:=congrArg List.length ho
   rw[List.length_append,G8]at this
   simpa using this
  have hsx:=s2
  unfold CB at hsx
  rw[show Ao.add .i64 ((AZ y).length:Int) 1=(((AZ y).length+1:Nat):Int) from Bn (by omega),AN]
  rw[A4 (n:=(AZ y).length+1) (b:=4) (by omega) (by omega)]
  refine(Az _ _).trans ?_
  refine(Aa g _).trans ?_
  simp only[Fe,ND,Ab]
  rw[BH (by omega)]
  have e3:List.drop 0 (List.take (0+o.length*1) (Av eL o))++[.v (.int .u32 (c':Int))]=Av eL (o++[c']):=by
   rw[List.drop_zero,Bl A3 o (by omega)]
   exact Bm eL o c'
  rw[A4 (n:=o.length+1) (b:=4) (by omega) (by omega),Bg A3 o (by omega),e3,Bg A3 (o++[c']) (by simp)]
  refine(Az _ _).trans ?_
  refine(Az _ _).trans ?_
  refine(Az _ _).trans ?_
  rw[List.drop_zero,Bl A3 (o++[c']) (by simp),show BF (o.length+1) 1 (Av eL (o++[c']))=(o++[c']).map eL from by have:=CW A3 (o++[c']);rwa [List.length_append]at this]
  rw[ho]
  have gt:=Gk K C (l:=Kp 0 (AZ y) (AZ x)) (by unfold CB;rw[G8];omega) hl
  rw[Lk _ _ _ (by omega),AY,AY]at gt
  refine(Aa gt _).trans ?_
  rw[show 0+y+x=x+y by omega]
  rfl
 .refine(Ap (by omega)).trans ?_
  have hl:Limbs (Kp 0 (AZ x) (AZ y)):=IR _ _ _ (AL _) (AL _) (by omega)
  obtain⟨o,c',g,hc,ho⟩:=XL K (AZ y) (AL y) (AZ x) (AL x) s1 (AZ x).length 0 [] 0 (by omega) (by omega) (by omega) (by omega) (by unfold CB at s1;simp;omega)
  rw[List.nil_append,List.drop_zero,List.drop_zero]at ho
  have hol:o.length=(AZ x).length:=by
   have:=congrArg List.length ho
   rw[List.length_append,G8]at this
   simpa using this
  have hsx:=s1
  unfold CB at hsx
  rw[show Ao.add .i64 ((AZ x).length:Int) 1=(((AZ x).length+1:Nat):Int) from Bn (by omega),AN]
  rw[A4 (n:=(AZ x).length+1) (b:=4) (by omega) (by omega)]
  refine(Az _ _).trans ?_
  refine(Aa g _).trans ?_
  simp only[Fe,ND,Ab]
  rw[BH (by omega)]
  have e3:List.drop 0 (List.take (0+o.length*1) (Av eL o))++[.v (.int .u32 (c':Int))]=Av eL (o++[c']):=by
   rw[List.drop_zero,Bl A3 o (by omega)]
   exact Bm eL o c'
  rw[A4 (n:=o.length+1) (b:=4) (by omega) (by omega),Bg A3 o (by omega),e3,Bg A3 (o++[c']) (by simp)]
  refine(Az _ _).trans ?_
  refine(Az _ _).trans ?_
  refine(Az _ _).trans ?_
  rw[List.drop_zero,Bl A3 (o++[c']) (by simp),show BF (o.length+1) 1 (Av eL (o++[c']))=(o++[c']).map eL from by have:=CW A3 (o++[c']);rwa [List.length_append]at this]
  rw[ho]
  have gt:=Gk K C (l:=Kp 0 (AZ x) (AZ y)) (by unfold CB;rw[G8];omega) hl
  rw[Lk _ _ _ (by omega),AY,AY]at gt
  refine(Aa gt _).trans ?_
  rw[show 0+x+y=x+y by omega]
  rfl
omit C in
theorem AfC(b:List Nat)(hb:Limbs b)(a:List Nat)(ha:Limbs a)(hs:CB a):∀(k i:Nat) (out:List Nat) (c:Nat),a.length-i=k->i<=a.length->c<=1->out.length+k<=2000000000->
  D.ask (.lp 150 0) [eN b,.sl 0 0 out.length 1,.v (.int .u64 (c:Int)),eN a,iv (a.length:Int),iv (i:Int)] [ABlk.mk (Av eL out) true true]
   = some (.tup [iv 0,.sl 1 0 (out++GL c (a.drop i) (b.drop i)).length 1],[.del,.set (ABlk.mk (Av eL (out++GL c (a.drop i) (b.drop i))) true true)]):=by
 intro k
 unfold CB at hs
 induction k with
 |zero=>
  intro i out c hi hle hc ho
  refine K.lp' RI _ rfl (by kernel_rfl) ((Yj ..).trans ?_)
  refine(Ap (by omega)).trans ?_
  rw[show a.drop i=[] from List.drop_eq_nil_of_le (by omega)]
  simp only[GL,List.append_nil]
  all_goals rfl
 |succ k ih=>
  intro i out c hi hle hc ho
  have hlt:i<a.length:=by omega
  have hx:=ha.get hlt
  have hbd:=E0 (hb.drop i)
  have hdt:(b.drop i).tail=b.drop (i+1):=by rw[List.tail_drop]
  rw[show a.drop i=a[i]::a.drop (i+1) from List.drop_eq_getElem_cons hlt,GL,hdt]
  have h1:=ih (i+1) (out++[if a[i]<(b.drop i).headD 0+c then a[i]+4294967296-((b.drop i).headD 0+c) else a[i]-((b.drop i).headD 0+c)]) (if a[i]<(b.drop i).headD 0+c then 1 else 0) (by omega) (by omega) (by split<;>omega) (by simp;omega)
  rw[List.append_assoc,List.length_append,List.length_singleton]at h1
  refine K.lp' RI _ rfl (by kernel_rfl) ((Yj ..).trans ?_)
  refine(Aq (by omega)).trans ?_
  rw[AN,AO (List.getElem?_eq_getElem hlt)]
  have hf:Bu (out.length+1) 4=true:=A4 (by omega) (by omega)
  have hb1:Nat.ble (0+out.length*1) (Av eL out).length=true:=Bg A3 out (by omega)
  have e3:∀ s:Nat,List.drop 0 (List.take (0+out.length*1) (Av eL out))++[.v (.int .u32 (s:Int))]=Av eL (out++[s]):=fun s=>by
   rw[List.drop_zero,Bl A3 out (by omega)]
   exact Bm eL out s
  simp only[eL,We,ND,Ab,Ax]
  rw[Bn (by omega)]
  by_cases hib:i<b.length
  .have hd:(b.drop i).headD 0=b[i]:=by rw[List.drop_eq_getElem_cons hib];rfl
   rw[hd]at h1 hbd
   rw[hd]
   refine(Aq (by omega)).trans ?_
   rw[AN,AO (List.getElem?_eq_getElem hib)]
   simp only[eL,We,ND,Ab]
   rw[B1 (show a[i]<_ by omega),B1 (show b[i]<_ by omega),C3 (by omega)]
   by_cases hlt2:a[i]<b[i]+c
   .refine(Aq (by omega)).trans ?_
    rw[if_pos hlt2,if_pos hlt2]at h1
    rw[if_pos hlt2,if_pos hlt2]
    rw[show (4294967296:Int)=((4294967296:Nat):Int) from rfl,C3 (by omega),show c+b[i]=b[i]+c by omega,GG (by omega) (by omega),BH (by omega),hf,hb1,e3]
    refine(Az _ _).trans ?_
    refine(Az _ _).trans ?_
    refine(Aa h1 _).trans ?_
    rfl
   .refine(Ap (by omega)).trans ?_
    rw[if_neg hlt2,if_neg hlt2]at h1
    rw[if_neg hlt2,if_neg hlt2]
    rw[show c+b[i]=b[i]+c by omega,GG (by omega) (by omega),BH (by omega),hf,hb1,e3]
    refine(Az _ _).trans ?_
    refine(Az _ _).trans ?_
    refine(Aa h1 _).trans ?_
    rfl
  .have hd:(b.drop i).headD 0=0:=by rw[List.drop_eq_nil_of_le (by omega)];rfl
   rw[hd]at h1
   rw[hd]
   refine(Ap (by omega)).trans ?_
   rw[B1 (show a[i]<_ by omega)]
   rw[Nat.zero_add]at h1
   simp only[show (0:Nat)+c=c by omega]
   by_cases hlt2:a[i]<c
   .refine(Aq (by omega)).trans ?_
    rw[if_pos hlt2,if_pos hlt2]at h1
    rw[if_pos hlt2,if_pos hlt2]
    rw[show (4294967296:Int)=((4294967296:Nat):Int) from rfl,C3 (by omega),GG (by omega) (by omega),BH (by omega),hf,hb1,e3]
    refine(Az _ _).trans ?_
    refine(Az _ _).trans ?_
    refine(Aa h1 _).trans ?_
    rfl
   .refine(Ap (by omega)).trans ?_
    rw[if_neg hlt2,if_neg hlt2]at h1
    rw[if_neg hlt2,if_neg hlt2]
    rw[GG (by omega) (by omega),BH (by omega),hf,hb1,e3]
    refine(Az _ _).trans ?_
    refine(Az _ _).trans ?_
    refine(Aa h1 _).trans ?_
    rfl
def MR(x y:Nat):AV:=if y<=x then .tup [eN (AZ (x-y)),bv true] else .tup [eN [],bv false]
theorem XO{a b:List Nat}(hsa:CB a)(ha:Limbs a)(hsb:CB b)(hb:Limbs b):D.ask (.fn 150) [eN a,eN b] []=some (MR (Ai a) (Ai b),[]):=by
 have s1:=GD ha hsa
 have s2:=GD hb hsb
 refine K.fn' RI _ rfl ((AlH ..).trans ?_)
 refine(Aa (EK K hsa ha) _).trans ?_
 simp only[eN,ND,Ab]
 refine(Aa (EK K hsb hb) _).trans ?_
 simp only[eN,ND,Ab,Ax]
 have gc:=S7 K s1 (AL _) s2 (AL _)
 rw[AY,AY]at gc
 refine(Aa gc _).trans ?_
 simp only[ND,Ab]
 generalize Ai a=x at *
 generalize Ai b=y at *
 unfold MR
 unfold CB at s1 s2
 by_cases h1:x<y
 .rw[show Dv x y=-1 by unfold Dv;rw[if_pos h1]]
  refine(Aq (by decide)).trans ?_
  rw[if_neg (by omega)]
  rfl
 .refine(Ap (by unfold Dv;rw[if_neg h1];split<;>omega)).trans ?_
  rw[if_pos (by omega)]
  have hle:(AZ y).length<=(AZ x).length:=by
   by_cases h:(AZ x).length<(AZ y).length
   .have:=MM h;omega
   .omega
  rw[A4 (n:=(AZ x).length) (b:=4) (by omega) (by omega)]
  refine(Az _ _).trans ?_
  have g:=AfC K (AZ y) (AL y) (AZ x) (AL x) s1 (AZ x).length 0 [] 0 (by omega) (by omega) (by omega) (by simp;omega)
  refine(Aa g _).trans ?_
  simp only[ND,Ab,List.drop_zero,List.nil_append]
  rw[Bg A3 _ (by omega)]
  refine(Az _ _).trans ?_
  rw[C5 A3 _ rfl]
  have gt:=Gk K C (l:=GL 0 (AZ x) (AZ y)) (by unfold CB;rw[J5];exact s1) (GM _ _ _ (AL _) (AL _) (by omega))
  rw[SW (AL _) (AL _) hle (by rw[AY,AY];omega),AY,AY]at gt
  refine(Aa gt _).trans ?_
  rfl
end
end Go.Proofs.YtlmhajfbpplpoaaGreat
namespace Go.Proofs.YtlmhajfbpplpoaaGreat
open Go.RowKit
def eC(n:Nat):AV:=.v (.int .u32 (n:Int))
theorem GJ:∀ l:List Nat,Av eL l=l.map eC
 |[]=>rfl
 |x::r=>by
  have ih:=GJ r
  unfold Av at ih ⊢
  rw[List.flatMap_cons,ih]
  rfl
theorem Pu(l:List Nat)(i v:Nat)(h:i<l.length):Ba (Av eL l) (0+i*1) [.v (.int .u32 (v:Int))]=Av eL (l.set i v):=by
 rw[GJ,GJ,List.set_eq_take_append_cons_drop,if_pos h]
 unfold Ba
 simp only[Nat.zero_add,Nat.mul_one,List.map_append,List.map_cons,List.map_take,List.map_drop,List.length_singleton]
 rw[List.append_assoc]
 rfl
theorem ZY(l:List Nat)(i:Nat)(h:i<l.length)(k:List AV->KR):IA (Av eL l) (0+i*1) 1 k=k [.v (.int .u32 (l[i]:Int))]:=by
 have hx:(Av eL l)[i]? = some (.v (.int .u32 (l[i]:Int))):=by
  rw[GJ,List.getElem?_map,List.getElem?_eq_getElem h]
  rfl
 obtain⟨hl,hx⟩:=List.getElem?_eq_some_iff.1 hx
 unfold IA
 have:Nat.ble (0+i*1+1) (Av eL l).length=true:=by simp;omega
 rw[this]
 simp only[Nat.zero_add,Nat.mul_one]
 rw[List.drop_eq_getElem_cons hl,hx]
 rfl
theorem AaQ(n:Nat):Cq [.v (.int .u32 0)] (n*1)=Av eL (List.replicate n 0):=by
 rw[GJ,Nat.mul_one]
 unfold Cq
 rw[List.map_replicate]
 refine List.ext_getElem (by simp) fun i h1 h2=>?_
 simp[Nat.mod_one,eC]
theorem O9:∀(x:Nat) (b o:List Nat) (c:Nat),(Ns x c b o).drop (b.length+1)=o.drop (b.length+1)
 |x,[],o,c=>by
  rw[Ns]
  cases o<;>simp
 |x,y::b,o,c=>by
  rw[Ns,List.length_cons,List.drop_succ_cons,O9 x b o.tail]
  cases o with
  |nil=>simp
  |cons z o=>rfl
def G7(j:Nat)(l:List Nat):Prop:=∀ y∈l.drop j,y=0
theorem XG{j:Nat}{l:List Nat}(h:G7 j l):(l.drop j).headD 0=0:=by
 unfold G7 at h
 cases e:l.drop j with
 |nil=>rfl
 |cons z r=>
  rw[e]at h
  exact h z (List.mem_cons_self ..)
theorem BD{a b:Nat}(h:a<b):Nat.blt a b=true:=by simpa using h
section
variable {D:Orc} (K:Knows As J6 D)
include K
theorem W8(a b:List Nat)(hb:Limbs b)(i:Nat)(hi:i<a.length)(hsz:a.length+b.length<=1000000000)(x:Nat)(hx:x<4294967296):∀(m k:Nat) (out:List Nat) (c:Nat),b.length-k=m->k<=b.length->Limbs out->c<4294967296->out.length=a.length+b.length->
  ∃(o:List Nat) (c':Nat),D.ask (.lp 282 1) [eN b,.sl 0 0 out.length 1,iv (i:Int),.v (.int .u32 (x:Int)),.v (.int .u64 (c:Int)),eN a,iv (a.length:Int),iv (i:Int),eN b,iv (b.length:Int),iv (k:Int)] [ABlk.mk (Av eL out) true true]
   = some (.tup [iv 2,eN b,.sl 1 0 out.length 1,iv (i:Int),.v (.int .u64 (c':Int)),eN a,iv (a.length:Int),iv (i:Int)],[.del,.set (ABlk.mk (Av eL o) true true)])
   ∧ c'<4294967296/\Limbs o/\o.length=out.length/\o.set (i+b.length) c'=out.take (i+k)++Ns x c (b.drop k) (out.drop (i+k)):=by
 intro m
 induction m with
 |zero=>
  intro k out c hm hk ho hc hlen
  obtain rfl:k=b.length:=by omega
  refine⟨out,c,?_,hc,ho,rfl,?_⟩
  .refine K.lp' Lx _ rfl (by kernel_rfl) ((YH ..).trans ?_)
   refine(Ap (by omega)).trans ?_
   rfl
  .rw[List.drop_length,Ns,List.set_eq_take_append_cons_drop,if_pos (by omega),List.tail_drop]
 |succ m ih=>
  intro k out c hm hk ho hc hlen
  have hlt:k<b.length:=by omega
  have hik:i+k<out.length:=by omega
  have hy:=hb.get hlt
  have hz:=ho.get hik
  have hp:=Nu hx hy
  have hd:(out.drop (i+k)).headD 0=out[i+k]:=by rw[List.drop_eq_getElem_cons hik];rfl
  obtain⟨o,c',h1,h2,h3,h4,h5⟩:=ih (k+1) (out.set (i+k) ((x*b[k]+out[i+k]+c) % 4294967296)) ((x*b[k]+out[i+k]+c) / 4294967296) (by omega) (by omega)
   (fun z hz'=>by
    rcases List.mem_or_eq_of_mem_set hz' with h|h
    .exact ho z h
    .rw[h];exact Nat.mod_lt _ (by omega)) (by omega) (by rw[List.length_set];exact hlen)
  rw[List.length_set]at h1 h4
  refine⟨o,c',?_,h2,h3,h4,?_⟩
  .refine K.lp' Lx _ rfl (by kernel_rfl) ((YH ..).trans ?_)
   refine(Aq (by omega)).trans ?_
   rw[AN,AO (List.getElem?_eq_getElem hlt)]
   simp only[eL,Fe,ND,Ab]
   rw[AfE (by omega),AN,BD hik]
   refine(Az _ _).trans ?_
   refine(ZY out _ hik _).trans ?_
   simp only[Fe,ND,Ab]
   rw[AN,BD hik]
   refine(Az _ _).trans ?_
   rw[show Nat.ble (0+(i+k)*1+1) (Av eL out).length=true by rw[By A3];simp;omega]
   refine(Az _ _).trans ?_
   refine(Ap (by decide)).trans ?_
   rw[B1 (show x<_ by omega),B1 (show b[k]<_ by omega),B1 (show out[i+k]<_ by omega),QB (by omega),C3 (by omega),C3 (by omega),E8,JU,Pu _ _ _ hik,Bn (by omega)]
   refine(Aa h1 _).trans ?_
   rfl
  .rw[h5,List.drop_eq_getElem_cons hlt,Ns,hd]
   have e1:List.take (i+(k+1)) (out.set (i+k) ((x*b[k]+out[i+k]+c) % 4294967296))=out.take (i+k)++[(x*b[k]+out[i+k]+c) % 4294967296]:=by
    rw[show i+(k+1)=i+k+1 by omega,List.take_succ_eq_append_getElem (by rw[List.length_set];exact hik),List.getElem_set_self,List.take_set_of_le (Nat.le_refl _)]
   have e2:List.drop (i+(k+1)) (out.set (i+k) ((x*b[k]+out[i+k]+c) % 4294967296))=(out.drop (i+k)).tail:=by
    rw[List.drop_set_of_lt (by omega),List.tail_drop]
    rfl
   rw[e1,e2,List.append_assoc]
   rfl
theorem Xa(a b:List Nat)(ha:Limbs a)(hb:Limbs b)(hsz:a.length+b.length<=1000000000):∀(m i:Nat) (out:List Nat),a.length-i=m->i<=a.length->Limbs out->out.length=a.length+b.length->G7 (i+b.length) out->
  ∃ o:List Nat,D.ask (.lp 282 0) [eN b,.sl 0 0 out.length 1,eN a,iv (a.length:Int),iv (i:Int)] [ABlk.mk (Av eL out) true true]=some (.tup [iv 0,.sl 1 0 o.length 1],[.del,.set (ABlk.mk (Av eL o) true true)])
   ∧ Limbs o/\o.length=out.length/\Ai o=Ai out+4294967296 ^ i*Ai (a.drop i)*Ai b:=by
 intro m
 induction m with
 |zero=>
  intro i out hm hi ho hlen hz
  refine⟨out,?_,ho,rfl,?_⟩
  .refine K.lp' Lx _ rfl (by kernel_rfl) ((YG ..).trans ?_)
   refine(Ap (by omega)).trans ?_
   rfl
  .rw[show a.drop i=[] from List.drop_eq_nil_of_le (by omega)]
   simp[Ai]
 |succ m ih=>
  intro i out hm hi ho hlen hz
  have hlt:i<a.length:=by omega
  have hx:=ha.get hlt
  obtain⟨o,c',g1,g2,g3,g4,g5⟩:=W8 K a b hb i hlt hsz a[i] hx b.length 0 out 0 (by omega) (by omega) ho (by omega) hlen
  rw[Nat.add_zero,List.drop_zero]at g5
  have hdl:(out.drop i).length=a.length+b.length-i:=by rw[List.length_drop];omega
  have hlm:Limbs (o.set (i+b.length) c'):=by
   rw[g5]
   exact OZ (ho.take i) (Nt _ _ _ _ hx hb (ho.drop i) (by omega))
  have hhead:((out.drop i).drop b.length).headD 0=0:=by
   rw[List.drop_drop]
   exact XG hz
  have hv:Ai (o.set (i+b.length) c')=Ai out+4294967296 ^ i*(a[i]*Ai b):=by
   rw[g5,Fc,PH _ _ _ _ hhead]
   have e:Ai out=Ai (out.take i)+4294967296 ^ i*Ai (out.drop i):=by
    have:=Fc (out.take i) (out.drop i)
    rw[List.take_append_drop,List.length_take,Nat.min_eq_left (by omega)]at this
    exact this
   rw[e,List.length_take,Nat.min_eq_left (by omega),Nat.add_zero,Nat.mul_add]
   omega
  have hz2:G7 (i+1+b.length) (o.set (i+b.length) c'):=by
   unfold G7
   rw[g5,List.drop_append,List.drop_eq_nil_of_le (by rw[List.length_take];omega),List.nil_append,List.length_take,Nat.min_eq_left (by omega),show i+1+b.length-i=b.length+1 by omega,O9,List.drop_drop]
   intro y hy
   exact hz y (by
    have:List.drop (i+(b.length+1)) out=List.drop 1 (List.drop (i+b.length) out):=by rw[List.drop_drop];rfl
    rw[this]at hy
    exact List.mem_of_mem_drop hy)
  obtain⟨o2,k1,k2,k3,k4⟩:=ih (i+1) (o.set (i+b.length) c') (by omega) (by omega) hlm (by rw[List.length_set,g4,hlen]) hz2
  rw[List.length_set,g4]at k1 k3
  refine⟨o2,?_,k2,k3,?_⟩
  .refine K.lp' Lx _ rfl (by kernel_rfl) ((YG ..).trans ?_)
   refine(Aq (by omega)).trans ?_
   rw[AN,AO (List.getElem?_eq_getElem hlt)]
   simp only[eL,Fe,Ax,ND,Ab]
   refine(Aa g1 _).trans ?_
   simp only[eN,Fe,Ax,ND,Ab]
   rw[AfE (by omega),AN,BD (by omega)]
   refine(Az _ _).trans ?_
   rw[show Nat.ble (0+(i+b.length)*1+1) (Av eL o).length=true by rw[By A3];simp;omega]
   refine(Az _ _).trans ?_
   rw[BH g2,Pu _ _ _ (by omega),Bn (by omega)]
   refine(Aa k1 _).trans ?_
   rfl
  .rw[k4,hv,List.drop_eq_getElem_cons hlt,Ai,Nat.pow_succ]
   have e1:4294967296 ^ i*(a[i]+4294967296*Ai (List.drop (i+1) a))*Ai b=4294967296 ^ i*(a[i]*Ai b)+4294967296 ^ i*4294967296*Ai (List.drop (i+1) a)*Ai b:=by
    rw[Nat.mul_add,Nat.add_mul,Nat.mul_assoc _ a[i],Nat.mul_assoc (4294967296 ^ i) 4294967296]
   rw[e1]
   omega
variable (C:CloneF D)
include C
theorem Xb{a b:List Nat}(ha:Limbs a)(hb:Limbs b)(hsz:a.length+b.length<=1000000000):D.ask (.fn 282) [eN a,eN b] []=some (eN (AZ (Ai a*Ai b)),[]):=by
 obtain⟨o,k1,k2,k3,k4⟩:=Xa K a b ha hb hsz a.length 0 (List.replicate (a.length+b.length) 0) (by omega) (by omega) (fun x hx=>by rw[(List.mem_replicate.1 hx).2];omega) (by simp) (fun y hy=>(List.mem_replicate.1 (List.mem_of_mem_drop hy)).2)
 rw[List.length_replicate]at k1 k3
 have hz:∀ n,Ai (List.replicate n 0)=0:=fun n=>by
  induction n with
  |zero=>rfl
  |succ n ih=>rw[List.replicate_succ,Ai,ih]
 rw[hz,List.drop_zero,Nat.pow_zero,Nat.one_mul,Nat.zero_add]at k4
 refine K.fn' Lx _ rfl ((Amt ..).trans ?_)
 rw[Ax,Ax,AfE (by omega)]
 simp only[AN]
 rw[show Nat.ble (a.length+b.length) (a.length+b.length)=true by simp,A4 (n:=a.length+b.length) (b:=4) (by omega) (by omega),AaQ]
 refine(Az _ _).trans ?_
 refine(Az _ _).trans ?_
 refine(Aa k1 _).trans ?_
 simp only[ND,Ab]
 rw[Bg A3 _ (by omega)]
 refine(Az _ _).trans ?_
 rw[C5 A3 _ rfl]
 have gt:=Gk K C (l:=o) (by unfold CB;omega) k2
 rw[k4]at gt
 refine(Aa gt _).trans ?_
 rfl
theorem AfA{a b:List Nat}(hsa:a.length<=400000000)(ha:Limbs a)(hsb:b.length<=400000000)(hb:Limbs b)(h24:a.length<24\/b.length<24):D.ask (.fn 275) [eN a,eN b] []=some (eN (AZ (Ai a*Ai b)),[]):=by
 have t1:(AZ (Ai a)).length<=a.length:=by rw[Hm a ha];exact DY a
 have t2:(AZ (Ai b)).length<=b.length:=by rw[Hm b hb];exact DY b
 refine K.fn' Aet _ rfl ((Ams ..).trans ?_)
 refine(Aa (EK K (by unfold CB;omega) ha) _).trans ?_
 simp only[eN,ND,Ab]
 refine(Aa (EK K (by unfold CB;omega) hb) _).trans ?_
 simp only[eN,ND,Ab,Ax]
 have g:=Xb K C (AL (Ai a)) (AL (Ai b)) (by omega)
 rw[AY,AY]at g
 by_cases h1:(AZ (Ai a)).length<24
 .refine(Aq (by omega)).trans ?_
  refine(Aa g _).trans ?_
  rfl
 .refine(Ap (by omega)).trans ?_
  refine(Aq (by omega)).trans ?_
  refine(Aa g _).trans ?_
  rfl
end
end Go.Proofs.YtlmhajfbpplpoaaGreat
namespace Go.Proofs.YtlmhajfbpplpoaaGreat
open Go.RowKit
section
variable {D:Orc} (K:Knows As J6 D) (Z:Knows As PC D) (C:CloneF D)
include K Z C
theorem Fk(neg:Bool){a:List Nat}(ha:Limbs a)(hs:CB a):D.ask (.fn 145) [bv neg,eN a] []=some (.agg (eZ (AS (D3 neg (Ai a)))),[]):=by
 refine Z.fn' AdZ _ rfl ((AlB ..).trans ?_)
 refine(Aa (Gk K C hs ha) _).trans ?_
 simp only[eN,ND,Ab,Ax]
 rw[VP]
 unfold eZ eN
 cases neg with
 |false=>rfl
 |true=>
  refine(Az _ _).trans ?_
  refine(Az _ _).trans ?_
  refine(Az _ _).trans ?_
  have hp:=@EG (Ai a)
  by_cases h:0<Ai a
  .refine(Aq (by have:=hp.2 h;omega)).trans ?_
   rw[decide_eq_true h]
   rfl
  .refine(Ap (by intro e;exact h (hp.1 (by omega)))).trans ?_
   rw[decide_eq_false h]
   rfl
theorem X2{z:Zi}(hz:Lz 1000000000 z):D.ask (.fn 209) [.agg (eZ z)] []=some (.agg (eZ (AS (zv z))),[]):=by
 refine Z.fn' Aej _ rfl ((Ama ..).trans ?_)
 refine(Aa (Fk K Z C z.neg hz.lim hz.len) _).trans ?_
 rfl
theorem Ads{z:Zi}(hz:Lz 1000000000 z):D.ask (.fn 86) [.agg (eZ z)] []=some (.agg (eZ (AS (-zv z))),[]):=by
 have e:-zv z=D3 (!z.neg) (Ai z.abs):=by
  unfold zv D3
  cases z.neg<;>simp
 rw[e]
 refine Z.fn' Aio _ rfl ((e86 ..).trans ?_)
 rw[ZV]
 have g:=fun b=>Fk K Z C b hz.lim hz.len
 cases z.neg with
 |false=>
  refine(Az _ _).trans ?_
  refine(Aa (g true) _).trans ?_
  rfl
 |true=>
  refine(CM _ _).trans ?_
  refine(Aa (g false) _).trans ?_
  rfl
theorem Ob{z:Zi}(hz:Lz 1000000000 z):D.ask (.fn 158) [.agg (eZ z)] []=some (iv (CD (zv z)),[]):=by
 refine Z.fn' Ad7 _ rfl ((AlN ..).trans ?_)
 refine(Aa (X2 K Z C hz) _).trans ?_
 simp only[eZ,eN,ND,Ab,Ax]
 unfold AS CD
 by_cases h:zv z<0
 .rw[if_pos h,decide_eq_true h]
  rfl
 .rw[if_neg h,decide_eq_false h]
  refine(CM _ _).trans ?_
  have hp:=@EG (zv z).natAbs
  by_cases h2:0<zv z
  .rw[if_pos h2]
   refine(Aq (by have:=hp.2 (by omega);dsimp only;omega)).trans ?_
   rfl
  .rw[if_neg h2]
   refine(Ap (by dsimp only;intro e;have:=hp.1 (by omega);omega)).trans ?_
   rfl
theorem AhD(n:Int)(h1:-9223372036854775808<=n)(h2:n<9223372036854775808):D.ask (.fn 84) [iv n] []=some (.agg (eZ (AS n)),[]):=by
 refine Z.fn' Aim _ rfl ((e84 ..).trans ?_)
 have hl:∀ m:Nat,m<18446744073709551616->(AZ m).length<=2:=fun m h=>BE (by omega)
 by_cases h:n<0
 .refine(Aq h).trans ?_
  have e1:Ao.add .i64 n 1=n+1:=GW (by omega) (by omega)
  have e2:Ao.sub .i64 0 (n+1)=((n.natAbs-1:Nat):Int):=by rw[F6 (by omega) (by omega)];omega
  rw[e1,e2,B1 (by omega),show (1:Int)=((1:Nat):Int) from rfl,C3 (by omega),show n.natAbs-1+1=n.natAbs by omega]
  refine(Aa (Adu K C n.natAbs (by omega)) _).trans ?_
  simp only[eN,ND,Ab]
  have g:=Fk K Z C true (AL n.natAbs) (by unfold CB;have:=hl n.natAbs (by omega);omega)
  rw[AY,show D3 true n.natAbs=n by unfold D3;rw[if_pos rfl];omega]at g
  refine(Aa g _).trans ?_
  rfl
 .refine(Ap h).trans ?_
  obtain⟨m,rfl⟩:=Int.eq_ofNat_of_zero_le (show 0<=n by omega)
  rw[B1 (by omega)]
  refine(Aa (Adu K C m (by omega)) _).trans ?_
  simp only[eN,ND,Ab]
  have g:=Fk K Z C false (AL m) (by unfold CB;have:=hl m (by omega);omega)
  rw[AY,show D3 false m=(m:Int) from rfl]at g
  refine(Aa g _).trans ?_
  rfl
theorem Adq{a b:Zi}(ha:Lz 1000000000 a)(hb:Lz 1000000000 b):D.ask (.fn 285) [.agg (eZ a),.agg (eZ b)] []=some (iv (IZ (zv a) (zv b)),[]):=by
 refine Z.fn' Aeu _ rfl ((Amu ..).trans ?_)
 refine(Aa (Ob K Z C ha) _).trans ?_
 simp only[ND,Ab]
 refine(Aa (Ob K Z C hb) _).trans ?_
 simp only[ND,Ab]
 have g1:=S7 K (a:=b.abs) (b:=a.abs) hb.len hb.lim ha.len ha.lim
 have g2:=S7 K (a:=a.abs) (b:=b.abs) ha.len ha.lim hb.len hb.lim
 have na:=AaR a
 have nb:=AaR b
 have za:=VQ a
 have zb:=VQ b
 have va:zv a=D3 a.neg (Ai a.abs):=rfl
 have vb:zv b=D3 b.neg (Ai b.abs):=rfl
 unfold CD
 by_cases h1:zv a<0
 .rw[if_pos h1]
  rw[D3,if_pos (na.1 h1).1]at va
  by_cases h2:zv b<0
  .rw[if_pos h2]
   rw[D3,if_pos (nb.1 h2).1]at vb
   refine(Ap (by decide)).trans ?_
   refine(Ap (by decide)).trans ?_
   refine(Aq (by decide)).trans ?_
   refine(Aa g1 _).trans ?_
   rw[show IZ (zv a) (zv b)=Dv (Ai b.abs) (Ai a.abs) by
    unfold IZ Dv
    rw[va,vb]
    by_cases h3:Ai b.abs<Ai a.abs
    .rw[if_pos (by omega),if_pos h3]
    .rw[if_neg (by omega),if_neg h3]
     by_cases h4:Ai a.abs<Ai b.abs
     .rw[if_pos (by omega),if_pos h4]
     .rw[if_neg (by omega),if_neg h4]]
   rfl
  .rw[if_neg h2]
   rw[show IZ (zv a) (zv b)=-1 by unfold IZ;rw[if_pos (by omega)]]
   by_cases h3:0<zv b
   .rw[if_pos h3];rfl
   .rw[if_neg h3];rfl
 .rw[if_neg h1]
  by_cases h2:zv b<0
  .rw[if_pos h2]
   rw[show IZ (zv a) (zv b)=1 by unfold IZ;rw[if_neg (by omega),if_pos (by omega)]]
   by_cases h3:0<zv a
   .rw[if_pos h3];rfl
   .rw[if_neg h3];rfl
  .rw[if_neg h2]
   have ea:zv a=(Ai a.abs:Int):=by
    by_cases h:0<Ai a.abs
    .rw[va,D3,if_neg (fun e=>h1 (na.2 ⟨e,h⟩))]
    .rw[za.2 (by omega)];omega
   have eb:zv b=(Ai b.abs:Int):=by
    by_cases h:0<Ai b.abs
    .rw[vb,D3,if_neg (fun e=>h2 (nb.2 ⟨e,h⟩))]
    .rw[zb.2 (by omega)];omega
   have ec:IZ (zv a) (zv b)=Dv (Ai a.abs) (Ai b.abs):=by
    unfold IZ Dv
    rw[ea,eb]
    by_cases h3:Ai a.abs<Ai b.abs
    .rw[if_pos (by omega),if_pos h3]
    .rw[if_neg (by omega),if_neg h3]
     by_cases h4:Ai b.abs<Ai a.abs
     .rw[if_pos (by omega),if_pos h4]
     .rw[if_neg (by omega),if_neg h4]
   rw[ec]
   by_cases h3:0<zv a
   .rw[if_pos h3]
    by_cases h4:0<zv b
    .rw[if_pos h4]
     refine(Ap (by decide)).trans ?_
     refine(Ap (by decide)).trans ?_
     refine(Ap (by decide)).trans ?_
     refine(Aa g2 _).trans ?_
     rfl
    .rw[if_neg h4]
     refine(Ap (by decide)).trans ?_
     refine(Aq (by decide)).trans ?_
     rw[show Dv (Ai a.abs) (Ai b.abs)=1 by unfold Dv;rw[if_neg (by omega),if_pos (by omega)]]
   .rw[if_neg h3]
    by_cases h4:0<zv b
    .rw[if_pos h4]
     refine(Aq (by decide)).trans ?_
     rw[show Dv (Ai a.abs) (Ai b.abs)=-1 by unfold Dv;rw[if_pos (by omega)]]
    .rw[if_neg h4]
     refine(Ap (by decide)).trans ?_
     refine(Ap (by decide)).trans ?_
     refine(Ap (by decide)).trans ?_
     refine(Aa g2 _).trans ?_
     rfl
theorem Adp{k:Nat}(hk:k<=900000000){a b:Zi}(ha:Lz k a)(hb:Lz k b):D.ask (.fn 87) [.agg (eZ a),.agg (eZ b)] []=some (.agg (eZ (AS (zv a+zv b))),[]):=by
 have la:=ha.len
 have lb:=hb.len
 refine Z.fn' Aip _ rfl ((e87 ..).trans ?_)
 have hfr:∀(neg:Bool) (n:Nat),n<4294967296 ^ (k+1)->D.ask (.fn 145) [bv neg,eN (AZ n)] []=some (.agg (eZ (AS (D3 neg n))),[]):=fun neg n h=>by
  have:=Fk K Z C neg (AL n) (by unfold CB;have:=BE h;omega)
  rwa [AY]at this
 have ba:=CQ ha.lim
 have bb:=CQ hb.lim
 have pa:4294967296 ^ a.abs.length<=4294967296 ^ k:=Nat.pow_le_pow_right (by omega) la
 have pb:4294967296 ^ b.abs.length<=4294967296 ^ k:=Nat.pow_le_pow_right (by omega) lb
 have ps:4294967296 ^ (k+1)=4294967296 ^ k*4294967296:=Nat.pow_succ ..
 by_cases h:a.neg=b.neg
 .rw[Vy,show (a.neg == b.neg)=true by simpa using h]
  refine(Az _ _).trans ?_
  refine(Aa (Afx K C (by omega) ha.lim (by omega) hb.lim) _).trans ?_
  simp only[eN,ND,Ab]
  refine(Aa (hfr a.neg (Ai a.abs+Ai b.abs) (by omega)) _).trans ?_
  rw[show D3 a.neg (Ai a.abs+Ai b.abs)=zv a+zv b by
   unfold zv
   rw[←h]
   unfold D3
   split<;>omega]
  rfl
 .rw[Vy,show (a.neg == b.neg)=false by simpa using h]
  refine(CM _ _).trans ?_
  have hop:zv a+zv b=D3 a.neg (Ai a.abs)+D3 (!a.neg) (Ai b.abs):=by
   unfold zv
   have:b.neg = !a.neg:=by
    revert h
    cases a.neg<;>cases b.neg<;>simp
   rw[this]
  have g1:=XO K C (a:=a.abs) (b:=b.abs) (by unfold CB;omega) ha.lim (by unfold CB;omega) hb.lim
  have g2:=XO K C (a:=b.abs) (b:=a.abs) (by unfold CB;omega) hb.lim (by unfold CB;omega) ha.lim
  unfold MR at g1 g2
  refine(Aa g1 _).trans ?_
  by_cases hle:Ai b.abs<=Ai a.abs
  .rw[if_pos hle]
   simp only[eN,ND,Ab]
   refine(Aa (hfr a.neg (Ai a.abs-Ai b.abs) (by omega)) _).trans ?_
   rw[show D3 a.neg (Ai a.abs-Ai b.abs)=zv a+zv b by
    rw[hop]
    unfold D3
    cases a.neg<;>simp<;>omega]
   rfl
  .rw[if_neg hle]
   rw[if_pos (by omega)]at g2
   simp only[eN,ND,Ab]
   refine(Aa g2 _).trans ?_
   simp only[eN,ND,Ab]
   refine(Aa (hfr b.neg (Ai b.abs-Ai a.abs) (by omega)) _).trans ?_
   rw[show D3 b.neg (Ai b.abs-Ai a.abs)=zv a+zv b by
    rw[hop]
    have:b.neg = !a.neg:=by
     revert h
     cases a.neg<;>cases b.neg<;>simp
    rw[this]
    unfold D3
    cases a.neg<;>simp<;>omega]
   rfl
theorem Adr{k m:Nat}(hk:k<=400000000)(hkm:m<=400000000){a b:Zi}(ha:Lz k a)(hb:Lz m b)(h24:a.abs.length<24\/b.abs.length<24):D.ask (.fn 264) [.agg (eZ a),.agg (eZ b)] []=some (.agg (eZ (AS (zv a*zv b))),[]):=by
 have la:=ha.len
 have lb:=hb.len
 refine Z.fn' Aes _ rfl ((Amq ..).trans ?_)
 have hm:InB (k+m) (zv a*zv b):=ha.inb.mul hb.inb
 have hab:(zv a*zv b).natAbs=Ai a.abs*Ai b.abs:=by
  have f:∀ z:Zi,(zv z).natAbs=Ai z.abs:=fun z=>by
   unfold zv D3
   split
   .rw[Int.natAbs_neg];rfl
   .rfl
  rw[Int.natAbs_mul,f,f]
 unfold InB at hm
 rw[hab]at hm
 have hl:=BE hm
 have hfr:∀(neg:Bool),D.ask (.fn 145) [bv neg,eN (AZ (Ai a.abs*Ai b.abs))] []=some (.agg (eZ (AS (D3 neg (Ai a.abs*Ai b.abs)))),[]):=fun neg=>by
  have:=Fk K Z C neg (AL (Ai a.abs*Ai b.abs)) (by unfold CB;omega)
  rwa [AY]at this
 have g:=AfA K C (by omega) ha.lim (by omega) hb.lim h24
 have hs:D3 (a.neg != b.neg) (Ai a.abs*Ai b.abs)=zv a*zv b:=by
  unfold zv D3
  cases a.neg<;>cases b.neg<;>simp[Int.mul_neg,Int.neg_mul]
 rw[ZV,Vy]
 by_cases h:a.neg=b.neg
 .rw[show (!(a.neg == b.neg))=false by simp[h]]
  rw[show (a.neg != b.neg)=false by simp[h]]at hs
  refine(CM _ _).trans ?_
  refine(Aa g _).trans ?_
  simp only[eN,ND,Ab]
  refine(Aa (hfr false) _).trans ?_
  rw[hs]
  rfl
 .rw[show (!(a.neg == b.neg))=true by simp[h]]
  rw[show (a.neg != b.neg)=true by simp[h]]at hs
  refine(Az _ _).trans ?_
  refine(Aa g _).trans ?_
  simp only[eN,ND,Ab]
  refine(Aa (hfr true) _).trans ?_
  rw[hs]
  rfl
end
end Go.Proofs.YtlmhajfbpplpoaaGreat
namespace Go.Proofs.YtlmhajfbpplpoaaGreat
open Go.RowKit
def GA(c:UInt8):Bool:=decide (48<=c.toNat)&&decide (c.toNat<=57)
theorem Yc{c:UInt8}(h:GA c=true):c.toNat-48<=9:=by
 have h2:=(Bool.and_eq_true_iff.1 h)
 have h4:=of_decide_eq_true h2.2
 omega
theorem AhV{c:UInt8}(h:GA c=true):48<=c.toNat/\c.toNat<=57:=by
 have h2:=(Bool.and_eq_true_iff.1 h)
 exact⟨of_decide_eq_true h2.1,of_decide_eq_true h2.2⟩
theorem AhW{c:UInt8}(h:GA c=false):c.toNat<48\/¬ c.toNat<48/\57<c.toNat:=by
 by_cases h1:c.toNat<48
 .exact .inl h1
 .refine .inr ⟨h1,?_⟩
  by_cases h2:57<c.toNat
  .exact h2
  .unfold GA at h
   rw[decide_eq_true (by omega),decide_eq_true (by omega)]at h
   cases h
theorem Afo{c:UInt8}(h:48<=c.toNat/\c.toNat<=57):Ao.sub .u8 (c.toNat:Int) 48=((c.toNat-48:Nat):Int):=by
 show IntKind.u8.wrap ((c.toNat:Int)-48)=_
 rw[IntKind.wrap_u8]
 omega
def Y7(v:Nat)(l:List UInt8):Nat:=l.foldl (fun v c=>v*10+(c.toNat-48)) v
theorem Nc(v:Nat)(c:UInt8)(l:List UInt8):Y7 v (c::l)=Y7 (v*10+(c.toNat-48)) l:=by
 unfold Y7
 exact List.foldl_cons ..
theorem TP:∀(l:List UInt8) {v i:Nat},l.all GA=true->v<4294967296 ^ i->Y7 v l<4294967296 ^ (i+l.length)
 |[],v,i,_,hv=>hv
 |c::l,v,i,h,hv=>by
  rw[List.all_cons,Bool.and_eq_true_iff]at h
  have h1:=Yc h.1
  have:=TP l (v:=v*10+(c.toNat-48)) (i:=i+1) h.2 (by rw[Nat.pow_succ];omega)
  rw[Nc,List.length_cons,show i+(l.length+1)=i+1+l.length by omega]
  exact this
theorem DO{s:ByteArray}{i:Nat}(h:i<s.size):Ao.sat s i=((s.data.toList[i]'(by simpa using h)).toNat:Int):=by
 show (match s[i]? with|some c=>Int.ofNat c.toNat|none=>0)=_
 rw[getElem?_pos s i h]
 rfl
def ScN(q:Nat):Prop:=q=1\/q=10\/q=100\/q=1000\/q=10000\/q=100000\/q=1000000\/q=10000000\/q=100000000
theorem ScN.next{q:Nat}(h:ScN q):q=100000000\/q<100000000/\ScN (q*10):=by
 unfold ScN at *
 omega
theorem ScN.le{q:Nat}(h:ScN q):1<=q/\q<=100000000:=by
 unfold ScN at h
 omega
theorem RV(v q p d:Nat):v*(q*10)+(p*10+d)=(v*q+p)*10+d:=by
 rw[Nat.add_mul,Nat.mul_assoc]
 omega
theorem LL:∀(m c:Nat) (a:List Nat),(DS m c a).length=a.length+1
 |_,_,[]=>rfl
 |m,c,x::a=>by rw[DS,List.length_cons,LL,List.length_cons]
section
variable {D:Orc} (K:Knows As J6 D)
include K
theorem Wd{c:UInt8}(h:GA c=true):D.ask (.fn 202) [.v (.int .u8 (c.toNat:Int))] []=some (.tup [.v (.int .u32 ((c.toNat-48:Nat):Int)),bv true],[]):=by
 have h2:=(Bool.and_eq_true_iff.1 h)
 have h3:=of_decide_eq_true h2.1
 have h4:=of_decide_eq_true h2.2
 refine K.fn' Y0 _ rfl ((AhZ ..).trans ?_)
 refine(CN (by omega)).trans ?_
 refine(CN (by omega)).trans ?_
 rw[show Ao.sub .u8 (c.toNat:Int) 48=((c.toNat-48:Nat):Int) from by
  show IntKind.u8.wrap ((c.toNat:Int)-48)=_
  rw[IntKind.wrap_u8]
  omega,BH (by omega)]
theorem Yd{c:UInt8}(h:GA c=false):∃ x:Int,D.ask (.fn 202) [.v (.int .u8 (c.toNat:Int))] []=some (.tup [.v (.int .u32 x),bv false],[]):=by
 refine⟨Ao.conv .u32 (Ao.sub .u8 (c.toNat:Int) 48),K.fn' Y0 _ rfl ((AhZ ..).trans ?_)⟩
 by_cases h1:48<=c.toNat
 .refine(CN (by omega)).trans ?_
  refine(C4 ?_).trans rfl
  intro h2
  unfold GA at h
  rw[decide_eq_true h1,decide_eq_true (by omega)]at h
  cases h
 .exact(C4 (by omega)).trans rfl
theorem AbO{a:List Nat}(ha:Limbs a)(hs:a.length<=999999999)(m:Nat)(hm:m<4294967296):∀(k i:Nat) (out:List Nat) (c:Nat),a.length-i=k->i<=a.length->c<4294967296->out.length=i->
  ∃(o:List Nat) (c':Nat),D.ask (.lp 203 0) [.v (.int .u32 (m:Int)),.sl 0 0 out.length 1,.v (.int .u64 (c:Int)),eN a,iv (a.length:Int),iv (i:Int)] [ABlk.mk (Av eL out) true true]
   = some (.tup [iv 0,.sl 1 0 o.length 1,.v (.int .u64 (c':Int))],[.del,.set (ABlk.mk (Av eL o) true true)])/\c'<4294967296/\o++[c']=out++DS m c (a.drop i):=by
 intro k
 induction k with
 |zero=>
  intro i out c hi hle hc ho
  refine⟨out,c,?_,hc,?_⟩
  .refine K.lp' OU _ rfl (by kernel_rfl) ((Ys ..).trans ?_)
   refine(Ap (by omega)).trans ?_
   rfl
  .rw[show a.drop i=[] from List.drop_eq_nil_of_le (by omega)]
   rfl
 |succ k ih=>
  intro i out c hi hle hc ho
  have hlt:i<a.length:=by omega
  have hx:=ha.get hlt
  have hp:=Nu hx hm
  obtain⟨o,c',h1,h2,h3⟩:=ih (i+1) (out++[(a[i]*m+c) % 4294967296]) ((a[i]*m+c) / 4294967296) (by omega) (by omega) (by omega) (by simp;omega)
  refine⟨o,c',?_,h2,?_⟩
  .refine K.lp' OU _ rfl (by kernel_rfl) ((Ys ..).trans ?_)
   refine(Aq (by omega)).trans ?_
   rw[AN,AO (List.getElem?_eq_getElem hlt)]
   simp only[eL,Fe,ND,Ab]
   have hf:Bu (out.length+1) 4=true:=A4 (by omega) (by omega)
   have hb1:Nat.ble (0+out.length*1) (Av eL out).length=true:=Bg A3 out (by omega)
   have e3:∀ s:Nat,List.drop 0 (List.take (0+out.length*1) (Av eL out))++[.v (.int .u32 (s:Int))]=Av eL (out++[s]):=fun s=>by
    rw[List.drop_zero,Bl A3 out (by omega)]
    exact Bm eL out s
   rw[List.length_append,List.length_singleton]at h1
   rw[B1 (show a[i]<_ by omega),B1 (show m<_ by omega),QB (by omega),C3 (by omega),E8,JU,Bn (by omega),hf,hb1,e3]
   refine(Az _ _).trans ?_
   refine(Az _ _).trans ?_
   refine(Ap (by decide)).trans ?_
   refine(Aa h1 _).trans ?_
   rfl
  .rw[h3,List.drop_eq_getElem_cons hlt,DS,List.append_assoc]
   rfl
theorem US{a:List Nat}(ha:Limbs a)(hs:a.length<=999999999){m:Nat}(hm:m<4294967296){c:Nat}(hc:c<4294967296):∃ L:List Nat,D.ask (.fn 203) [eN a,.v (.int .u32 (m:Int)),.v (.int .u32 (c:Int))] []=some (eN L,[])/\Limbs L/\Ai L=Ai a*m+c/\L.length<=a.length+1:=by
 obtain⟨o,c',g,hc',ho⟩:=AbO K ha hs m hm a.length 0 [] c (by omega) (by omega) hc rfl
 rw[List.nil_append,List.drop_zero]at ho
 have hol:o.length=a.length:=by
  have:=congrArg List.length ho
  rw[List.length_append,LL]at this
  simpa using this
 have hL:=GK m a c hm ha hc
 have hV:=HY m a c
 rw[←ho]at hL hV
 by_cases h0:c'=0
 .subst h0
  refine⟨o,?_,fun x hx=>hL x (List.mem_append_left _ hx),?_,by omega⟩
  .refine K.fn' OU _ rfl ((Ah0 ..).trans ?_)
   rw[Ax,Bn (by omega),AN,A4 (by omega) (by omega)]
   refine(Az _ _).trans ?_
   rw[B1 (show c<_ by omega)]
   refine(Aa g _).trans ?_
   simp only[Fe,ND,Ab]
   refine(Ap (by omega)).trans ?_
   rw[Bg A3 o (by omega)]
   refine(Az _ _).trans ?_
   rw[Bl A3 o rfl,CW A3 o]
   rfl
  .rw[←hV,Fc]
   simp[Ai]
 .refine⟨o++[c'],?_,hL,hV,by simp;omega⟩
  refine K.fn' OU _ rfl ((Ah0 ..).trans ?_)
  rw[Ax,Bn (by omega),AN,A4 (by omega) (by omega)]
  refine(Az _ _).trans ?_
  rw[B1 (show c<_ by omega)]
  refine(Aa g _).trans ?_
  simp only[Fe,ND,Ab]
  refine(Aq (by omega)).trans ?_
  rw[BH hc']
  have e3:List.drop 0 (List.take (0+o.length*1) (Av eL o))++[.v (.int .u32 (c':Int))]=Av eL (o++[c']):=by
   rw[List.drop_zero,Bl A3 o (by omega)]
   exact Bm eL o c'
  rw[A4 (n:=o.length+1) (b:=4) (by omega) (by omega),Bg A3 o (by omega),e3,Bg A3 (o++[c']) (by simp)]
  refine(Az _ _).trans ?_
  refine(Az _ _).trans ?_
  refine(Az _ _).trans ?_
  rw[List.drop_zero,Bl A3 (o++[c']) (by simp),show BF (o.length+1) 1 (Av eL (o++[c']))=(o++[c']).map eL from by have:=CW A3 (o++[c']);rwa [List.length_append]at this]
  rfl
def AhM(x:AV)(L:List Nat):Prop:=x=eN L\/(x=.v (.slice none 0 0)/\L=[])
set_option maxHeartbeats 4000000 in
theorem WN{s:ByteArray}(hs:s.size<=4000):∀(m i:Nat) (x:AV) (L:List Nat) (p q:Nat),s.size-i=m->i<=s.size->AhM x L->Limbs L->L.length<=i->p<q->ScN q->
  ((s.data.toList.drop i).all GA=true->∃(L':List Nat) (p' q':Nat),D.ask (.lp 148 0) [sv s,x,.v (.int .u32 (p:Int)),.v (.int .u32 (q:Int)),iv (s.size:Int),iv (i:Int)] []=some (.tup [iv 1,eN L',.v (.int .u32 (p':Int)),.v (.int .u32 (q':Int))],[])
    ∧ Limbs L'/\L'.length<=s.size/\p'<q'/\ScN q'/\Ai L'*q'+p'=Y7 (Ai L*q+p) (s.data.toList.drop i))
  ∧ ((s.data.toList.drop i).all GA=false->D.ask (.lp 148 0) [sv s,x,.v (.int .u32 (p:Int)),.v (.int .u32 (q:Int)),iv (s.size:Int),iv (i:Int)] []=some (.tup [bv true,.ls [],iv 20],[])):=by
 intro m
 have hsl:s.data.toList.length=s.size:=by simp
 induction m with
 |zero=>
  intro i x L p q hm hi hx hL hLl hp hq
  have e:s.data.toList.drop i=[]:=List.drop_eq_nil_of_le (by omega)
  rw[e]
  refine⟨fun _=>⟨L,p,q,?_,hL,by omega,hp,hq,rfl⟩,fun h=>by cases h⟩
  rcases hx with rfl|⟨rfl,rfl⟩
  .refine K.lp' ED _ rfl (by kernel_rfl) ((KG ..).trans ?_)
   exact(Ap (by omega)).trans rfl
  .refine K.lp' ED _ rfl (by kernel_rfl) ((If ..).trans ?_)
   exact(Ap (by omega)).trans rfl
 |succ m ih=>
  intro i x L p q hm hi hx hL hLl hp hq
  have hlt:i<s.size:=by omega
  have hlt':i<s.data.toList.length:=by omega
  have e:s.data.toList.drop i=s.data.toList[i]::s.data.toList.drop (i+1):=List.drop_eq_getElem_cons hlt'
  rw[e,List.all_cons]
  have hq1:=hq.le
  cases hd:GA s.data.toList[i]with
  |false=>
   refine⟨fun h=>by simp at h,fun _=>?_⟩
   obtain⟨z,hz⟩:=Yd K hd
   rcases hx with rfl|⟨rfl,rfl⟩
   .refine K.lp' ED _ rfl (by kernel_rfl) ((KG ..).trans ?_)
    refine(Aq (by omega)).trans ?_
    rw[AN,Cn,BD hlt]
    refine(Az _ _).trans ?_
    rw[DO hlt]
    refine(Aa hz _).trans ?_
    simp only[Fe,ND,Ab]
    rfl
   .refine K.lp' ED _ rfl (by kernel_rfl) ((If ..).trans ?_)
    refine(Aq (by omega)).trans ?_
    rw[AN,Cn,BD hlt]
    refine(Az _ _).trans ?_
    rw[DO hlt]
    refine(Aa hz _).trans ?_
    simp only[Fe,ND,Ab]
    rfl
  |true=>
   have hy:=Wd K hd
   have hdd:=Yc hd
   rw[Bool.true_and,Nc]
   rcases hq.next with h8|⟨h8,hq2⟩
   .obtain⟨L2,g,hL2,hV2,hl2⟩:=US K hL (by omega) (m:=q*10) (by omega) (c:=p*10+(s.data.toList[i].toNat-48)) (by omega)
    have ih':=ih (i+1) (eN L2) L2 0 1 (by omega) (by omega) (.inl rfl) hL2 (by omega) (by omega) (.inl rfl)
    rw[show Ai L2*1+0=(Ai L*q+p)*10+(s.data.toList[i].toNat-48) by rw[Nat.mul_one,Nat.add_zero,hV2,RV]]at ih'
    refine⟨fun h=>?_,fun h=>?_⟩
    .obtain⟨L',p',q',h1,h2⟩:=ih'.1 h
     refine⟨L',p',q',?_,h2⟩
     rcases hx with rfl|⟨rfl,rfl⟩
     .refine K.lp' ED _ rfl (by kernel_rfl) ((KG ..).trans ?_)
      refine(Aq (by omega)).trans ?_
      rw[AN,Cn,BD hlt]
      refine(Az _ _).trans ?_
      rw[DO hlt]
      refine(Aa hy _).trans ?_
      simp only[Fe,ND,Ab]
      refine(CM _ _).trans ?_
      rw[show (10:Int)=((10:Nat):Int) from rfl,CE,CE,Fx,Nat.mod_eq_of_lt (show q*10<4294967296 by omega),Nat.mod_eq_of_lt (show p*10<4294967296 by omega),Nat.mod_eq_of_lt (show p*10+(s.data.toList[i].toNat-48)<4294967296 by omega),Bn (by omega)]
      refine(AQ (by omega)).trans ?_
      refine(Aa g _).trans ?_
      simp only[eN,ND,Ab]
      refine(Aa h1 _).trans ?_
      rfl
     .refine K.lp' ED _ rfl (by kernel_rfl) ((If ..).trans ?_)
      refine(Aq (by omega)).trans ?_
      rw[AN,Cn,BD hlt]
      refine(Az _ _).trans ?_
      rw[DO hlt]
      refine(Aa hy _).trans ?_
      simp only[Fe,ND,Ab]
      refine(CM _ _).trans ?_
      rw[show (10:Int)=((10:Nat):Int) from rfl,CE,CE,Fx,Nat.mod_eq_of_lt (show q*10<4294967296 by omega),Nat.mod_eq_of_lt (show p*10<4294967296 by omega),Nat.mod_eq_of_lt (show p*10+(s.data.toList[i].toNat-48)<4294967296 by omega),Bn (by omega)]
      refine(AQ (by omega)).trans ?_
      refine(Aa g _).trans ?_
      simp only[eN,ND,Ab]
      refine(Aa h1 _).trans ?_
      rfl
    .have h1:=ih'.2 h
     rcases hx with rfl|⟨rfl,rfl⟩
     .refine K.lp' ED _ rfl (by kernel_rfl) ((KG ..).trans ?_)
      refine(Aq (by omega)).trans ?_
      rw[AN,Cn,BD hlt]
      refine(Az _ _).trans ?_
      rw[DO hlt]
      refine(Aa hy _).trans ?_
      simp only[Fe,ND,Ab]
      refine(CM _ _).trans ?_
      rw[show (10:Int)=((10:Nat):Int) from rfl,CE,CE,Fx,Nat.mod_eq_of_lt (show q*10<4294967296 by omega),Nat.mod_eq_of_lt (show p*10<4294967296 by omega),Nat.mod_eq_of_lt (show p*10+(s.data.toList[i].toNat-48)<4294967296 by omega),Bn (by omega)]
      refine(AQ (by omega)).trans ?_
      refine(Aa g _).trans ?_
      simp only[eN,ND,Ab]
      refine(Aa h1 _).trans ?_
      rfl
     .refine K.lp' ED _ rfl (by kernel_rfl) ((If ..).trans ?_)
      refine(Aq (by omega)).trans ?_
      rw[AN,Cn,BD hlt]
      refine(Az _ _).trans ?_
      rw[DO hlt]
      refine(Aa hy _).trans ?_
      simp only[Fe,ND,Ab]
      refine(CM _ _).trans ?_
      rw[show (10:Int)=((10:Nat):Int) from rfl,CE,CE,Fx,Nat.mod_eq_of_lt (show q*10<4294967296 by omega),Nat.mod_eq_of_lt (show p*10<4294967296 by omega),Nat.mod_eq_of_lt (show p*10+(s.data.toList[i].toNat-48)<4294967296 by omega),Bn (by omega)]
      refine(AQ (by omega)).trans ?_
      refine(Aa g _).trans ?_
      simp only[eN,ND,Ab]
      refine(Aa h1 _).trans ?_
      rfl
   .have ih':=ih (i+1) x L (p*10+(s.data.toList[i].toNat-48)) (q*10) (by omega) (by omega) hx hL (by omega) (by omega) hq2
    rw[RV]at ih'
    refine⟨fun h=>?_,fun h=>?_⟩
    .obtain⟨L',p',q',h1,h2⟩:=ih'.1 h
     refine⟨L',p',q',?_,h2⟩
     rcases hx with rfl|⟨rfl,rfl⟩
     .refine K.lp' ED _ rfl (by kernel_rfl) ((KG ..).trans ?_)
      refine(Aq (by omega)).trans ?_
      rw[AN,Cn,BD hlt]
      refine(Az _ _).trans ?_
      rw[DO hlt]
      refine(Aa hy _).trans ?_
      simp only[Fe,ND,Ab]
      refine(CM _ _).trans ?_
      rw[show (10:Int)=((10:Nat):Int) from rfl,CE,CE,Fx,Nat.mod_eq_of_lt (show q*10<4294967296 by omega),Nat.mod_eq_of_lt (show p*10<4294967296 by omega),Nat.mod_eq_of_lt (show p*10+(s.data.toList[i].toNat-48)<4294967296 by omega),Bn (by omega)]
      refine(AA (by omega)).trans ?_
      refine(Aa h1 _).trans ?_
      rfl
     .refine K.lp' ED _ rfl (by kernel_rfl) ((If ..).trans ?_)
      refine(Aq (by omega)).trans ?_
      rw[AN,Cn,BD hlt]
      refine(Az _ _).trans ?_
      rw[DO hlt]
      refine(Aa hy _).trans ?_
      simp only[Fe,ND,Ab]
      refine(CM _ _).trans ?_
      rw[show (10:Int)=((10:Nat):Int) from rfl,CE,CE,Fx,Nat.mod_eq_of_lt (show q*10<4294967296 by omega),Nat.mod_eq_of_lt (show p*10<4294967296 by omega),Nat.mod_eq_of_lt (show p*10+(s.data.toList[i].toNat-48)<4294967296 by omega),Bn (by omega)]
      refine(AA (by omega)).trans ?_
      refine(Aa h1 _).trans ?_
      rfl
    .have h1:=ih'.2 h
     rcases hx with rfl|⟨rfl,rfl⟩
     .refine K.lp' ED _ rfl (by kernel_rfl) ((KG ..).trans ?_)
      refine(Aq (by omega)).trans ?_
      rw[AN,Cn,BD hlt]
      refine(Az _ _).trans ?_
      rw[DO hlt]
      refine(Aa hy _).trans ?_
      simp only[Fe,ND,Ab]
      refine(CM _ _).trans ?_
      rw[show (10:Int)=((10:Nat):Int) from rfl,CE,CE,Fx,Nat.mod_eq_of_lt (show q*10<4294967296 by omega),Nat.mod_eq_of_lt (show p*10<4294967296 by omega),Nat.mod_eq_of_lt (show p*10+(s.data.toList[i].toNat-48)<4294967296 by omega),Bn (by omega)]
      refine(AA (by omega)).trans ?_
      refine(Aa h1 _).trans ?_
      rfl
     .refine K.lp' ED _ rfl (by kernel_rfl) ((If ..).trans ?_)
      refine(Aq (by omega)).trans ?_
      rw[AN,Cn,BD hlt]
      refine(Az _ _).trans ?_
      rw[DO hlt]
      refine(Aa hy _).trans ?_
      simp only[Fe,ND,Ab]
      refine(CM _ _).trans ?_
      rw[show (10:Int)=((10:Nat):Int) from rfl,CE,CE,Fx,Nat.mod_eq_of_lt (show q*10<4294967296 by omega),Nat.mod_eq_of_lt (show p*10<4294967296 by omega),Nat.mod_eq_of_lt (show p*10+(s.data.toList[i].toNat-48)<4294967296 by omega),Bn (by omega)]
      refine(AA (by omega)).trans ?_
      refine(Aa h1 _).trans ?_
      rfl
def GE(s:ByteArray):List Nat × Int:=
 if 4000<s.size then([],2) else if s.size=0 then([],20) else if s.data.toList.all GA=true then(AZ (Y7 0 s.data.toList),0) else([],20)
variable (C:CloneF D)
include C
theorem WO(s:ByteArray):D.ask (.fn 148) [sv s] []=some (.tup [eN (GE s).1,iv (GE s).2],[]):=by
 refine K.fn' ED _ rfl ((AlE ..).trans ?_)
 unfold GE
 rw[Cn]
 by_cases h1:4000<s.size
 .rw[if_pos h1]
  exact(Aq (by omega)).trans rfl
 rw[if_neg h1]
 refine(Ap (by omega)).trans ?_
 by_cases h2:s.size=0
 .rw[if_pos h2]
  have h3:s=ByteArray.empty:=by simpa using h2
  exact(Dd (by rw[h3];rfl)).trans rfl
 rw[if_neg h2]
 refine(El (fun h=>h2 (by rw[h];rfl))).trans ?_
 have g:=WN K (s:=s) (by omega) s.size 0 (.v (.slice none 0 0)) [] 0 1 (by omega) (by omega) (.inr ⟨rfl,rfl⟩) Cc (by simp) (by omega) (.inl rfl)
 rw[List.drop_zero]at g
 by_cases h3:s.data.toList.all GA=true
 .rw[if_pos h3]
  obtain⟨L',p',q',h4,hL,hl,hp,hq,hv⟩:=g.1 h3
  have hq1:=hq.le
  obtain⟨L2,g2,hL2,hV2,hl2⟩:=US K hL (by omega) (m:=q') (by omega) (c:=p') (by omega)
  refine(Aa h4 _).trans ?_
  simp only[eN,Fe,ND,Ab]
  refine(Az _ _).trans ?_
  refine(Aa g2 _).trans ?_
  simp only[eN,ND,Ab]
  refine(Aa (Gk K C (by unfold CB;omega) hL2) _).trans ?_
  rw[hV2,hv]
  rfl
 .rw[if_neg h3]
  refine(Aa (g.2 (by simpa using h3)) _).trans ?_
  rfl
end
end Go.Proofs.YtlmhajfbpplpoaaGreat
namespace Go.Proofs.YtlmhajfbpplpoaaGreat
open Go.RowKit
theorem E4(s:ByteArray):Limbs (GE s).1:=by
 unfold GE
 split
 .exact Cc
 split
 .exact Cc
 split
 .exact AL _
 .exact Cc
theorem Hs(s:ByteArray):(GE s).1.length<=4000:=by
 unfold GE
 split
 .simp
 split
 .simp
 split
 .rename_i h1 h2 h3
  refine Nat.le_trans (BE (k:=s.size) ?_) (by omega)
  have:=TP s.data.toList h3 (v:=0) (i:=0) (by simp)
  rwa [Nat.zero_add,show s.data.toList.length=s.size by simp]at this
 .simp
def L6(s:ByteArray):Prop:=1<=s.size/\s.extract 0 1=AE [45]
instance (s:ByteArray):Decidable (L6 s):=by unfold L6;exact inferInstance
def FF(s:ByteArray):ByteArray × Bool:=if L6 s then(s.extract 1 s.size,true) else(s,false)
def Fi(s:ByteArray):Zi × Int:=if(GE (FF s).1).2=0 then(AS (D3 (FF s).2 (Ai (GE (FF s).1).1)),0) else(⟨false,[]⟩,(GE (FF s).1).2)
section
variable {D:Orc} (K:Knows As J6 D) (Z:Knows As PC D) (C:CloneF D)
include Z
theorem AbQ(s:ByteArray):D.ask (.fn 241) [sv s,sv (AE [45])] []=some (bv (decide (L6 s)),[]):=by
 refine Z.fn' Aer _ rfl ((Aml ..).trans ?_)
 rw[Cn,Cn,show (AE [45]).size=1 from rfl]
 by_cases h1:1<=s.size
 .refine(CN (by omega)).trans ?_
  rw[show JG 0 1 s.size=true by unfold JG;simp;omega]
  refine(Az _ _).trans ?_
  by_cases h2:s.extract 0 1=AE [45]
  .rw[decide_eq_true (show L6 s from ⟨h1,h2⟩)]
   exact(Dd h2).trans rfl
  .rw[decide_eq_false (show ¬ L6 s from fun h=>h2 h.2)]
   exact(El h2).trans rfl
 .rw[decide_eq_false (show ¬ L6 s from fun h=>h1 h.1)]
  exact(C4 (by omega)).trans rfl
theorem AbA(s:ByteArray):D.ask (.fn 201) [sv s,sv (AE [45])] []=some (.tup [sv (FF s).1,bv (FF s).2],[]):=by
 refine Z.fn' Aeh _ rfl ((Al4 ..).trans ?_)
 refine(Aa (AbQ Z s) _).trans ?_
 simp only[ND,Ab]
 unfold FF
 by_cases h:L6 s
 .have h1:=h.1
  rw[if_pos h,decide_eq_true h,Cn,Cn,show (AE [45]).size=1 from rfl]
  refine(Az _ _).trans ?_
  rw[show JG 1 s.size s.size=true by unfold JG;rw[Nat.ble_eq_true_of_le h1,Nat.ble_eq_true_of_le (Nat.le_refl _)]]
  rfl
 .rw[if_neg h,decide_eq_false h]
  exact(CM _ _).trans rfl
theorem AfW(s:ByteArray):D.ask (.fn 147) [sv s,sv (AE [45])] []=some (.tup [sv (FF s).1,bv (FF s).2],[]):=by
 refine Z.fn' Ad1 _ rfl ((AlD ..).trans ?_)
 refine(Aa (AbA Z s) _).trans ?_
 rfl
include K C
theorem XF(s:ByteArray):D.ask (.fn 85) [sv s] []=some (.tup [.agg (eZ (Fi s).1),iv (Fi s).2],[]):=by
 refine Z.fn' Ain _ rfl ((e85 ..).trans ?_)
 refine(Aa (AfW Z s) _).trans ?_
 simp only[ND,Ab]
 refine(Aa (WO K C (FF s).1) _).trans ?_
 simp only[eN,Fe,ND,Ab]
 unfold Fi
 by_cases h:(GE (FF s).1).2=0
 .rw[if_pos h]
  refine(AQ h).trans ?_
  refine(Aa (Fk K Z C (FF s).2 (E4 _) (by unfold CB;have:=Hs (FF s).1;omega)) _).trans ?_
  rfl
 .rw[if_neg h]
  exact(AA h).trans rfl
end
end Go.Proofs.YtlmhajfbpplpoaaGreat
namespace Go.Proofs.YtlmhajfbpplpoaaGreat
open Go.RowKit
def I8(m:Mo):Int:=if m.num=AE [] then 1 else zv (Fi m.num).1
def Gc(m:Mo):Int:=if m.neg then -I8 m else I8 m
section
variable (vars:List ByteArray)
def DX:List Mo->Lf->Option Lf
 |[],out=>some out
 |m::r,out=>if m.var=AE [] then DX r ⟨out.ps,out.k+Gc m⟩ else match vars.findIdx? (m.var = ·) with
  |none=>none
  |some v=>DX r ⟨out.ps++[((v:Int),Gc m)],out.k⟩
def DW(ms:List Mo):Lf × Bool:=if Pm ms then(match DX vars ms Mr with
 |some l=>(l.pln,true)
 |none=>(Mr,false)) else(Mr,false)
mutual
def Cg:Tr->Fm × Bool
 |.mk k l r op _ _ ks=>if k=2 then(Ok op (DW vars l).1 (DW vars r).1,(DW vars l).2&&(DW vars r).2) else match B8 ks with
  |none=>(kF 0 [],false)
  |some fs=>(if k=0 then N4 true else if k=3\/k=4\/k=5 then kF k fs else N4 false,true)
def B8:List Tr->Option (List Fm)
 |[]=>some []
 |x::r=>if(Cg x).2 then(match B8 r with
  |none=>none
  |some fs=>some ((Cg x).1::fs)) else none
end
def Dc(f:Int->Int):List Mo->Int
 |[]=>0
 |m::r=>(if m.var=AE [] then Gc m else match vars.findIdx? (m.var = ·) with
  |none=>0
  |some v=>Gc m*f v)+Dc f r
mutual
def Dm(f:Int->Int):Tr->Bool
 |.mk k l r op _ _ ks=>if k=0 then true else if k=2 then UN op (Dc vars f l) (Dc vars f r) else if k=3 then Mg f ks else if k=4 then Gy f ks else if k=5 then Gz f ks else false
def Mg(f:Int->Int):List Tr->Bool
 |[]=>false
 |x::_=>!Dm f x
def Gy(f:Int->Int):List Tr->Bool
 |[]=>true
 |x::r=>Dm f x&&Gy f r
def Gz(f:Int->Int):List Tr->Bool
 |[]=>false
 |x::r=>Dm f x||Gz f r
end
theorem Lg(f:Int->Int):∀(ms:List Mo) (out l:Lf),DX vars ms out=some l->l.val f=out.val f+Dc vars f ms
 |[],out,l,h=>by
  rw[DX]at h
  cases h
  rw[Dc]
  omega
 |m::r,out,l,h=>by
  rw[DX]at h
  rw[Dc]
  split at h
  .rename_i hv
   rw[if_pos hv,Lg f r _ l h]
   unfold Lf.val
   simp only
   omega
  .rename_i hv
   rw[if_neg hv]
   split at h
   .cases h
   .rename_i v e
    rw[Lg f r _ l h]
    unfold Lf.val
    simp only[NU,DU]
    omega
theorem PD{f:Int->Int}(hf:∀ v,v<0->f v=0){ms:List Mo}(h:(DW vars ms).2=true):(DW vars ms).1.val f=Dc vars f ms:=by
 unfold DW at h ⊢
 split at h
 .rename_i h1
  split at h
  .rename_i l e
   rw[if_pos h1]
   show l.pln.val f=_
   rw[Mp hf,Lg vars f ms _ l e]
   show (0:Int)+0+Dc vars f ms=Dc vars f ms
   omega
  .cases h
 .cases h
mutual
theorem M3{f:Int->Int}(hf:∀ v,v<0->f v=0):∀ t:Tr,(Cg vars t).2=true->Ct f (Cg vars t).1=Dm vars f t
 |.mk k l r op p q ks,h=>by
  rw[Cg]at h ⊢
  rw[Dm]
  by_cases h2:k=2
  .rw[if_pos h2]at h ⊢
   rw[if_neg (show ¬ k=0 by omega),if_pos h2]
   simp only[Bool.and_eq_true]at h
   simp only
   rw[Wv hf,PD vars hf h.1,PD vars hf h.2]
  .rw[if_neg h2]at h ⊢
   cases e:B8 vars ks with
   |none=>rw[e]at h;cases h
   |some fs=>
    obtain⟨g1,g2,g3⟩:=Lr hf ks fs e
    simp only
    by_cases h0:k=0
    .rw[if_pos h0,if_pos h0,FV]
    rw[if_neg h0,if_neg h0,if_neg h2]
    by_cases h3:k=3
    .rw[if_pos (.inl h3),if_pos h3,h3,←g1]
     rfl
    rw[if_neg h3]
    by_cases h4:k=4
    .rw[if_pos (.inr (.inl h4)),if_pos h4,h4,←g2]
     rfl
    rw[if_neg h4]
    by_cases h5:k=5
    .rw[if_pos (.inr (.inr h5)),if_pos h5,h5,←g3]
     rfl
    rw[if_neg h5,if_neg (by omega),FV]
theorem Lr{f:Int->Int}(hf:∀ v,v<0->f v=0):∀(ks:List Tr) (fs:List Fm),B8 vars ks=some fs->Gx f fs=Mg vars f ks/\Ea f fs=Gy vars f ks/\Eb f fs=Gz vars f ks
 |[],fs,h=>by
  rw[B8]at h
  cases h
  exact⟨rfl,rfl,rfl⟩
 |x::r,fs,h=>by
  rw[B8]at h
  split at h
  .rename_i hx
   have g:=M3 hf x hx
   split at h
   .cases h
   .rename_i gs e
    obtain⟨g1,g2,g3⟩:=Lr hf r gs e
    cases h
    refine⟨?_,?_,?_⟩
    .rw[Gx,Mg,g]
    .rw[Ea,Gy,g,g2]
    .rw[Eb,Gz,g,g3]
  .cases h
end
end
end Go.Proofs.YtlmhajfbpplpoaaGreat
