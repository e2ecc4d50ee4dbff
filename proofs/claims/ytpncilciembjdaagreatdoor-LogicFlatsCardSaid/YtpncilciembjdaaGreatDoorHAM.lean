/- Seats of D: contracts fr -/
import Derived.Test.YtpncilciembjdaaGreatDoorHAL
import Derived.Test.YtpncilciembjdaaGreatDoorChecked
import Derived.WalkKit
import Derived.WalkSpells
import Derived.WalkLawsBesides
import Derived.Deep.Draws
import Derived.Lib.Hide
set_option linter.all false
open Bool renaming true->Δ,and_eq_true->Awh
open List renaming all_eq_true->Awr,drop->Av8,flatten_cons->Axp,getElem?_cons_succ->Awu,headD_cons->Axs,length_cons->γ,length_eq_zero_iff->Ay6,mem_cons->Awj,tail_cons->AxO,take->κ,take_of_length_le->Aw5,take_succ_cons->Axo
open Nat renaming add_mul->AwW,add_zero->Aw1,beq->AwM,div_add_mod->AyL,le_of_eq->AzU,le_refl->π,lt_or_ge->AwS,mod_eq_of_lt->Aw8,mod_lt->AwU,mul_add->Axu,mul_assoc->Aw3,mul_comm->Aw2,mul_le_mul_left->AxI,mul_le_mul_right->Aww,mul_zero->Ayt,one_mul->AxR,pow_le_pow_right->Axi,pow_succ->Aw6,strongRecOn->AyM,zero_le->Awz
open Option renaming none->Ξ,some->Θ
namespace Go.Proofs.YtpncilciembjdaaGreatDoor
noncomputable section
open ABlk renaming mk->θ
open AV renaming ls->Ψ,sl->υ,tup->Awe,v->Awc
open BO renaming set->Awn
open IntKind renaming i64->ω,u32->ζ,u64->Ω
open Key renaming fn->φ,lp->Awa
open Tryz renaming prog->Av9
open Go.RowKit
def AsK:Ab->Option AV
 |[.v (.string s)]=>if s.size<=9223372036854775807 then Θ (bv (ArQ s.data.toList)) else Ξ
 |_=>Ξ
def Dd(res:Ab->Option AV):DF:=λargs bs=>match bs with
 |[]=>(res args).map λr=>(r,[])
 |_=>Ξ
def NQ(P:Program)(ents:Nat):List (Nat × MFn)->Prop
 |[]=>True
 |p::r=>(∃ hs a b,p.2=NB P ents hs a b p.1)/\Adz P p.1=Δ/\NQ P ents r
theorem Qh{P:Program}{ents:Nat}:∀{L:List (Nat × MFn)},NQ P ents L->∀ f mf,(f,mf)∈L->FnOk P ents f mf
 |p::r,⟨⟨hs,a,b,h1⟩,h2,h3⟩,f,mf,hm=>by
  rcases Awj.1 hm with rfl|hm
  .have h1:mf=_:=h1
   rw[h1];exact AfW h2
  .exact Qh h3 f mf hm
theorem Qg{P:Program}{ents:Nat}:∀{L L':List (Nat × MFn)},NQ P ents L->NQ P ents L'->NQ P ents (L++L')
 |[],_,_,h=>h
 |_::_,_,⟨h1,h2,h3⟩,h=>⟨h1,h2,Qg h3 h⟩
def Acb(P:Program)(ents n:Nat):Bool:=Nat.blt ents (2 ^ n)&&(List.range n).all λg=>!ents.testBit g||GH P g
theorem Acd{P:Program}{ents n:Nat}(h:Acb P ents n=Δ):Jo P ents:=by
 unfold Acb at h;rw[Awh]at h;intro g hg;have hn:ents<2 ^ n:=Nat.blt_eq.mp h.1
 by_cases hgn:g<n
 .have:=Awr.1 h.2 g (List.mem_range.2 hgn)
  rw[hg]at this;simpa using this
 .have:ents<2 ^ g:=Nat.lt_of_lt_of_le hn (Axi (by decide) (by omega))
  rw[Nat.testBit_lt_two_pow this]at hg
  cases hg
theorem Ot{α:Type}{f:Nat}:∀{A B:List (Nat × α)},Cv f (A++B)=match Cv f A with
  |some a=>Θ a
  |none=>Cv f B
 |[],_=>rfl
 |(m,b)::r,B=>by
  have ih:=Ot (f:=f) (A:=r) (B:=B)
  show (match AwM f m with
   |true=>Θ b
   |false=>Cv f (r++B))=match (match AwM f m with
   |true=>Θ b
   |false=>Cv f r) with
   |some a=>Θ a
   |none=>Cv f B
  cases AwM f m with
  |true=>rfl
  |false=>exact ih
def Aba(A B:List (Nat × MFn)):Bool:=B.all λp=>(Cv p.1 A).isNone
theorem We{A B:List (Nat × MFn)}(h:Aba A B=Δ){f:Nat}{mf:MFn}(hf:Cv f B=Θ mf):Cv f (A++B)=Θ mf:=by
 have:=Awr.1 h _ (Fl hf);have h0:Cv f A=Ξ:=Option.isNone_iff_eq_none.1 this;rw[Ot,h0];exact hf
theorem Zz{A B:List (Nat × MFn)}{f:Nat}{mf:MFn}(hf:Cv f A=Θ mf):Cv f (A++B)=Θ mf:=by
 rw[Ot,hf]
def GA(P:Program):List (Nat × DF)->Prop
 |[]=>True
 |p::r=>BD (BL P p.1) p.2/\GA P r
theorem QI{P:Program}:∀{L:List (Nat × DF)},GA P L->∀ f d,(f,d)∈L->BD (BL P f) d
 |p::r,⟨h1,h2⟩,f,d,hm=>by
  rcases Awj.1 hm with rfl|hm
  .exact h1
  .exact QI h2 f d hm
def Gy(P:Program)(ents:Nat):List (List (Nat × MFn))->Prop
 |[]=>True
 |T::r=>NQ P ents T/\Gy P ents r
theorem Tp{P:Program}{ents:Nat}:∀{L:List (List (Nat × MFn))},Gy P ents L->NQ P ents L.flatten
 |[],_=>trivial
 |T::r,⟨h1,h2⟩=>by
  rw[Axp];exact Qg h1 (Tp h2)
theorem EU{P:Program}{ents:Nat}{own:List (Nat × Nat)}{L:List (List (Nat × MFn))}{X:List (Nat × DF)}(m:P.follows .mixedOrders=Δ)(e:Jo P ents)(a:Gy P ents L)(g:GA P X):SeatOk P ents (FK own L.flatten X) where
 mixed:=m
 ent:=e
 fns f mf h:=Qh (Tp a) f mf (Fl h)
 ext f d h:=QI g f d (Fl h)
def G7:List (List (Nat × MFn))->Bool
 |[]=>Δ
 |T::r=>Aba T r.flatten&&G7 r
theorem XU{f:Nat}{mf:MFn}:∀{L:List (List (Nat × MFn))} {i:Nat} {T:List (Nat × MFn)},G7 L=Δ->L[i]? = Θ T->Cv f T=Θ mf->Cv f L.flatten=Θ mf
 |A::r,0,T,_,hi,h=>by
  injection hi with hi
  subst hi;rw[Axp];exact Zz h
 |A::r,i+1,T,ha,hi,h=>by
  unfold G7 at ha;rw[Awh]at ha;rw[Axp];exact We ha.1 (XU ha.2 hi h)
theorem Adi:∀{L:List (List (Nat × MFn))} {i:Nat} {T:List (Nat × MFn)},L[i]? = Θ T->∀ p∈T,p∈L.flatten
 |A::r,0,T,hi,p,hp=>by
  injection hi with hi
  subst hi;rw[Axp];exact List.mem_append_left _ hp
 |A::r,i+1,T,hi,p,hp=>by
  rw[Axp];exact List.mem_append_right _ (Adi (L:=r) hi p hp)
theorem BH{own:List (Nat × Nat)}{L:List (List (Nat × MFn))}{X:List (Nat × DF)}(h:(G7 L&&O8 L.flatten X)=Δ){i:Nat}{T:List (Nat × MFn)}(hi:L[i]? = Θ T):Knows own T (By Ap (FK own L.flatten X)):=by
 rw[Awh]at h;refine Ac1 (λf mf hf=>XU h.1 hi hf) (Awr.2 λp hp=>Awr.1 h.2 p (Adi hi p hp))
def B4:Nat:=1042962668542029374677668987337996011341198353761632795856419847799597962473998426758556155900
abbrev AN(h:KA)(n:Nat):MFn:=NB Av9 B4 h false false n
def mBg:Nat->Nat->List Bool
 | 0,_=>[]
 | k+1,n=>(match AwM n 0 with
  | true=>[]
  | false=>AwM (Nat.mod n 2) 1::mBg k (Nat.div n 2))
def mB(n:Nat):List Bool:=mBg 400 n
abbrev AL:List Sh:=[.bool,.ls]
abbrev Bn:List Sh:=[.int .i64,.ls,.bool,.ls,.bool,.ls]
abbrev BJ:List Sh:=[.ls,.bool,.ls]
abbrev Cj:List Sh:=[.int .i64,.bool,.ls]
abbrev Di:List Sh:=[.ls,.bool,.ls,.bool]
abbrev Aku:List Sh:=[.ls,.ls,.int .i64]
def Au:List (Nat × Nat):=[(262,0),(240,0),(241,0),(136,0),(196,0),(234,0),(235,0),(265,0),(275,0),(140,0),(199,0)]
theorem P7:Tryz.prog.follows .mixedOrders=Δ:=by kernel_rfl
set_option maxRecDepth 100000 in
theorem ES:Jo Av9 B4:=Acd (n:=600) (by kernel_rfl)
def Ag:Af->Nat
 |[]=>0
 |x::r=>x+4294967296*Ag r
def Limbs(l:Af):Prop:=∀ x∈l,x<4294967296
def Aq(n:Nat):Af:=if n=0 then [] else(n % 4294967296)::Aq (n / 4294967296)
termination_by n
decreasing_by omega
theorem CJ:Aq 0=[]:=by rw[Aq];rfl
theorem DX{n:Nat}(h:n≠0):Aq n=(n % 4294967296)::Aq (n / 4294967296):=by rw[Aq,Ad h]
theorem Av:∀(n:Nat),Limbs (Aq n):=by
 intro n
 induction n using AyM with
 |ind n ih=>
  by_cases h:n=0
  .subst h;rw[CJ];intro x hx;cases hx
  .rw[DX h]
   intro x hx;rcases Awj.1 hx with rfl|hx
   .exact AwU _ (by omega)
   .exact ih (n / 4294967296) (by omega) x hx
theorem AF:∀(n:Nat),Ag (Aq n)=n:=by
 intro n
 induction n using AyM with
 |ind n ih=>
  by_cases h:n=0
  .subst h;rw[CJ];rfl
  .rw[DX h,Ag,ih (n / 4294967296) (by omega)]
   omega
theorem UL{n:Nat}:Aq n=[] ↔ n=0:=by
 constructor
 .intro h
  have:=AF n;rw[h]at this;exact this.symm
 .rintro rfl;exact CJ
def CX:Af->Nat
 |[]=>0
 |x::r=>if CX r=0/\x=0 then 0 else CX r+1
theorem Cx:∀ l:Af,CX l<=l.length
 |[]=>π _
 |x::r=>by
  have:=Cx r;unfold CX;rw[γ];split<;>omega
theorem Limbs.cons{x:Nat}{r:Af}(h:Limbs (x::r)):x<4294967296/\Limbs r:=⟨h x (List.mem_cons_self ..),λy hy=>h y (List.mem_cons_of_mem _ hy)⟩
theorem BY:Limbs []:=λ_ h=>by cases h
theorem Bv{x:Nat}{r:Af}(h:x<4294967296)(h2:Limbs r):Limbs (x::r):=λy hy=>by
 rcases Awj.1 hy with rfl|hy
 .exact h
 .exact h2 y hy
theorem C1{a b:Af}(h:Limbs a)(h2:Limbs b):Limbs (a++b):=λx hx=>by
 rcases List.mem_append.1 hx with hx|hx
 .exact h x hx
 .exact h2 x hx
theorem Limbs.take{l:Af}(h:Limbs l)(n:Nat):Limbs (l.take n):=λx hx=>h x (List.mem_of_mem_take hx)
theorem Limbs.drop{l:Af}(h:Limbs l)(n:Nat):Limbs (l.drop n):=λx hx=>h x (List.mem_of_mem_drop hx)
theorem Limbs.get{l:Af}(h:Limbs l){i:Nat}(hi:i<l.length):l[i]<4294967296:=h _ (List.getElem_mem hi)
theorem AeK:∀{l:Af},CX l=0->Ag l=0
 |[],_=>rfl
 |x::r,h=>by
  unfold CX at h;split at h
  .rename_i h2
   rw[Ag,AeK h2.1,h2.2]
  .omega
theorem AeQ:∀{l:Af},Ag l=0->CX l=0
 |[],_=>rfl
 |x::r,h=>by
  rw[Ag]at h;unfold CX;rw[Ac ⟨AeQ (by omega),by omega⟩]
theorem IQ:∀{l:Af},Limbs l->l.take (CX l)=Aq (Ag l)
 |[],_=>by rw[Ag,CJ];rfl
 |x::r,h=>by
  obtain⟨h1,h2⟩:=h.cons;have ih:=IQ h2;unfold CX;split
  .rename_i h3
   rw[List.take_zero,Ag,AeK h3.1,h3.2,CJ]
  .rename_i h3
   have h0:Ag (x::r)≠0:=by
    intro h0;rw[Ag]at h0;exact h3 ⟨AeQ (by omega),by omega⟩
   rw[Axo,DX h0,Ag];have e1:(x+4294967296*Ag r) % 4294967296=x:=by omega
   have e2:(x+4294967296*Ag r) / 4294967296=Ag r:=by omega
   rw[e1,e2,ih]
theorem BV:∀(a b:Af),Ag (a++b)=Ag a+4294967296 ^ a.length*Ag b
 |[],b=>by simp[Ag]
 |x::r,b=>by
  rw[List.cons_append,Ag,BV r b,Ag,γ,Aw6,Axu,←Aw3,Aw2 4294967296 (4294967296 ^ r.length)];omega
theorem BM:∀{l:Af},Limbs l->Ag l<4294967296 ^ l.length
 |[],_=>by simp[Ag]
 |x::r,h=>by
  obtain⟨h1,h2⟩:=h.cons;have:=BM h2;rw[Ag,γ,Aw6];omega
theorem C2(l:Af)(h:Limbs l):(Aq (Ag l)).length=CX l:=by
 rw[←IQ h,List.length_take];have:=Cx l;omega
theorem Bu{n k:Nat}(h:n<4294967296 ^ k):(Aq n).length<=k:=by
 induction k generalizing n with
 |zero=>
  have:n=0:=by simpa using h
  subst this;rw[CJ];exact π _
 |succ k ih=>
  by_cases h0:n=0
  .subst h0;rw[CJ];exact Awz _
  .rw[DX h0,γ]
   have:n / 4294967296<4294967296 ^ k:=by
    rw[Nat.div_lt_iff_lt_mul (by omega)];rw[Aw6]at h;exact h
   have:=ih this;omega
theorem IC{n k:Nat}(h:4294967296 ^ k<=n):k<(Aq n).length:=by
 by_cases h2:k<(Aq n).length
 .exact h2
 .have h3:=BM (Av n)
  rw[AF]at h3;have h4:4294967296 ^ (Aq n).length<=4294967296 ^ k:=Axi (by omega) (by omega);omega
theorem Rt:∀{l:Af},0<CX l->∃ x,l[CX l-1]? = Θ x/\x≠0
 |[],h=>by simp[CX]at h
 |y::r,h=>by
  by_cases h1:CX r=0
  .have h2:y≠0:=by
    intro h2;unfold CX at h;rw[Ac ⟨h1,h2⟩]at h;omega
   refine⟨y,?_,h2⟩;unfold CX;rw[Ad (λe=>h2 e.2),h1];rfl
  .obtain⟨x,h3,h4⟩:=Rt (l:=r) (by omega)
   refine⟨x,?_,h4⟩;unfold CX;rw[Ad (λe=>h1 e.1)];have:CX r+1-1=(CX r-1)+1:=by omega
   rw[this,Awu,h3]
theorem NO:∀{l:Af} {i x:Nat},l[i]? = Θ x->x≠0->i<CX l
 |[],i,x,h,_=>by simp at h
 |y::r,0,x,h,h2=>by
  have h:y=x:=by simpa using h
  unfold CX;rw[Ad (λe=>h2 (by rw[←h];exact e.2))];omega
 |y::r,i+1,x,h,h2=>by
  rw[Awu]at h;have:=NO h h2;unfold CX;rw[Ad (λe=>by omega)];omega
theorem Mn{l:Af}{n:Nat}(h:CX l<=n+1)(h2:l[n]? = Θ 0):CX l<=n:=by
 by_cases h3:CX l=n+1
 .obtain⟨x,h4,h5⟩:=Rt (l:=l) (by omega)
  rw[h3,Nat.add_sub_cancel,h2]at h4;injection h4 with h4
  exact absurd h4.symm h5
 .omega
def eL(n:Nat):Ab:=[.v (.int .u32 (n:Int))]
def eN(l:Af):AV:=.ls (l.map eL)
theorem AR(x:Nat):(eL x).length=1:=rfl
def LC:Nat->Af->Af->Af
 |c,[],_=>[c]
 |c,x::a,b=>((x+b.headD 0+c) % 4294967296)::LC ((x+b.headD 0+c) / 4294967296) a b.tail
theorem Es{b:Af}(h:Limbs b):b.headD 0<4294967296:=by
 cases b with
 |nil=>simp
 |cons y b=>exact h.cons.1
theorem Limbs.tail{b:Af}(h:Limbs b):Limbs b.tail:=by
 cases b with
 |nil=>exact h
 |cons y b=>exact h.cons.2
theorem HD(b:Af):Ag b=b.headD 0+4294967296*Ag b.tail:=by
 cases b<;>rfl
theorem Ms:∀(a b:Af) (c:Nat),b.length<=a.length->Ag (LC c a b)=c+Ag a+Ag b
 |[],b,c,h=>by
  obtain rfl:b=[]:=Ay6.1 (by simpa using h);simp[LC,Ag]
 |x::a,b,c,h=>by
  have ih:=Ms a b.tail ((x+b.headD 0+c) / 4294967296) (by simp at h ⊢;omega);rw[LC,Ag,ih,Ag,HD b];omega
theorem JF:∀(a b:Af) (c:Nat),Limbs a->Limbs b->c<=1->Limbs (LC c a b)
 |[],b,c,_,_,hc=>Bv (by omega) BY
 |x::a,b,c,ha,hb,hc=>by
  have h1:=Es hb;have h2:=ha.cons;exact Bv (AwU _ (by omega)) (JF a b.tail _ h2.2 hb.tail (by omega))
def Nf:Nat->Nat->Af->Af->Af
 |0,_,_,_=>[]
 |k+1,c,a,b=>((a.headD 0+b.headD 0+c) % 4294967296)::Nf k ((a.headD 0+b.headD 0+c) / 4294967296) a.tail b.tail
theorem RB:∀(k c:Nat) (a b:Af),Ag (Nf k c a b)=(c+Ag a+Ag b) % 4294967296 ^ k
 |0,c,a,b=>by simp[Nf,Ag,Nat.mod_one]
 |k+1,c,a,b=>by
  have ih:=RB k ((a.headD 0+b.headD 0+c) / 4294967296) a.tail b.tail;rw[Nf,Ag,ih,HD a,HD b,Aw6,Aw2 (4294967296 ^ k) 4294967296,Nat.mod_mul];have e1:(c+(a.headD 0+4294967296*Ag a.tail)+(b.headD 0+4294967296*Ag b.tail)) % 4294967296=(a.headD 0+b.headD 0+c) % 4294967296:=by omega
  have e2:(c+(a.headD 0+4294967296*Ag a.tail)+(b.headD 0+4294967296*Ag b.tail)) / 4294967296=(a.headD 0+b.headD 0+c) / 4294967296+Ag a.tail+Ag b.tail:=by omega
  rw[e1,e2]
theorem NR:∀(k c:Nat) (a b:Af),Limbs (Nf k c a b)
 |0,_,_,_=>BY
 |k+1,c,a,b=>Bv (AwU _ (by omega)) (NR k _ _ _)
def Hv:Nat->Af->Af->Af
 |_,[],_=>[]
 |c,x::a,b=>(if x<b.headD 0+c then x+4294967296-(b.headD 0+c) else x-(b.headD 0+c))::Hv (if x<b.headD 0+c then 1 else 0) a b.tail
def Xh:Nat->Af->Af->Nat
 |c,[],_=>c
 |c,x::a,b=>Xh (if x<b.headD 0+c then 1 else 0) a b.tail
theorem YX:∀(a b:Af) (c:Nat),c<=1->Xh c a b<=1
 |[],_,_,h=>h
 |x::a,b,c,h=>YX a b.tail _ (by split<;>omega)
theorem RE:∀(a b:Af) (c:Nat),Limbs a->Limbs b->c<=1->b.length<=a.length->Ag (Hv c a b)+Ag b+c=Ag a+4294967296 ^ a.length*Xh c a b
 |[],b,c,_,_,_,h=>by
  obtain rfl:b=[]:=Ay6.1 (by simpa using h);simp[Hv,Xh,Ag]
 |x::a,b,c,ha,hb,hc,h=>by
  have h1:=Es hb;have h2:=ha.cons;rw[Hv,Xh,Ag,Ag,HD b,γ,Aw6];have ih:=RE a b.tail (if x<b.headD 0+c then 1 else 0) h2.2 hb.tail (by split<;>omega) (by simp at h ⊢;omega);rw[Aw2 (4294967296 ^ a.length) 4294967296,Aw3];revert ih;generalize 4294967296 ^ a.length*Xh (if x<b.headD 0+c then 1 else 0) a b.tail=z;generalize Ag (Hv (if x<b.headD 0+c then 1 else 0) a b.tail)=s;intro ih;split at ih
  .grind
  .grind
theorem Hw:∀(a b:Af) (c:Nat),Limbs a->Limbs b->c<=1->Limbs (Hv c a b)
 |[],_,_,_,_,_=>BY
 |x::a,b,c,ha,hb,hc=>by
  have h1:=Es hb;have h2:=ha.cons;refine Bv ?_ (Hw a b.tail _ h2.2 hb.tail (by split<;>omega));split<;>omega
theorem Lq:∀(a b:Af) (c:Nat),(Hv c a b).length=a.length
 |[],_,_=>rfl
 |x::a,b,c=>by rw[Hv,γ,Lq a,γ]
theorem Vz{a b:Af}(ha:Limbs a)(hb:Limbs b)(h:b.length<=a.length)(hv:Ag b<=Ag a):Ag (Hv 0 a b)=Ag a-Ag b:=by
 have h1:=RE a b 0 ha hb (by omega) h;have h2:=BM (Hw a b 0 ha hb (by omega));rw[Lq]at h2;have h3:=YX a b 0 (by omega);have h4:=BM ha;rcases AwS (Xh 0 a b) 1 with h5|h5
 .grind
 .grind
def O5:Nat->Nat->Af->Af->Af
 |_,c,[],o=>c::o.tail
 |x,c,y::b,o=>((x*y+o.headD 0+c) % 4294967296)::O5 x ((x*y+o.headD 0+c) / 4294967296) b o.tail
theorem RD:∀(x:Nat) (b o:Af) (c:Nat),(o.drop b.length).headD 0=0->Ag (O5 x c b o)=x*Ag b+Ag o+c
 |x,[],o,c,h=>by
  grind [O5,Ag,HD]
 |x,y::b,o,c,h=>by
  have h2:(o.tail.drop b.length).headD 0=0:=by
   simp_all
  have ih:=RD x b o.tail ((x*y+o.headD 0+c) / 4294967296) h2;have e:x*(y+4294967296*Ag b)=x*y+4294967296*(x*Ag b):=by
   grind
  rw[O5,Ag,ih,Ag,HD o,e];omega
theorem J0{x y:Nat}(hx:x<4294967296)(hy:y<4294967296):x*y<=18446744065119617025:=by
 have:=Nat.mul_le_mul (show x<=4294967295 by omega) (show y<=4294967295 by omega);omega
theorem O6:∀(x:Nat) (b o:Af) (c:Nat),x<4294967296->Limbs b->Limbs o->c<4294967296->Limbs (O5 x c b o)
 |x,[],o,c,_,_,ho,hc=>Bv hc ho.tail
 |x,y::b,o,c,hx,hb,ho,hc=>by
  have h1:=Es ho;have h2:=hb.cons;have h3:=J0 hx h2.1;exact Bv (AwU _ (by omega)) (O6 x b o.tail _ hx h2.2 ho.tail (by omega))
def D8:Nat->Nat->Af->Af
 |_,c,[]=>[c]
 |m,c,x::a=>((x*m+c) % 4294967296)::D8 m ((x*m+c) / 4294967296) a
theorem IS:∀(m:Nat) (a:Af) (c:Nat),Ag (D8 m c a)=Ag a*m+c
 |m,[],c=>by simp[D8,Ag]
 |m,x::a,c=>by
  rw[D8,Ag,IS m a,Ag,AwW,Aw3];omega
theorem Ht:∀(m:Nat) (a:Af) (c:Nat),m<4294967296->Limbs a->c<4294967296->Limbs (D8 m c a)
 |m,[],c,_,_,hc=>Bv hc BY
 |m,x::a,c,hm,ha,hc=>by
  have h2:=ha.cons;have h3:=J0 h2.1 hm;exact Bv (AwU _ (by omega)) (Ht m a _ hm h2.2 (by omega))
def C7(a b:Nat):Int:=if a<b then -1 else if b<a then 1 else 0
theorem Og{a b:Af}(ha:Limbs a)(hb:Limbs b)(h:a.length=b.length)(x y:Nat):C7 (Ag (a++[x])) (Ag (b++[y]))=if x<y then -1 else if y<x then 1 else C7 (Ag a) (Ag b):=by
 rw[BV,BV,←h];have h1:=BM ha;have h2:=BM hb;rw[←h]at h2;simp only[Ag,Ayt,Aw1];revert h1 h2;generalize 4294967296 ^ a.length=k;generalize Ag a=p;generalize Ag b=q;intro h1 h2
 by_cases h3:x<y
 .rw[Ac h3]
  have:k*(x+1)<=k*y:=AxI _ h3;rw[Axu]at this;unfold C7;rw[Ac (by omega)]
 .rw[Ad h3]
  by_cases h4:y<x
  .rw[Ac h4]
   have:k*(y+1)<=k*x:=AxI _ h4;rw[Axu]at this;unfold C7;rw[Ad (by omega),Ac (by omega)]
  .rw[Ad h4]
   obtain rfl:x=y:=by omega
   unfold C7
   by_cases h5:p<q
   .omega
   .omega
theorem Acz{P V2 vl U3 ul g:Nat}(hvl:vl<P)(hV2:4294967296<=V2)(hg:g<=4294967296)(h:g*V2<=U3):g*(V2*P+vl)<(U3*P+ul)+(V2*P+vl):=by
 have h1:g*V2*P<=U3*P:=Aww _ h;have h2:g*vl<=4294967296*vl:=Aww _ hg;have h3:4294967296*P<=V2*P:=Aww _ hV2;rw[Axu,←Aw3];omega
theorem AcA{P V2 vl U3 ul g:Nat}(hul:ul<P)(h:U3<g*V2):U3*P+ul<g*(V2*P+vl):=by
 have h1:(U3+1)*P<=g*V2*P:=Aww _ h;rw[AwW,AxR]at h1;rw[Axu,←Aw3];omega
theorem Af0{Q f dl T ul:Nat}(hul:ul<Q)(hf:0<f):T*Q+ul<(T / f+1)*(f*Q+dl):=by
 have h1:T+1<=(T / f+1)*f:=by
  have:=AyL T f;have:=AwU T hf;rw[AwW,AxR,Aw2];omega
 have h2:(T+1)*Q<=(T / f+1)*f*Q:=Aww _ h1;rw[AwW,AxR]at h2;rw[Axu,←Aw3];omega
def DT:Nat->Nat->Nat->Af->Af->Af
 |_,_,_,_,[]=>[]
 |m,c,w,u,x::d=>(if u.headD 0<(m*x+c) % 4294967296+w then u.headD 0+4294967296-((m*x+c) % 4294967296+w) else u.headD 0-((m*x+c) % 4294967296+w))::DT m ((m*x+c) / 4294967296) (if u.headD 0<(m*x+c) % 4294967296+w then 1 else 0) u.tail d
def Eb:Nat->Nat->Af->Nat
 |_,c,[]=>c
 |m,c,x::d=>Eb m ((m*x+c) / 4294967296) d
def Dq:Nat->Nat->Nat->Af->Af->Nat
 |_,_,w,_,[]=>w
 |m,c,w,u,x::d=>Dq m ((m*x+c) / 4294967296) (if u.headD 0<(m*x+c) % 4294967296+w then 1 else 0) u.tail d
theorem GC:∀(m c w:Nat) (u d:Af),(DT m c w u d).length=d.length
 |_,_,_,_,[]=>rfl
 |m,c,w,u,x::d=>by rw[DT,γ,GC,γ]
theorem N0:∀(m c w:Nat) (u d:Af),w<=1->Dq m c w u d<=1
 |_,_,_,_,[],h=>h
 |m,c,w,u,x::d,h=>N0 m _ _ _ d (by split<;>omega)
theorem NY:∀(m c:Nat) (d:Af),m<4294967296->Limbs d->c<4294967296->Eb m c d<4294967296
 |_,_,[],_,_,h=>h
 |m,c,x::d,hm,hd,hc=>by
  have h:=hd.cons;have:=J0 hm h.1;exact NY m _ d hm h.2 (by omega)
theorem Ii:∀(m c w:Nat) (u d:Af),Limbs u->w<=1->Limbs (DT m c w u d)
 |_,_,_,_,[],_,_=>BY
 |m,c,w,u,x::d,hu,hw=>by
  have h1:=Es hu;have h2:=AwU (m*x+c) (show 0<4294967296 by omega);exact Bv (by split<;>omega) (Ii m _ _ _ d hu.tail (by split<;>omega))
theorem PM:∀(m c w:Nat) (u d:Af),Limbs u->w<=1->d.length<=u.length->
  Ag (DT m c w u d)+m*Ag d+c+w=Ag (u.take d.length)+4294967296 ^ d.length*(Eb m c d+Dq m c w u d)
 |m,c,w,u,[],_,_,_=>by simp[DT,Eb,Dq,Ag]
 |m,c,w,u,x::d,hu,hw,hl=>by
  cases u with
  |nil=>simp at hl
  |cons y u=>
   have h1:=hu.cons;have h2:=AwU (m*x+c) (show 0<4294967296 by omega);have ih:=PM m ((m*x+c) / 4294967296) (if y<(m*x+c) % 4294967296+w then 1 else 0) u d h1.2 (by split<;>omega) (by simpa using hl);rw[DT,Eb,Dq,Ag,γ,Axo,Ag,Ag,Aw6,Aw2 (4294967296 ^ d.length) 4294967296,Aw3,Axs,AxO];have e:m*(x+4294967296*Ag d)=m*x+4294967296*(m*Ag d):=by
    grind
   rw[e];revert ih;generalize 4294967296 ^ d.length*(Eb m ((m*x+c) / 4294967296) d+Dq m ((m*x+c) / 4294967296) (if y<(m*x+c) % 4294967296+w then 1 else 0) u d)=z;generalize Ag (DT m ((m*x+c) / 4294967296) (if y<(m*x+c) % 4294967296+w then 1 else 0) u d)=s;generalize m*x=mx at *;generalize m*Ag d=md;intro ih;split
   .grind
   .grind
def Dr:Nat->Af->Af->Af
 |_,_,[]=>[]
 |c,u,x::d=>((u.headD 0+x+c) % 4294967296)::Dr ((u.headD 0+x+c) / 4294967296) u.tail d
def Dw:Nat->Af->Af->Nat
 |c,_,[]=>c
 |c,u,x::d=>Dw ((u.headD 0+x+c) / 4294967296) u.tail d
theorem EH:∀(c:Nat) (u d:Af),(Dr c u d).length=d.length
 |_,_,[]=>rfl
 |c,u,x::d=>by rw[Dr,γ,EH,γ]
theorem Ij:∀(c:Nat) (u d:Af),Limbs (Dr c u d)
 |_,_,[]=>BY
 |c,u,x::d=>Bv (AwU _ (by omega)) (Ij _ _ d)
theorem N2:∀(c:Nat) (u d:Af),Limbs u->Limbs d->c<=1->Dw c u d<=1
 |_,_,[],_,_,h=>h
 |c,u,x::d,hu,hd,hc=>by
  have h1:=Es hu;have h2:=hd.cons;exact N2 _ u.tail d hu.tail h2.2 (by omega)
theorem PN:∀(c:Nat) (u d:Af),d.length<=u.length->Ag (Dr c u d)+4294967296 ^ d.length*Dw c u d=c+Ag (u.take d.length)+Ag d
 |c,u,[],_=>by simp[Dr,Dw,Ag]
 |c,u,x::d,hl=>by
  cases u with
  |nil=>simp at hl
  |cons y u=>
   have ih:=PN ((y+x+c) / 4294967296) u d (by simpa using hl);rw[Dr,Dw,Ag,γ,Axo,Ag,Ag,Aw6,Aw2 (4294967296 ^ d.length) 4294967296,Aw3,Axs,AxO];revert ih;generalize 4294967296 ^ d.length*Dw ((y+x+c) / 4294967296) u d=z;generalize Ag (Dr ((y+x+c) / 4294967296) u d)=s;intro ih;omega
theorem Zf{p s mv u ul t B:Nat}(ht:t<=B)(hul:ul<B)(h1:s+mv=u+p*t):s+p*((ul+B-t) % B)+mv=u+p*ul+(if ul<t then p*B else 0):=by
 by_cases h:ul<t
 .rw[Ac h,Aw8 (by omega)]
  have e:p*(ul+B-t)+p*t=p*ul+p*B:=by
   rw[←Axu,show ul+B-t+t=ul+B by omega,Axu]
  omega
 .have e0:(ul+B-t) % B=ul-t:=by
   rw[show ul+B-t=(ul-t)+B by omega,Nat.add_mod_right,Aw8 (by omega)]
  rw[Ad h,e0];have e:p*(ul-t)+p*t=p*ul:=by rw[←Axu,show ul-t+t=ul by omega]
  omega
theorem Abd{u d:Af}{m ul:Nat}(hu:Limbs u)(hd:Limbs d)(hl:u.length=d.length)(hm:m<4294967296)(hul:ul<4294967296) :
  Ag (DT m 0 0 u d++[(ul+4294967296-(Eb m 0 d+Dq m 0 0 u d)) % 4294967296])+m*Ag d=Ag (u++[ul])+(if ul<Eb m 0 d+Dq m 0 0 u d then 4294967296 ^ (d.length+1) else 0):=by
 have h1:=PM m 0 0 u d hu (Awz _) (AzU hl.symm);have h2:=NY m 0 d hm hd (by decide);have h3:=N0 m 0 0 u d (Awz _);have ht:Eb m 0 d+Dq m 0 0 u d<=4294967296:=by omega
 rw[Aw5 (AzU hl)]at h1;rw[BV,BV,GC,hl,Aw6];have e:∀ x,Ag [x]=x:=λx=>by simp[Ag]
 rw[e,e];exact Zf ht hul h1
theorem Abi{u d:Af}{ul:Nat}(hu:Limbs u)(hd:Limbs d)(hl:u.length=d.length)(hul:ul<4294967296) :
  Ag (Dr 0 u d++[(ul+Dw 0 u d) % 4294967296])=(Ag (u++[ul])+Ag d) % 4294967296 ^ (d.length+1):=by
 have h1:=PN 0 u d (by omega);have h2:=N2 0 u d hu hd (by omega);have h3:=BM (C1 (Ij 0 u d) (Bv (AwU (ul+Dw 0 u d) (show 0<4294967296 by omega)) BY));rw[List.length_append,EH,List.length_singleton]at h3;rw[Aw5 (by omega)]at h1;rw[BV,EH]at h3;rw[BV,BV,EH];simp only[Ag,Ayt,Aw1,Nat.zero_add]at h1 h3 ⊢;rw[hl];have e:=AyL (ul+Dw 0 u d) 4294967296;have e2:Ag u+4294967296 ^ d.length*ul+Ag d=Ag (Dr 0 u d)+4294967296 ^ d.length*((ul+Dw 0 u d) % 4294967296)+4294967296 ^ (d.length+1)*((ul+Dw 0 u d) / 4294967296):=by
  grind
 rw[e2,Nat.add_mul_mod_self_left,Aw8 h3]
theorem DP{a b:Int}(h:a=b){x y:KR}:br (Ap.eq a b) x y=x:=by rw[Ar5,BT h];rfl
theorem AG{a b:Int}{x y z:KR}(g:x=z)(h: a=b:=by omega):br (Ap.eq a b) x y=z:=(DP h).trans g
theorem EI{a b:Int}(h:¬ a=b){x y:KR}:br (Ap.eq a b) x y=y:=by rw[Ar5,BX h];rfl
theorem Ay{a b:Int}{x y z:KR}(g:y=z)(h:¬ a=b:=by omega):br (Ap.eq a b) x y=z:=(EI h).trans g
theorem Afx{a b:ByteArray}(h:a=b){x y:KR}:br (Ap.seq a b) x y=x:=by rw[Ar9,BT h];rfl
theorem Akr{a b:ByteArray}{x y z:KR}(h: a=b)(g:x=z):br (Ap.seq a b) x y=z:=(Afx h).trans g
theorem N8{a b:Int}(h:a<b){x y:KR}:br (Ap.lt a b) x y=x:=by rw[Ar7,BT h];rfl
theorem AB{a b:Int}{x y z:KR}(g:x=z)(h: a<b:=by omega):br (Ap.lt a b) x y=z:=(N8 h).trans g
theorem Da{a b:Int}(h:¬ a<b){x y:KR}:br (Ap.lt a b) x y=y:=by rw[Ar7,BX h];rfl
theorem AA{a b:Int}{x y z:KR}(g:y=z)(h:¬ a<b:=by omega):br (Ap.lt a b) x y=z:=(Da h).trans g
theorem RR{a b:Int}(h:a<=b){x y:KR}:br (Ap.le a b) x y=x:=by rw[Ar6,BT h];rfl
theorem Cs{a b:Int}{x y z:KR}(g:x=z)(h: a≤b:=by omega):br (Ap.le a b) x y=z:=(RR h).trans g
theorem N7{a b:Int}(h:¬ a<=b){x y:KR}:br (Ap.le a b) x y=y:=by rw[Ar6,BX h];rfl
theorem CN{a b:Int}{x y z:KR}(g:y=z)(h:¬ a≤b:=by omega):br (Ap.le a b) x y=z:=(N7 h).trans g
section
open Go.RowKit
def Yq:MFn:=AN [⟨21,(mB 9),[],[],[(1,((mB 9),([],[])))]⟩] 200
def Un:Hnt:=⟨[],[(0,[(1,([.ls,.int .i64],[]))])],[(12,[.int .u32]),(13,[.int .u32])]⟩
def AmH:MFn:=AN [] 202
def AlS:Hnt:=⟨[(200,(.ls,[])),(236,(.sl 0 1,[.row Δ]))],[],[]⟩
def AmD:MFn:=AN [] 184
def AlO:Hnt:=⟨[(202,(.ls,[]))],[],[]⟩
def Yr:MFn:=AN [⟨49,(mB 35),[],[],[(0,((mB 16),([],[]))),(2,([],([],[])))]⟩] 201
def Uo:Hnt:=⟨[(200,(.ls,[]))],[(0,[(0,([.int .i64],[])),(2,([],[]))])],[(32,[.int .u32]),(33,[.int .u32]),(36,[.int .u32]),(37,[.int .u32]),(42,[.int .u32]),(43,[.int .u32]),(46,[.int .u32]),(47,[.int .u32])]⟩
def Yn:MFn:=AN [⟨61,(mB 234881122),[(5,1)],[],[(1,((mB 96),([],[])))]⟩] 197
def Ul:Hnt:=⟨[(200,(.ls,[])),(202,(.ls,[]))],[(0,[(1,([.sl 1 1,.int .u64],[.del,.row Δ]))])],[(30,[.int .u32]),(31,[.int .u32]),(43,[.int .u32]),(44,[.int .u32])]⟩
def Yo:MFn:=AN [⟨59,(mB 58720450),[(6,1)],[],[(1,((mB 64),([],[])))]⟩] 198
def Um:Hnt:=⟨[(200,(.ls,[])),(201,(.int .i64,[])),(202,(.ls,[]))],[(0,[(1,([.sl 1 1],[.del,.row Δ]))])],[(28,[.int .u32]),(29,[.int .u32]),(38,[.int .u32]),(39,[.int .u32])]⟩
def Q0:MFn:=AN [⟨68,(mB 1835042),[],[],[(1,((mB 32),([],[])))]⟩,⟨68,(mB 236716514),[],[],[(3,((mB 1835362),([],[])))]⟩] 243
def MN:Hnt:=⟨[(202,(.ls,[]))],[(0,[(1,([.sl 1 1],[.del,.row Δ]))]),(1,[(3,([.ls,.sl 1 1,.int .i64,.int .u64,.ls,.int .i64,.int .i64],[.del,.row Δ]))])],[(23,[.int .u32]),(24,[.int .u32]),(30,[.int .u32]),(31,[.int .u32]),(41,[.int .u32]),(42,[.int .u32]),(53,[.int .u32]),(64,[.int .u32])]⟩
def AmJ:MFn:=AN [] 212
def AlU:Hnt:=⟨[(200,(.ls,[])),(243,(.ls,[])),(244,(.ls,[]))],[],[]⟩
def Jy:List (Nat × MFn):=[(200,Yq),(202,AmH),(184,AmD),(201,Yr),(197,Yn),(198,Yo),(243,Q0),(212,AmJ)]
variable (A:Ar) (D:Orc)
theorem AtK(x0:Rw):B3 A D Au Un .n 200 Yq [Ψ x0] [] =
 Ai D (Awa 200 0) [Ψ x0,iv ↑(AT x0)] [] [.t,.C,.x,.X,.Y] λc l o=>
 br (BA 1 c)
 (dk [.L,.I,.N,.E] [.l l,.o o] λxs n=>
 unI n λi=>
 br (HY 0 i (AT xs)) (br (EG 1 xs) (Θ ((Ψ (HL (HT xs i) 0),[]))) Ξ) Ξ)
 (Ξ):=by kernel_rfl
theorem AbY(t0:Rw)(t3:Int):Dc A D Au Un .n 200 0 (A1 Yq 0).fst (A1 Yq 0).snd [Ψ t0,iv t3] [] =
 br (A.lt 0 t3)
 (unI (A.sub ω t3 1) λi=>
 Bw t0 i λcs=>
 dk [.J .u32,.N] [.l cs] λn=>
 br (A.eq n 0)
 (AW D (Awa 200 0) [Ψ t0,iv (A.sub ω t3 1)] [] λr o=>
 AS 0 [] (AH.mk [] 0 Ξ) [] r o)
 (Θ ((Awe [iv 0,Ψ t0,iv t3],[]))))
 (Θ ((Awe [iv 0,Ψ t0,iv t3],[]))):=by kernel_rfl
theorem AtM(x0:Rw):B3 A D Au AlS .n 202 AmH [Ψ x0] [] =
 Ai D (φ 200) [Ψ x0] [] [.l,.E] λxs=>
 Ai D (φ 236) [Ψ xs] [] [.q 0 1,.R,.X,.E] λn cs=>
 br ((0+n*1).ble cs.length) (Θ ((Ψ (Bo n 1 (κ (n*1) cs)),[]))) Ξ:=by kernel_rfl
theorem AtB(x0:Int):B3 A D Au AlO .n 184 AmD [Awc (Value.int Ω x0)] [] =
 br (A.lt 32 0)
 (Ξ)
 (Ai D (φ 202) [Ψ [[Awc (Value.int ζ (A.conv ζ x0))],[Awc (Value.int ζ (A.conv ζ (A.shr Ω x0 32)))]]] [] [.l,.E] λxs=>
 Θ ((Ψ xs,[]))):=by kernel_rfl
theorem AtL(x0 x1:Rw):B3 A D Au Uo .n 201 Yr [Ψ x0,Ψ x1] [] =
 Ai D (φ 200) [Ψ x0] [] [.l,.E] λxs=>
 Ai D (φ 200) [Ψ x1] [] [.l,.E] λxs1=>
 br (A.lt ↑(AT xs) ↑(AT xs1))
 (Θ ((iv (-1),[])))
 (br (A.lt ↑(AT xs1) ↑(AT xs))
 (Θ ((iv 1,[])))
 (Ai D (Awa 201 0) [Ψ xs,Ψ xs1,iv (A.sub ω (↑(AT xs)) 1)] [] [.t,.C,.x,.X,.Y] λc l o2=>
 br (BA 0 c)
 (dk [.I,.N,.E] [.l l,.o o2] λn=>
 Θ ((iv n,[])))
 (br (BA 2 c)
 (FQ l<|
 D2 o2<|
 Θ ((iv 0,[])))
 (Ξ)))):=by kernel_rfl
theorem AbZ(t0 t1:Rw)(t5:Int):Dc A D Au Uo .n 201 0 (A1 Yr 0).fst (A1 Yr 0).snd [Ψ t0,Ψ t1,iv t5] [] =
 br (A.le 0 t5)
 (unI t5 λi=>
 Bw t0 i λcs=>
 dk [.J .u32,.N] [.l cs] λn=>
 unI t5 λi1=>
 Bw t1 i1 λcs1=>
 dk [.J .u32,.N] [.l cs1] λn1=>
 br (A.lt n n1)
 (Θ ((Awe [bv Δ,iv (-1)],[])))
 (unI t5 λi2=>
 Bw t0 i2 λcs2=>
 dk [.J .u32,.N] [.l cs2] λn2=>
 unI t5 λi3=>
 Bw t1 i3 λcs3=>
 dk [.J .u32,.N] [.l cs3] λn3=>
 br (A.lt n3 n2)
 (Θ ((Awe [bv Δ,iv 1],[])))
 (AW D (Awa 201 0) [Ψ t0,Ψ t1,iv (A.sub ω t5 1)] [] λr o=>
 AS 0 [] (AH.mk [] 0 Ξ) [] r o)))
 (Θ ((Awe [iv 1],[]))):=by kernel_rfl
theorem AtH(x0 x1:Rw):B3 A D Au Ul .n 197 Yn [Ψ x0,Ψ x1] [] =
 Ai D (φ 200) [Ψ x0] [] [.l,.E] λxs=>
 Ai D (φ 200) [Ψ x1] [] [.l,.E] λxs1=>
 br (A.lt ↑(AT xs) ↑(AT xs1))
 (unI (A.add ω (↑(AT xs1)) 1) λi=>
 br (Ba i 4) (AW D (Awa 197 0) [Ψ xs,υ 0 0 0 1,Awc (Value.int Ω 0),Ψ xs1,iv ↑(AT xs1),iv 0] [θ [] Δ Δ] λr2 o2=>
 dk [.t,.C,.x,.X] [.v r2] λc l=>
 br (BA 1 c)
 (dk [.C,.q 1 1,.J .u64,.N,.D,.R,.X,.E] [.l l,.o o2] λn n1 cs1=>
 br (Ba (n+1) 4) (br ((0+n*1).ble cs1.length) (br ((0+(n+1)*1).ble (Av8 0 (κ (0+n*1) cs1)++[Awc (Value.int ζ (A.conv ζ n1))]).length) (AW D (φ 202) [Ψ (Bo (n+1) 1 (κ ((n+1)*1) (Av8 0 (Av8 0 (κ (0+n*1) cs1)++[Awc (Value.int ζ (A.conv ζ n1))]))))] [] λr3 o3=>
 dk [.l,.E] [.v r3,.o o3] λxs2=>
 Θ ((Ψ xs2,[]))) Ξ) Ξ) Ξ)
 (Ξ)) Ξ)
 (unI (A.add ω (↑(AT xs)) 1) λi=>
 br (Ba i 4) (AW D (Awa 197 0) [Ψ xs1,υ 0 0 0 1,Awc (Value.int Ω 0),Ψ xs,iv ↑(AT xs),iv 0] [θ [] Δ Δ] λr2 o2=>
 dk [.t,.C,.x,.X] [.v r2] λc l=>
 br (BA 1 c)
 (dk [.C,.q 1 1,.J .u64,.N,.D,.R,.X,.E] [.l l,.o o2] λn n1 cs1=>
 br (Ba (n+1) 4) (br ((0+n*1).ble cs1.length) (br ((0+(n+1)*1).ble (Av8 0 (κ (0+n*1) cs1)++[Awc (Value.int ζ (A.conv ζ n1))]).length) (AW D (φ 202) [Ψ (Bo (n+1) 1 (κ ((n+1)*1) (Av8 0 (Av8 0 (κ (0+n*1) cs1)++[Awc (Value.int ζ (A.conv ζ n1))]))))] [] λr3 o3=>
 dk [.l,.E] [.v r3,.o o3] λxs2=>
 Θ ((Ψ xs2,[]))) Ξ) Ξ) Ξ)
 (Ξ)) Ξ):=by kernel_rfl
theorem AbW(t1:Rw)(n5:Nat)(c5:Ab)(t6:Int)(t25:Rw)(t26 t27:Int):Dc A D Au Ul .n 197 0 (A1 Yn 0).fst (A1 Yn 0).snd [Ψ t1,υ 0 0 n5 1,Awc (Value.int Ω t6),Ψ t25,iv t26,iv t27] [{ cells:=c5,st:=Δ,ex:=Δ }] =
 br (A.lt t27 t26)
 (unI t27 λi=>
 Bw t25 i λcs=>
 dk [.J .u32,.N] [.l cs] λn=>
 br (A.lt t27 ↑(AT t1))
 (unI t27 λi1=>
 Bw t1 i1 λcs1=>
 dk [.J .u32,.N] [.l cs1] λn1=>
 br (Ba (n5+1) 4) (br ((0+n5*1).ble c5.length) (br (A.lt 32 0)
 (Ξ)
 (AW D (Awa 197 0) [Ψ t1,υ 0 0 (n5+1) 1,Awc (Value.int Ω (A.shr Ω (A.add Ω (A.add Ω (A.conv Ω n) t6) (A.conv Ω n1)) 32)),Ψ t25,iv t26,iv (A.add ω t27 1)] [θ (Av8 0 (κ (0+n5*1) c5)++[Awc (Value.int ζ (A.conv ζ (A.add Ω (A.add Ω (A.conv Ω n) t6) (A.conv Ω n1))))]) Δ Δ] λr o=>
 AS 1 [2] (AH.mk [(2,θ (Av8 0 (κ (0+n5*1) c5)++[Awc (Value.int ζ (A.conv ζ (A.add Ω (A.add Ω (A.conv Ω n) t6) (A.conv Ω n1))))]) Δ Δ),(1,θ [Awc (Value.int ζ (A.conv ζ (A.add Ω (A.add Ω (A.conv Ω n) t6) (A.conv Ω n1))))] Δ Δ)] 3 Ξ) [0] r o)) Ξ) Ξ)
 (br (Ba (n5+1) 4) (br ((0+n5*1).ble c5.length) (br (A.lt 32 0)
 (Ξ)
 (AW D (Awa 197 0) [Ψ t1,υ 0 0 (n5+1) 1,Awc (Value.int Ω (A.shr Ω (A.add Ω (A.conv Ω n) t6) 32)),Ψ t25,iv t26,iv (A.add ω t27 1)] [θ (Av8 0 (κ (0+n5*1) c5)++[Awc (Value.int ζ (A.conv ζ (A.add Ω (A.conv Ω n) t6)))]) Δ Δ] λr o=>
 AS 1 [2] (AH.mk [(2,θ (Av8 0 (κ (0+n5*1) c5)++[Awc (Value.int ζ (A.conv ζ (A.add Ω (A.conv Ω n) t6)))]) Δ Δ),(1,θ [Awc (Value.int ζ (A.conv ζ (A.add Ω (A.conv Ω n) t6)))] Δ Δ)] 3 Ξ) [0] r o)) Ξ) Ξ))
 (Θ ((Awe [iv 0,υ 1 0 n5 1,Awc (Value.int Ω t6)],[BO.del,Awn (θ c5 Δ Δ)]))):=by kernel_rfl
theorem AtI(x0 x1:Rw):B3 A D Au Um .n 198 Yo [Ψ x0,Ψ x1] [] =
 Ai D (φ 200) [Ψ x0] [] [.l,.E] λxs=>
 Ai D (φ 200) [Ψ x1] [] [.l,.E] λxs1=>
 Ai D (φ 201) [Ψ xs,Ψ xs1] [] [.i,.E] λn=>
 br (A.lt n 0)
 (Θ ((Awe [Ψ [],bv false],[])))
 (br (Ba (AT xs) 4) (AW D (Awa 198 0) [Ψ xs1,υ 0 0 0 1,Awc (Value.int Ω 0),Ψ xs,iv ↑(AT xs),iv 0] [θ [] Δ Δ] λr3 o3=>
 dk [.t,.C,.x,.X] [.v r3] λc l=>
 br (BA 1 c)
 (dk [.C,.q 1 1,.N,.D,.R,.X,.E] [.l l,.o o3] λn1 cs1=>
 br ((0+n1*1).ble cs1.length) (AW D (φ 202) [Ψ (Bo n1 1 (κ (n1*1) cs1))] [] λr4 o4=>
 Mr r4 λxs2=>
 D2 o4<|
 Θ ((Awe [Ψ xs2,bv Δ],[]))) Ξ)
 (Ξ)) Ξ):=by kernel_rfl
theorem AbX(t1:Rw)(n6:Nat)(c6:Ab)(t7:Int)(t23:Rw)(t24 t25:Int):Dc A D Au Um .n 198 0 (A1 Yo 0).fst (A1 Yo 0).snd [Ψ t1,υ 0 0 n6 1,Awc (Value.int Ω t7),Ψ t23,iv t24,iv t25] [{ cells:=c6,st:=Δ,ex:=Δ }] =
 br (A.lt t25 t24)
 (unI t25 λi=>
 Bw t23 i λcs=>
 dk [.J .u32,.N] [.l cs] λn=>
 br (A.lt t25 ↑(AT t1))
 (unI t25 λi1=>
 Bw t1 i1 λcs1=>
 dk [.J .u32,.N] [.l cs1] λn1=>
 br (A.lt (A.conv Ω n) (A.add Ω t7 (A.conv Ω n1)))
 (br (Ba (n6+1) 4) (br ((0+n6*1).ble c6.length) (AW D (Awa 198 0) [Ψ t1,υ 0 0 (n6+1) 1,Awc (Value.int Ω 1),Ψ t23,iv t24,iv (A.add ω t25 1)] [θ (Av8 0 (κ (0+n6*1) c6)++[Awc (Value.int ζ (A.conv ζ (A.sub Ω (A.add Ω (A.conv Ω n) 4294967296) (A.add Ω t7 (A.conv Ω n1)))))]) Δ Δ] λr o=>
 AS 1 [2] (AH.mk [(2,θ (Av8 0 (κ (0+n6*1) c6)++[Awc (Value.int ζ (A.conv ζ (A.sub Ω (A.add Ω (A.conv Ω n) 4294967296) (A.add Ω t7 (A.conv Ω n1)))))]) Δ Δ),(1,θ [Awc (Value.int ζ (A.conv ζ (A.sub Ω (A.add Ω (A.conv Ω n) 4294967296) (A.add Ω t7 (A.conv Ω n1)))))] Δ Δ)] 3 Ξ) [0] r o) Ξ) Ξ)
 (br (Ba (n6+1) 4) (br ((0+n6*1).ble c6.length) (AW D (Awa 198 0) [Ψ t1,υ 0 0 (n6+1) 1,Awc (Value.int Ω 0),Ψ t23,iv t24,iv (A.add ω t25 1)] [θ (Av8 0 (κ (0+n6*1) c6)++[Awc (Value.int ζ (A.conv ζ (A.sub Ω (A.conv Ω n) (A.add Ω t7 (A.conv Ω n1)))))]) Δ Δ] λr o=>
 AS 1 [2] (AH.mk [(2,θ (Av8 0 (κ (0+n6*1) c6)++[Awc (Value.int ζ (A.conv ζ (A.sub Ω (A.conv Ω n) (A.add Ω t7 (A.conv Ω n1)))))]) Δ Δ),(1,θ [Awc (Value.int ζ (A.conv ζ (A.sub Ω (A.conv Ω n) (A.add Ω t7 (A.conv Ω n1)))))] Δ Δ)] 3 Ξ) [0] r o) Ξ) Ξ))
 (br (A.lt (A.conv Ω n) t7)
 (br (Ba (n6+1) 4) (br ((0+n6*1).ble c6.length) (AW D (Awa 198 0) [Ψ t1,υ 0 0 (n6+1) 1,Awc (Value.int Ω 1),Ψ t23,iv t24,iv (A.add ω t25 1)] [θ (Av8 0 (κ (0+n6*1) c6)++[Awc (Value.int ζ (A.conv ζ (A.sub Ω (A.add Ω (A.conv Ω n) 4294967296) t7)))]) Δ Δ] λr o=>
 AS 1 [2] (AH.mk [(2,θ (Av8 0 (κ (0+n6*1) c6)++[Awc (Value.int ζ (A.conv ζ (A.sub Ω (A.add Ω (A.conv Ω n) 4294967296) t7)))]) Δ Δ),(1,θ [Awc (Value.int ζ (A.conv ζ (A.sub Ω (A.add Ω (A.conv Ω n) 4294967296) t7)))] Δ Δ)] 3 Ξ) [0] r o) Ξ) Ξ)
 (br (Ba (n6+1) 4) (br ((0+n6*1).ble c6.length) (AW D (Awa 198 0) [Ψ t1,υ 0 0 (n6+1) 1,Awc (Value.int Ω 0),Ψ t23,iv t24,iv (A.add ω t25 1)] [θ (Av8 0 (κ (0+n6*1) c6)++[Awc (Value.int ζ (A.conv ζ (A.sub Ω (A.conv Ω n) t7)))]) Δ Δ] λr o=>
 AS 1 [2] (AH.mk [(2,θ (Av8 0 (κ (0+n6*1) c6)++[Awc (Value.int ζ (A.conv ζ (A.sub Ω (A.conv Ω n) t7)))]) Δ Δ),(1,θ [Awc (Value.int ζ (A.conv ζ (A.sub Ω (A.conv Ω n) t7)))] Δ Δ)] 3 Ξ) [0] r o) Ξ) Ξ)))
 (Θ ((Awe [iv 0,υ 1 0 n6 1],[BO.del,Awn (θ c6 Δ Δ)]))):=by kernel_rfl
theorem AtX(x0 x1:Rw):B3 A D Au MN .n 243 Q0 [Ψ x0,Ψ x1] [] =
 unI (A.add ω ↑(AT x0) ↑(AT x1)) λi=>
 unI (A.add ω ↑(AT x0) ↑(AT x1)) λi1=>
 br (i.ble i1) (br (Ba i1 4) (AW D (Awa 243 0) [Ψ x1,υ 0 0 i 1,Ψ x0,iv ↑(AT x0),iv 0] [θ (Ch [Awc (Value.int ζ 0)] (i*1)) Δ Δ] λr o=>
 dk [.t,.C,.x,.X] [.v r] λc l=>
 br (BA 1 c)
 (dk [.C,.q 1 1,.N,.D,.R,.X,.E] [.l l,.o o] λn cs1=>
 br ((0+n*1).ble cs1.length) (AW D (φ 202) [Ψ (Bo n 1 (κ (n*1) cs1))] [] λr1 o1=>
 Mr r1 λxs=>
 D2 o1<|
 Θ ((Ψ xs,[]))) Ξ)
 (Ξ)) Ξ) Ξ:=by kernel_rfl
theorem Ab7(t1:Rw)(n5:Nat)(c5:Ab)(t18:Rw)(t19 t20:Int):Dc A D Au MN .n 243 0 (A1 Q0 0).fst (A1 Q0 0).snd [Ψ t1,υ 0 0 n5 1,Ψ t18,iv t19,iv t20] [{ cells:=c5,st:=Δ,ex:=Δ }] =
 br (A.lt t20 t19)
 (unI t20 λi=>
 Bw t18 i λcs=>
 dk [.J .u32,.N] [.l cs] λn=>
 Ai D (Awa 243 1) [Ψ t1,υ 0 0 n5 1,iv t20,Awc (Value.int ζ n),Awc (Value.int Ω 0),Ψ t18,iv t19,iv t20,Ψ t1,iv ↑(AT t1),iv 0] [θ c5 Δ Δ] [.t,.C,.x,.X,.Y] λc l1 o=>
 br (BA 3 c)
 (dk [.L,.C,.q 1 1,.I,.J .u64,.L,.I,.I,.N,.D,.R,.X,.E] [.l l1,.o o] λxs n1 n2 n3 xs1 n4 n6 cs2=>
 unI (A.add ω n2 ↑(AT xs)) λi1=>
 br (i1.blt n1) (br ((0+i1*1+1).ble cs2.length) (AW D (Awa 243 0) [Ψ xs,υ 0 0 n1 1,Ψ xs1,iv n4,iv (A.add ω n6 1)] [θ (Bp cs2 (0+i1*1) [Awc (Value.int ζ (A.conv ζ n3))]) Δ Δ] λr1 o1=>
 AS 1 [1] (AH.mk [(1,θ (Bp cs2 (0+i1*1) [Awc (Value.int ζ (A.conv ζ n3))]) Δ Δ)] 2 Ξ) [0] r1 o1) Ξ) Ξ)
 (Ξ))
 (Θ ((Awe [iv 0,υ 1 0 n5 1],[BO.del,Awn (θ c5 Δ Δ)]))):=by kernel_rfl
theorem Ab8(t1:Rw)(n5:Nat)(c5:Ab)(t6 t7 t8:Int)(t18:Rw)(t19 t20:Int)(t25:Rw)(t26 t27:Int):Dc A D Au MN .n 243 1 (A1 Q0 1).fst (A1 Q0 1).snd [Ψ t1,υ 0 0 n5 1,iv t6,Awc (Value.int ζ t7),Awc (Value.int Ω t8),Ψ t18,iv t19,iv t20,Ψ t25,iv t26,iv t27] [{ cells:=c5,st:=Δ,ex:=Δ }] =
 br (A.lt t27 t26)
 (unI t27 λi=>
 Bw t25 i λcs=>
 dk [.J .u32,.N] [.l cs] λn=>
 unI (A.add ω t6 t27) λi1=>
 br (i1.blt n5) (Ia c5 (0+i1*1) 1 λcs1=>
 dk [.J .u32,.N] [.l cs1] λn1=>
 unI (A.add ω t6 t27) λi2=>
 br (i2.blt n5) (br ((0+i2*1+1).ble c5.length) (br (A.lt 32 0)
 (Ξ)
 (AW D (Awa 243 1) [Ψ t1,υ 0 0 n5 1,iv t6,Awc (Value.int ζ t7),Awc (Value.int Ω (A.shr Ω (A.add Ω (A.add Ω (A.mul Ω (A.conv Ω t7) (A.conv Ω n)) (A.conv Ω n1)) t8) 32)),Ψ t18,iv t19,iv t20,Ψ t25,iv t26,iv (A.add ω t27 1)] [θ (Bp c5 (0+i2*1) [Awc (Value.int ζ (A.conv ζ (A.add Ω (A.add Ω (A.mul Ω (A.conv Ω t7) (A.conv Ω n)) (A.conv Ω n1)) t8)))]) Δ Δ] λr o=>
 AS 1 [0] (AH.mk [(0,θ (Bp c5 (0+i2*1) [Awc (Value.int ζ (A.conv ζ (A.add Ω (A.add Ω (A.mul Ω (A.conv Ω t7) (A.conv Ω n)) (A.conv Ω n1)) t8)))]) Δ Δ)] 1 Ξ) [0] r o)) Ξ) Ξ) Ξ)
 (Θ ((Awe [iv 2,Ψ t1,υ 1 0 n5 1,iv t6,Awc (Value.int Ω t8),Ψ t18,iv t19,iv t20],[BO.del,Awn (θ c5 Δ Δ)]))):=by kernel_rfl
theorem AtT(x0 x1:Rw):B3 A D Au AlU .n 212 AmJ [Ψ x0,Ψ x1] [] =
 Ai D (φ 200) [Ψ x0] [] [.l,.E] λxs=>
 Ai D (φ 200) [Ψ x1] [] [.l,.E] λxs1=>
 br (A.lt (↑(AT xs)) 24)
 (Ai D (φ 243) [Ψ xs,Ψ xs1] [] [.l,.E] λxs2=>
 Θ ((Ψ xs2,[])))
 (br (A.lt (↑(AT xs1)) 24)
 (Ai D (φ 243) [Ψ xs,Ψ xs1] [] [.l,.E] λxs2=>
 Θ ((Ψ xs2,[])))
 (Ai D (φ 244) [Ψ xs,Ψ xs1] [] [.l,.E] λxs2=>
 Θ ((Ψ xs2,[])))):=by kernel_rfl
end
theorem N6{B:Nat}{W w:World}(h:Below B W w):Below B W w.drew:=h.drew
theorem G9{w w':World}(h:Below w.drew.heap.size w.drew w'):Below w.heap.size w w':=⟨h.os,h.tape,h.output,h.size,h.block⟩
theorem CD{W w w':World}(h:Below W.heap.size W w)(hb:Below w.heap.size w w'):Below W.heap.size W w':=h.trans (hb.mono h.size)
theorem Bx(w:World)(o:Obj):Below w.heap.size w (w.alloc o):=(Below.refl _ _).alloc (π _) o
def Blk(w:World)(g:Nat)(t:TypeId)(cs:Array Value):Prop:=w.heap[g]? = Θ (.cells cs t (0,0))
section
variable {w w':World} {g:Nat} {t:TypeId} {cs:Array Value}
theorem Blk.lt(h:Blk w g t cs):g<w.heap.size:=by
 rcases AwS g w.heap.size with hlt|hge
 .exact hlt
 .unfold Blk at h;rw[Array.getElem?_eq_none hge]at h;cases h
theorem Blk.cell(h:Blk w g t cs)(i:Nat):w.cell? ⟨g,i,Ξ⟩=cs[i]?:=cell_of_row w g i cs t (0,0) h
theorem Blk.frozen(h:Blk w g t cs)(i:Nat):w.frozen? ⟨g,i,Ξ⟩=false:=by
 unfold Blk at h;simp[World.frozen?,h]
theorem Blk.new(w:World)(t:TypeId)(cs:Array Value):Blk (w.alloc (.cells cs t)) w.heap.size t cs:=heap_alloc_new w _
theorem Blk.drew(h:Blk w g t cs):Blk w.drew g t cs:=h
theorem Blk.alloc(h:Blk w g t cs)(o:Obj):Blk (w.alloc o) g t cs:=(Below.heap_alloc w o g h.lt).trans h
theorem Blk.set_(h:Blk w g t cs)(i:Nat)(u:Value):Blk (w.setCell ⟨g,i,Ξ⟩ u) g t (cs.setIfInBounds i u):=by
 unfold Blk at h ⊢;simp[World.setCell,Array.getElem?_modify,h]
theorem Blk.far(h:Blk w g t cs){p:Addr}(hp:g≠p.block)(u:Value):Blk (w.setCell p u) g t cs:=(Below.heap_setCell w p u g hp).trans h
theorem Blk.below{B:Nat}(h:Blk w g t cs)(hb:Below B w w')(hg:g<B):Blk w' g t cs:=(hb.block g hg).trans h
theorem Blk.call(h:Blk w g t cs)(hb:Below w.heap.size w w'):Blk w' g t cs:=h.below hb h.lt
end
def Own(w:World)(B g:Nat)(t:TypeId)(v:Value)(cs:Array Value):Prop:=B<=g/\v=.pointer (Θ ⟨g,0,Ξ⟩)/\Blk w g t cs
section
variable {w w':World} {B g:Nat} {t:TypeId} {v:Value} {cs:Array Value}
theorem Own.call(h:Own w B g t v cs)(hb:Below w.heap.size w w'):Own w' B g t v cs:=⟨h.1,h.2.1,h.2.2.call hb⟩
end
def pick{α:Type}(d:Bool)(x y:α):α:=match d with|true=>x|false=>y
section
variable {w w':World} {base base' e size n:Nat} {v:Value} {xs:AO}
theorem OC{row:Option Nat}(hb:Below w.heap.size w w'):w.grownBy w' row:=⟨hb.os,hb.tape,hb.output,hb.size,λk hk _=>hb.block k hk⟩
theorem UT(h:w.ownsRow base e size v n xs)(hb:Below w.heap.size w w'):w'.ownsRow base e size v n xs:=h.kept (row:=Ξ) (OC hb) (by cases hv:v.ownBlock<;>simp)
theorem GQ(h:w.ownsRow base e size v n xs):∃ A c,v=.slice A n c:=by
 rcases h.2 with⟨h1,h0⟩|⟨g,cap,cur,h1,_⟩
 .exact⟨Ξ,0,by rw[h1,h0]⟩
 .exact⟨_,_,h1⟩
end
