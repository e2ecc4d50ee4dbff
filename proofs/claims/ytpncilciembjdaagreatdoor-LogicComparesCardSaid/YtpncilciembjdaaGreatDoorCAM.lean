/- Seats of D: contracts fr -/
import Derived.Test.YtpncilciembjdaaGreatDoorCAL
import Derived.Test.YtpncilciembjdaaGreatDoorChecked
import Derived.WalkKit
import Derived.WalkSpells
import Derived.WalkLawsBesides
import Derived.Deep.Draws
import Derived.Lib.Hide
set_option linter.all false
open Bool renaming true->Δ,and_eq_true->AtI
open List renaming all_eq_true->AtN,drop->AtD,flatten_cons->AuL,getElem?_cons_succ->AtS,headD_cons->AuX,length_cons->γ,length_eq_zero_iff->AwG,mem_cons->AtC,tail_cons->Avj,take->ο,take_of_length_le->AuD,take_succ_cons->Avl
open Nat renaming add_mul->Aue,add_zero->Aun,beq->Aug,div_add_mod->Awf,le_of_eq->AxB,le_refl->η,lt_or_ge->At8,mod_eq_of_lt->AuK,mod_lt->Auo,mul_add->Auz,mul_assoc->At6,mul_comm->Auj,mul_le_mul_left->Avf,mul_le_mul_right->AtU,mul_zero->AwD,one_mul->AuP,pow_le_pow_right->Au9,pow_succ->AuM,strongRecOn->Au5,zero_le->At7
open Option renaming none->Ξ,some->Θ
namespace Go.Proofs.YtpncilciembjdaaGreatDoor
noncomputable section
open ABlk renaming mk->δ
open AV renaming ls->Ψ,sl->χ,tup->υ,v->AtO
open BO renaming set->AtH
open IntKind renaming i64->θ,u32->ζ,u64->Ω
open Key renaming fn->ω,lp->AtB
open Tryz renaming prog->ι
open Go.RowKit
def AqH:List AV->Option AV
 |[.v (.string s)]=>if s.size<=9223372036854775807 then Θ (bv (Ap6 s.data.toList)) else Ξ
 |_=>Ξ
def CU(res:List AV->Option AV):DF:=λargs bs=>match bs with
 |[]=>(res args).map λr=>(r,[])
 |_=>Ξ
def Nt(P:Program)(ents:Nat):List (Nat × MFn)->Prop
 |[]=>True
 |p::r=>(∃ hs a b,p.2=LO P ents hs a b p.1)/\Acu P p.1=Δ/\Nt P ents r
theorem PW{P:Program}{ents:Nat}:∀{L:List (Nat × MFn)},Nt P ents L->∀ f mf,(f,mf)∈L->FnOk P ents f mf
 |p::r,⟨⟨hs,a,b,h1⟩,h2,h3⟩,f,mf,hm=>by
  rcases AtC.1 hm with rfl|hm
  .have h1:mf=_:=h1
   rw[h1];exact AeI h2
  .exact PW h3 f mf hm
theorem PV{P:Program}{ents:Nat}:∀{L L':List (Nat × MFn)},Nt P ents L->Nt P ents L'->Nt P ents (L++L')
 |[],_,_,h=>h
 |_::_,_,⟨h1,h2,h3⟩,h=>⟨h1,h2,PV h3 h⟩
def Aba(P:Program)(ents n:Nat):Bool:=Nat.blt ents (2 ^ n)&&(List.range n).all λg=>!ents.testBit g||Gf P g
theorem Abb{P:Program}{ents n:Nat}(h:Aba P ents n=Δ):I9 P ents:=by
 unfold Aba at h;rw[AtI]at h;intro g hg;have hn:ents<2 ^ n:=Nat.blt_eq.mp h.1
 by_cases hgn:g<n
 .have:=AtN.1 h.2 g (List.mem_range.2 hgn)
  rw[hg]at this;simpa using this
 .have:ents<2 ^ g:=Nat.lt_of_lt_of_le hn (Au9 (by decide) (by omega))
  rw[Nat.testBit_lt_two_pow this]at hg
  cases hg
theorem N5{α:Type}{f:Nat}:∀{A B:List (Nat × α)},Cr f (A++B)=match Cr f A with
  |some a=>Θ a
  |none=>Cr f B
 |[],_=>rfl
 |(m,b)::r,B=>by
  have ih:=N5 (f:=f) (A:=r) (B:=B)
  show (match Aug f m with
   |true=>Θ b
   |false=>Cr f (r++B))=match (match Aug f m with
   |true=>Θ b
   |false=>Cr f r) with
   |some a=>Θ a
   |none=>Cr f B
  cases Aug f m with
  |true=>rfl
  |false=>exact ih
def Aan(A B:List (Nat × MFn)):Bool:=B.all λp=>(Cr p.1 A).isNone
theorem VB{A B:List (Nat × MFn)}(h:Aan A B=Δ){f:Nat}{mf:MFn}(hf:Cr f B=Θ mf):Cr f (A++B)=Θ mf:=by
 have:=AtN.1 h _ (Gi hf);have h0:Cr f A=Ξ:=Option.isNone_iff_eq_none.1 this;rw[N5,h0];exact hf
theorem YG{A B:List (Nat × MFn)}{f:Nat}{mf:MFn}(hf:Cr f A=Θ mf):Cr f (A++B)=Θ mf:=by
 rw[N5,hf]
def Gb(P:Program):List (Nat × DF)->Prop
 |[]=>True
 |p::r=>Be (Bk P p.1) p.2/\Gb P r
theorem Qg{P:Program}:∀{L:List (Nat × DF)},Gb P L->∀ f d,(f,d)∈L->Be (Bk P f) d
 |p::r,⟨h1,h2⟩,f,d,hm=>by
  rcases AtC.1 hm with rfl|hm
  .exact h1
  .exact Qg h2 f d hm
def Ga(P:Program)(ents:Nat):List (List (Nat × MFn))->Prop
 |[]=>True
 |T::r=>Nt P ents T/\Ga P ents r
theorem SL{P:Program}{ents:Nat}:∀{L:List (List (Nat × MFn))},Ga P ents L->Nt P ents L.flatten
 |[],_=>trivial
 |T::r,⟨h1,h2⟩=>by
  rw[AuL];exact PV h1 (SL h2)
theorem ED{P:Program}{ents:Nat}{own:List (Nat × Nat)}{L:List (List (Nat × MFn))}{X:List (Nat × DF)}(m:P.follows .mixedOrders=Δ)(e:I9 P ents)(a:Ga P ents L)(g:Gb P X):SeatOk P ents (Fr own L.flatten X) where
 mixed:=m
 ent:=e
 fns f mf h:=PW (SL a) f mf (Gi h)
 ext f d h:=Qg g f d (Gi h)
def GL:List (List (Nat × MFn))->Bool
 |[]=>Δ
 |T::r=>Aan T r.flatten&&GL r
theorem W1{f:Nat}{mf:MFn}:∀{L:List (List (Nat × MFn))} {i:Nat} {T:List (Nat × MFn)},GL L=Δ->L[i]? = Θ T->Cr f T=Θ mf->Cr f L.flatten=Θ mf
 |A::r,0,T,_,hi,h=>by
  injection hi with hi
  subst hi;rw[AuL];exact YG h
 |A::r,i+1,T,ha,hi,h=>by
  unfold GL at ha;rw[AtI]at ha;rw[AuL];exact VB ha.1 (W1 ha.2 hi h)
theorem Acd:∀{L:List (List (Nat × MFn))} {i:Nat} {T:List (Nat × MFn)},L[i]? = Θ T->∀ p∈T,p∈L.flatten
 |A::r,0,T,hi,p,hp=>by
  injection hi with hi
  subst hi;rw[AuL];exact List.mem_append_left _ hp
 |A::r,i+1,T,hi,p,hp=>by
  rw[AuL];exact List.mem_append_right _ (Acd (L:=r) hi p hp)
theorem Bv{own:List (Nat × Nat)}{L:List (List (Nat × MFn))}{X:List (Nat × DF)}(h:(GL L&&OQ L.flatten X)=Δ){i:Nat}{T:List (Nat × MFn)}(hi:L[i]? = Θ T):Knows own T (A1 Af (Fr own L.flatten X)):=by
 rw[AtI]at h;refine AbW (λf mf hf=>W1 h.1 hi hf) (AtN.2 λp hp=>AtN.1 h.2 p (Acd hi p hp))
def Bz:Nat:=1042962668542029374677668987337996011341198353761632795856419847799597962473998426758556155900
abbrev AC(h:J4)(n:Nat):MFn:=LO ι Bz h false false n
def mBg:Nat->Nat->List Bool
 | 0,_=>[]
 | k+1,n=>(match Aug n 0 with
  | true=>[]
  | false=>Aug (Nat.mod n 2) 1::mBg k (Nat.div n 2))
def mB(n:Nat):List Bool:=mBg 400 n
abbrev AK:List Sh:=[.bool,.ls]
abbrev Br:List Sh:=[.ls,.bool,.ls]
abbrev Bw:List Sh:=[.int .i64,.bool,.ls]
abbrev BD:List Sh:=[.int .i64,.ls,.bool,.ls,.bool,.ls]
abbrev Fs:List Sh:=[.ls,.bool,.ls,.bool]
def As:List (Nat × Nat):=[(262,0),(240,0),(241,0),(136,0),(196,0),(234,0),(235,0),(265,0),(275,0),(140,0),(199,0)]
theorem PN:Tryz.prog.follows .mixedOrders=Δ:=by kernel_rfl
set_option maxRecDepth 100000 in
theorem EB:I9 ι Bz:=Abb (n:=600) (by kernel_rfl)
def Ad:List Nat->Nat
 |[]=>0
 |x::r=>x+4294967296*Ad r
def Limbs(l:List Nat):Prop:=∀ x∈l,x<4294967296
def Ah(n:Nat):List Nat:=if n=0 then [] else(n % 4294967296)::Ah (n / 4294967296)
termination_by n
decreasing_by omega
theorem CR:Ah 0=[]:=by rw[Ah];rfl
theorem Fj{n:Nat}(h:n≠0):Ah n=(n % 4294967296)::Ah (n / 4294967296):=by rw[Ah,if_neg h]
theorem Ap:∀(n:Nat),Limbs (Ah n):=by
 intro n
 induction n using Au5 with
 |ind n ih=>
  by_cases h:n=0
  .subst h;rw[CR];intro x hx;cases hx
  .rw[Fj h]
   intro x hx;rcases AtC.1 hx with rfl|hx
   .exact Auo _ (by omega)
   .exact ih (n / 4294967296) (by omega) x hx
theorem AA:∀(n:Nat),Ad (Ah n)=n:=by
 intro n
 induction n using Au5 with
 |ind n ih=>
  by_cases h:n=0
  .subst h;rw[CR];rfl
  .rw[Fj h,Ad,ih (n / 4294967296) (by omega)]
   omega
theorem T5{n:Nat}:Ah n=[] ↔ n=0:=by
 constructor
 .intro h
  have:=AA n;rw[h]at this;exact this.symm
 .rintro rfl;exact CR
def CE:List Nat->Nat
 |[]=>0
 |x::r=>if CE r=0/\x=0 then 0 else CE r+1
theorem Cx:∀ l:List Nat,CE l<=l.length
 |[]=>η _
 |x::r=>by
  have:=Cx r;unfold CE;rw[γ];split<;>omega
theorem Limbs.cons{x:Nat}{r:List Nat}(h:Limbs (x::r)):x<4294967296/\Limbs r:=⟨h x (List.mem_cons_self ..),λy hy=>h y (List.mem_cons_of_mem _ hy)⟩
theorem BH:Limbs []:=λ_ h=>by cases h
theorem Bb{x:Nat}{r:List Nat}(h:x<4294967296)(h2:Limbs r):Limbs (x::r):=λy hy=>by
 rcases AtC.1 hy with rfl|hy
 .exact h
 .exact h2 y hy
theorem CJ{a b:List Nat}(h:Limbs a)(h2:Limbs b):Limbs (a++b):=λx hx=>by
 rcases List.mem_append.1 hx with hx|hx
 .exact h x hx
 .exact h2 x hx
theorem Limbs.take{l:List Nat}(h:Limbs l)(n:Nat):Limbs (l.take n):=λx hx=>h x (List.mem_of_mem_take hx)
theorem Limbs.drop{l:List Nat}(h:Limbs l)(n:Nat):Limbs (l.drop n):=λx hx=>h x (List.mem_of_mem_drop hx)
theorem Limbs.get{l:List Nat}(h:Limbs l){i:Nat}(hi:i<l.length):l[i]<4294967296:=h _ (List.getElem_mem hi)
theorem AdH:∀{l:List Nat},CE l=0->Ad l=0
 |[],_=>rfl
 |x::r,h=>by
  unfold CE at h;split at h
  .rename_i h2
   rw[Ad,AdH h2.1,h2.2]
  .omega
theorem AdM:∀{l:List Nat},Ad l=0->CE l=0
 |[],_=>rfl
 |x::r,h=>by
  rw[Ad]at h;unfold CE;rw[if_pos ⟨AdM (by omega),by omega⟩]
theorem IA:∀{l:List Nat},Limbs l->l.take (CE l)=Ah (Ad l)
 |[],_=>by rw[Ad,CR];rfl
 |x::r,h=>by
  obtain⟨h1,h2⟩:=h.cons;have ih:=IA h2;unfold CE;split
  .rename_i h3
   rw[List.take_zero,Ad,AdH h3.1,h3.2,CR]
  .rename_i h3
   have h0:Ad (x::r)≠0:=by
    intro h0;rw[Ad]at h0;exact h3 ⟨AdM (by omega),by omega⟩
   rw[Avl,Fj h0,Ad];have e1:(x+4294967296*Ad r) % 4294967296=x:=by omega
   have e2:(x+4294967296*Ad r) / 4294967296=Ad r:=by omega
   rw[e1,e2,ih]
theorem BG:∀(a b:List Nat),Ad (a++b)=Ad a+4294967296 ^ a.length*Ad b
 |[],b=>by simp[Ad]
 |x::r,b=>by
  rw[List.cons_append,Ad,BG r b,Ad,γ,AuM,Auz,←At6,Auj 4294967296 (4294967296 ^ r.length)];omega
theorem BM:∀{l:List Nat},Limbs l->Ad l<4294967296 ^ l.length
 |[],_=>by simp[Ad]
 |x::r,h=>by
  obtain⟨h1,h2⟩:=h.cons;have:=BM h2;rw[Ad,γ,AuM];omega
theorem Dz(l:List Nat)(h:Limbs l):(Ah (Ad l)).length=CE l:=by
 rw[←IA h,List.length_take];have:=Cx l;omega
theorem Bx{n k:Nat}(h:n<4294967296 ^ k):(Ah n).length<=k:=by
 induction k generalizing n with
 |zero=>
  have:n=0:=by simpa using h
  subst this;rw[CR];exact η _
 |succ k ih=>
  by_cases h0:n=0
  .subst h0;rw[CR];exact At7 _
  .rw[Fj h0,γ]
   have:n / 4294967296<4294967296 ^ k:=by
    rw[Nat.div_lt_iff_lt_mul (by omega)];rw[AuM]at h;exact h
   have:=ih this;omega
theorem Ig{n k:Nat}(h:4294967296 ^ k<=n):k<(Ah n).length:=by
 by_cases h2:k<(Ah n).length
 .exact h2
 .have h3:=BM (Ap n)
  rw[AA]at h3;have h4:4294967296 ^ (Ah n).length<=4294967296 ^ k:=Au9 (by omega) (by omega);omega
theorem QQ:∀{l:List Nat},0<CE l->∃ x,l[CE l-1]? = Θ x/\x≠0
 |[],h=>by simp[CE]at h
 |y::r,h=>by
  by_cases h1:CE r=0
  .have h2:y≠0:=by
    intro h2;unfold CE at h;rw[if_pos ⟨h1,h2⟩]at h;omega
   refine⟨y,?_,h2⟩;unfold CE;rw[if_neg (λe=>h2 e.2),h1];rfl
  .obtain⟨x,h3,h4⟩:=QQ (l:=r) (by omega)
   refine⟨x,?_,h4⟩;unfold CE;rw[if_neg (λe=>h1 e.1)];have:CE r+1-1=(CE r-1)+1:=by omega
   rw[this,AtS,h3]
theorem Nq:∀{l:List Nat} {i x:Nat},l[i]? = Θ x->x≠0->i<CE l
 |[],i,x,h,_=>by simp at h
 |y::r,0,x,h,h2=>by
  have h:y=x:=by simpa using h
  unfold CE;rw[if_neg (λe=>h2 (by rw[←h];exact e.2))];omega
 |y::r,i+1,x,h,h2=>by
  rw[AtS]at h;have:=Nq h h2;unfold CE;rw[if_neg (λe=>by omega)];omega
theorem Mc{l:List Nat}{n:Nat}(h:CE l<=n+1)(h2:l[n]? = Θ 0):CE l<=n:=by
 by_cases h3:CE l=n+1
 .obtain⟨x,h4,h5⟩:=QQ (l:=l) (by omega)
  rw[h3,Nat.add_sub_cancel,h2]at h4;injection h4 with h4
  exact absurd h4.symm h5
 .omega
def eL(n:Nat):List AV:=[.v (.int .u32 (n:Int))]
def eN(l:List Nat):AV:=.ls (l.map eL)
theorem AB(x:Nat):(eL x).length=1:=rfl
def Lk:Nat->List Nat->List Nat->List Nat
 |c,[],_=>[c]
 |c,x::a,b=>((x+b.headD 0+c) % 4294967296)::Lk ((x+b.headD 0+c) / 4294967296) a b.tail
theorem D5{b:List Nat}(h:Limbs b):b.headD 0<4294967296:=by
 cases b with
 |nil=>simp
 |cons y b=>exact h.cons.1
theorem Limbs.tail{b:List Nat}(h:Limbs b):Limbs b.tail:=by
 cases b with
 |nil=>exact h
 |cons y b=>exact h.cons.2
theorem He(b:List Nat):Ad b=b.headD 0+4294967296*Ad b.tail:=by
 cases b<;>rfl
theorem Mh:∀(a b:List Nat) (c:Nat),b.length<=a.length->Ad (Lk c a b)=c+Ad a+Ad b
 |[],b,c,h=>by
  obtain rfl:b=[]:=AwG.1 (by simpa using h);simp[Lk,Ad]
 |x::a,b,c,h=>by
  have ih:=Mh a b.tail ((x+b.headD 0+c) / 4294967296) (by simp at h ⊢;omega);rw[Lk,Ad,ih,Ad,He b];omega
theorem Jq:∀(a b:List Nat) (c:Nat),Limbs a->Limbs b->c<=1->Limbs (Lk c a b)
 |[],b,c,_,_,hc=>Bb (by omega) BH
 |x::a,b,c,ha,hb,hc=>by
  have h1:=D5 hb;have h2:=ha.cons;exact Bb (Auo _ (by omega)) (Jq a b.tail _ h2.2 hb.tail (by omega))
def MV:Nat->Nat->List Nat->List Nat->List Nat
 |0,_,_,_=>[]
 |k+1,c,a,b=>((a.headD 0+b.headD 0+c) % 4294967296)::MV k ((a.headD 0+b.headD 0+c) / 4294967296) a.tail b.tail
theorem QW:∀(k c:Nat) (a b:List Nat),Ad (MV k c a b)=(c+Ad a+Ad b) % 4294967296 ^ k
 |0,c,a,b=>by simp[MV,Ad,Nat.mod_one]
 |k+1,c,a,b=>by
  have ih:=QW k ((a.headD 0+b.headD 0+c) / 4294967296) a.tail b.tail;rw[MV,Ad,ih,He a,He b,AuM,Auj (4294967296 ^ k) 4294967296,Nat.mod_mul];have e1:(c+(a.headD 0+4294967296*Ad a.tail)+(b.headD 0+4294967296*Ad b.tail)) % 4294967296=(a.headD 0+b.headD 0+c) % 4294967296:=by omega
  have e2:(c+(a.headD 0+4294967296*Ad a.tail)+(b.headD 0+4294967296*Ad b.tail)) / 4294967296=(a.headD 0+b.headD 0+c) / 4294967296+Ad a.tail+Ad b.tail:=by omega
  rw[e1,e2]
theorem Nv:∀(k c:Nat) (a b:List Nat),Limbs (MV k c a b)
 |0,_,_,_=>BH
 |k+1,c,a,b=>Bb (Auo _ (by omega)) (Nv k _ _ _)
def G8:Nat->List Nat->List Nat->List Nat
 |_,[],_=>[]
 |c,x::a,b=>(if x<b.headD 0+c then x+4294967296-(b.headD 0+c) else x-(b.headD 0+c))::G8 (if x<b.headD 0+c then 1 else 0) a b.tail
def So:Nat->List Nat->List Nat->Nat
 |c,[],_=>c
 |c,x::a,b=>So (if x<b.headD 0+c then 1 else 0) a b.tail
theorem X0:∀(a b:List Nat) (c:Nat),c<=1->So c a b<=1
 |[],_,_,h=>h
 |x::a,b,c,h=>X0 a b.tail _ (by split<;>omega)
theorem Q0:∀(a b:List Nat) (c:Nat),Limbs a->Limbs b->c<=1->b.length<=a.length->Ad (G8 c a b)+Ad b+c=Ad a+4294967296 ^ a.length*So c a b
 |[],b,c,_,_,_,h=>by
  obtain rfl:b=[]:=AwG.1 (by simpa using h);simp[G8,So,Ad]
 |x::a,b,c,ha,hb,hc,h=>by
  have h1:=D5 hb;have h2:=ha.cons;rw[G8,So,Ad,Ad,He b,γ,AuM];have ih:=Q0 a b.tail (if x<b.headD 0+c then 1 else 0) h2.2 hb.tail (by split<;>omega) (by simp at h ⊢;omega);rw[Auj (4294967296 ^ a.length) 4294967296,At6];revert ih;generalize 4294967296 ^ a.length*So (if x<b.headD 0+c then 1 else 0) a b.tail=z;generalize Ad (G8 (if x<b.headD 0+c then 1 else 0) a b.tail)=s;intro ih;split at ih
  .rename_i h3
   rw[if_pos h3];omega
  .rename_i h3
   rw[if_neg h3];omega
theorem G9:∀(a b:List Nat) (c:Nat),Limbs a->Limbs b->c<=1->Limbs (G8 c a b)
 |[],_,_,_,_,_=>BH
 |x::a,b,c,ha,hb,hc=>by
  have h1:=D5 hb;have h2:=ha.cons;refine Bb ?_ (G9 a b.tail _ h2.2 hb.tail (by split<;>omega));split<;>omega
theorem K5:∀(a b:List Nat) (c:Nat),(G8 c a b).length=a.length
 |[],_,_=>rfl
 |x::a,b,c=>by rw[G8,γ,K5 a,γ]
theorem US{a b:List Nat}(ha:Limbs a)(hb:Limbs b)(h:b.length<=a.length)(hv:Ad b<=Ad a):Ad (G8 0 a b)=Ad a-Ad b:=by
 have h1:=Q0 a b 0 ha hb (by omega) h;have h2:=BM (G9 a b 0 ha hb (by omega));rw[K5]at h2;have h3:=X0 a b 0 (by omega);have h4:=BM ha;rcases At8 (So 0 a b) 1 with h5|h5
 .rw[show So 0 a b=0 by omega]at h1
  omega
 .rw[show So 0 a b=1 by omega]at h1
  omega
def OM:Nat->Nat->List Nat->List Nat->List Nat
 |_,c,[],o=>c::o.tail
 |x,c,y::b,o=>((x*y+o.headD 0+c) % 4294967296)::OM x ((x*y+o.headD 0+c) / 4294967296) b o.tail
theorem QZ:∀(x:Nat) (b o:List Nat) (c:Nat),(o.drop b.length).headD 0=0->Ad (OM x c b o)=x*Ad b+Ad o+c
 |x,[],o,c,h=>by
  have h:o.headD 0=0:=h;rw[OM,Ad,Ad,He o,h];omega
 |x,y::b,o,c,h=>by
  have h2:(o.tail.drop b.length).headD 0=0:=by
   rw[γ]at h
   cases o with
   |nil=>simp
   |cons z o=>exact h
  have ih:=QZ x b o.tail ((x*y+o.headD 0+c) / 4294967296) h2;have e:x*(y+4294967296*Ad b)=x*y+4294967296*(x*Ad b):=by
   rw[Auz,←At6,Auj x 4294967296,At6]
  rw[OM,Ad,ih,Ad,He o,e];omega
theorem JM{x y:Nat}(hx:x<4294967296)(hy:y<4294967296):x*y<=18446744065119617025:=by
 have:=Nat.mul_le_mul (show x<=4294967295 by omega) (show y<=4294967295 by omega);omega
theorem ON:∀(x:Nat) (b o:List Nat) (c:Nat),x<4294967296->Limbs b->Limbs o->c<4294967296->Limbs (OM x c b o)
 |x,[],o,c,_,_,ho,hc=>Bb hc ho.tail
 |x,y::b,o,c,hx,hb,ho,hc=>by
  have h1:=D5 ho;have h2:=hb.cons;have h3:=JM hx h2.1;exact Bb (Auo _ (by omega)) (ON x b o.tail _ hx h2.2 ho.tail (by omega))
def DN:Nat->Nat->List Nat->List Nat
 |_,c,[]=>[c]
 |m,c,x::a=>((x*m+c) % 4294967296)::DN m ((x*m+c) / 4294967296) a
theorem IB:∀(m:Nat) (a:List Nat) (c:Nat),Ad (DN m c a)=Ad a*m+c
 |m,[],c=>by simp[DN,Ad]
 |m,x::a,c=>by
  rw[DN,Ad,IB m a,Ad,Aue,At6];omega
theorem G6:∀(m:Nat) (a:List Nat) (c:Nat),m<4294967296->Limbs a->c<4294967296->Limbs (DN m c a)
 |m,[],c,_,_,hc=>Bb hc BH
 |m,x::a,c,hm,ha,hc=>by
  have h2:=ha.cons;have h3:=JM h2.1 hm;exact Bb (Auo _ (by omega)) (G6 m a _ hm h2.2 (by omega))
def CM(a b:Nat):Int:=if a<b then -1 else if b<a then 1 else 0
theorem NU{a b:List Nat}(ha:Limbs a)(hb:Limbs b)(h:a.length=b.length)(x y:Nat):CM (Ad (a++[x])) (Ad (b++[y]))=if x<y then -1 else if y<x then 1 else CM (Ad a) (Ad b):=by
 rw[BG,BG,←h];have h1:=BM ha;have h2:=BM hb;rw[←h]at h2;simp only[Ad,AwD,Aun];revert h1 h2;generalize 4294967296 ^ a.length=k;generalize Ad a=p;generalize Ad b=q;intro h1 h2
 by_cases h3:x<y
 .rw[if_pos h3]
  have:k*(x+1)<=k*y:=Avf _ h3;rw[Auz]at this;unfold CM;rw[if_pos (by omega)]
 .rw[if_neg h3]
  by_cases h4:y<x
  .rw[if_pos h4]
   have:k*(y+1)<=k*x:=Avf _ h4;rw[Auz]at this;unfold CM;rw[if_neg (by omega),if_pos (by omega)]
  .rw[if_neg h4]
   obtain rfl:x=y:=by omega
   unfold CM
   by_cases h5:p<q
   .rw[if_pos (by omega),if_pos h5]
   .rw[if_neg (by omega),if_neg h5]
    by_cases h6:q<p
    .rw[if_pos (by omega),if_pos h6]
    .rw[if_neg (by omega),if_neg h6]
theorem Aby{P V2 vl U3 ul g:Nat}(hvl:vl<P)(hV2:4294967296<=V2)(hg:g<=4294967296)(h:g*V2<=U3):g*(V2*P+vl)<(U3*P+ul)+(V2*P+vl):=by
 have h1:g*V2*P<=U3*P:=AtU _ h;have h2:g*vl<=4294967296*vl:=AtU _ hg;have h3:4294967296*P<=V2*P:=AtU _ hV2;rw[Auz,←At6];omega
theorem Abz{P V2 vl U3 ul g:Nat}(hul:ul<P)(h:U3<g*V2):U3*P+ul<g*(V2*P+vl):=by
 have h1:(U3+1)*P<=g*V2*P:=AtU _ h;rw[Aue,AuP]at h1;rw[Auz,←At6];omega
theorem AeM{Q f dl T ul:Nat}(hul:ul<Q)(hf:0<f):T*Q+ul<(T / f+1)*(f*Q+dl):=by
 have h1:T+1<=(T / f+1)*f:=by
  have:=Awf T f;have:=Auo T hf;rw[Aue,AuP,Auj];omega
 have h2:(T+1)*Q<=(T / f+1)*f*Q:=AtU _ h1;rw[Aue,AuP]at h2;rw[Auz,←At6];omega
def Du:Nat->Nat->Nat->List Nat->List Nat->List Nat
 |_,_,_,_,[]=>[]
 |m,c,w,u,x::d=>(if u.headD 0<(m*x+c) % 4294967296+w then u.headD 0+4294967296-((m*x+c) % 4294967296+w) else u.headD 0-((m*x+c) % 4294967296+w))::Du m ((m*x+c) / 4294967296) (if u.headD 0<(m*x+c) % 4294967296+w then 1 else 0) u.tail d
def DP:Nat->Nat->List Nat->Nat
 |_,c,[]=>c
 |m,c,x::d=>DP m ((m*x+c) / 4294967296) d
def C3:Nat->Nat->Nat->List Nat->List Nat->Nat
 |_,_,w,_,[]=>w
 |m,c,w,u,x::d=>C3 m ((m*x+c) / 4294967296) (if u.headD 0<(m*x+c) % 4294967296+w then 1 else 0) u.tail d
theorem Gd:∀(m c w:Nat) (u d:List Nat),(Du m c w u d).length=d.length
 |_,_,_,_,[]=>rfl
 |m,c,w,u,x::d=>by rw[Du,γ,Gd,γ]
theorem NE:∀(m c w:Nat) (u d:List Nat),w<=1->C3 m c w u d<=1
 |_,_,_,_,[],h=>h
 |m,c,w,u,x::d,h=>NE m _ _ _ d (by split<;>omega)
theorem NB:∀(m c:Nat) (d:List Nat),m<4294967296->Limbs d->c<4294967296->DP m c d<4294967296
 |_,_,[],_,_,h=>h
 |m,c,x::d,hm,hd,hc=>by
  have h:=hd.cons;have:=JM hm h.1;exact NB m _ d hm h.2 (by omega)
theorem Hy:∀(m c w:Nat) (u d:List Nat),Limbs u->w<=1->Limbs (Du m c w u d)
 |_,_,_,_,[],_,_=>BH
 |m,c,w,u,x::d,hu,hw=>by
  have h1:=D5 hu;have h2:=Auo (m*x+c) (show 0<4294967296 by omega);exact Bb (by split<;>omega) (Hy m _ _ _ d hu.tail (by split<;>omega))
theorem Ps:∀(m c w:Nat) (u d:List Nat),Limbs u->w<=1->d.length<=u.length->
  Ad (Du m c w u d)+m*Ad d+c+w=Ad (u.take d.length)+4294967296 ^ d.length*(DP m c d+C3 m c w u d)
 |m,c,w,u,[],_,_,_=>by simp[Du,DP,C3,Ad]
 |m,c,w,u,x::d,hu,hw,hl=>by
  cases u with
  |nil=>simp at hl
  |cons y u=>
   have h1:=hu.cons;have h2:=Auo (m*x+c) (show 0<4294967296 by omega);have ih:=Ps m ((m*x+c) / 4294967296) (if y<(m*x+c) % 4294967296+w then 1 else 0) u d h1.2 (by split<;>omega) (by simpa using hl);rw[Du,DP,C3,Ad,γ,Avl,Ad,Ad,AuM,Auj (4294967296 ^ d.length) 4294967296,At6,AuX,Avj];have e:m*(x+4294967296*Ad d)=m*x+4294967296*(m*Ad d):=by
    rw[Auz,←At6,Auj m 4294967296,At6]
   rw[e];revert ih;generalize 4294967296 ^ d.length*(DP m ((m*x+c) / 4294967296) d+C3 m ((m*x+c) / 4294967296) (if y<(m*x+c) % 4294967296+w then 1 else 0) u d)=z;generalize Ad (Du m ((m*x+c) / 4294967296) (if y<(m*x+c) % 4294967296+w then 1 else 0) u d)=s;generalize m*x=mx at *;generalize m*Ad d=md;intro ih;split
   .rename_i h3
    rw[if_pos h3]at ih;omega
   .rename_i h3
    rw[if_neg h3]at ih;omega
def C4:Nat->List Nat->List Nat->List Nat
 |_,_,[]=>[]
 |c,u,x::d=>((u.headD 0+x+c) % 4294967296)::C4 ((u.headD 0+x+c) / 4294967296) u.tail d
def CN:Nat->List Nat->List Nat->Nat
 |c,_,[]=>c
 |c,u,x::d=>CN ((u.headD 0+x+c) / 4294967296) u.tail d
theorem El:∀(c:Nat) (u d:List Nat),(C4 c u d).length=d.length
 |_,_,[]=>rfl
 |c,u,x::d=>by rw[C4,γ,El,γ]
theorem Hz:∀(c:Nat) (u d:List Nat),Limbs (C4 c u d)
 |_,_,[]=>BH
 |c,u,x::d=>Bb (Auo _ (by omega)) (Hz _ _ d)
theorem NG:∀(c:Nat) (u d:List Nat),Limbs u->Limbs d->c<=1->CN c u d<=1
 |_,_,[],_,_,h=>h
 |c,u,x::d,hu,hd,hc=>by
  have h1:=D5 hu;have h2:=hd.cons;exact NG _ u.tail d hu.tail h2.2 (by omega)
theorem Pu:∀(c:Nat) (u d:List Nat),d.length<=u.length->Ad (C4 c u d)+4294967296 ^ d.length*CN c u d=c+Ad (u.take d.length)+Ad d
 |c,u,[],_=>by simp[C4,CN,Ad]
 |c,u,x::d,hl=>by
  cases u with
  |nil=>simp at hl
  |cons y u=>
   have ih:=Pu ((y+x+c) / 4294967296) u d (by simpa using hl);rw[C4,CN,Ad,γ,Avl,Ad,Ad,AuM,Auj (4294967296 ^ d.length) 4294967296,At6,AuX,Avj];revert ih;generalize 4294967296 ^ d.length*CN ((y+x+c) / 4294967296) u d=z;generalize Ad (C4 ((y+x+c) / 4294967296) u d)=s;intro ih;omega
theorem Ym{p s mv u ul t B:Nat}(ht:t<=B)(hul:ul<B)(h1:s+mv=u+p*t):s+p*((ul+B-t) % B)+mv=u+p*ul+(if ul<t then p*B else 0):=by
 by_cases h:ul<t
 .rw[if_pos h,AuK (by omega)]
  have e:p*(ul+B-t)+p*t=p*ul+p*B:=by
   rw[←Auz,show ul+B-t+t=ul+B by omega,Auz]
  omega
 .have e0:(ul+B-t) % B=ul-t:=by
   rw[show ul+B-t=(ul-t)+B by omega,Nat.add_mod_right,AuK (by omega)]
  rw[if_neg h,e0];have e:p*(ul-t)+p*t=p*ul:=by rw[←Auz,show ul-t+t=ul by omega]
  omega
theorem Aaq{u d:List Nat}{m ul:Nat}(hu:Limbs u)(hd:Limbs d)(hl:u.length=d.length)(hm:m<4294967296)(hul:ul<4294967296) :
  Ad (Du m 0 0 u d++[(ul+4294967296-(DP m 0 d+C3 m 0 0 u d)) % 4294967296])+m*Ad d=Ad (u++[ul])+(if ul<DP m 0 d+C3 m 0 0 u d then 4294967296 ^ (d.length+1) else 0):=by
 have h1:=Ps m 0 0 u d hu (At7 _) (AxB hl.symm);have h2:=NB m 0 d hm hd (by decide);have h3:=NE m 0 0 u d (At7 _);have ht:DP m 0 d+C3 m 0 0 u d<=4294967296:=by omega
 rw[AuD (AxB hl)]at h1;rw[BG,BG,Gd,hl,AuM];have e:∀ x,Ad [x]=x:=λx=>by simp[Ad]
 rw[e,e];exact Ym ht hul h1
theorem Aav{u d:List Nat}{ul:Nat}(hu:Limbs u)(hd:Limbs d)(hl:u.length=d.length)(hul:ul<4294967296) :
  Ad (C4 0 u d++[(ul+CN 0 u d) % 4294967296])=(Ad (u++[ul])+Ad d) % 4294967296 ^ (d.length+1):=by
 have h1:=Pu 0 u d (by omega);have h2:=NG 0 u d hu hd (by omega);have h3:=BM (CJ (Hz 0 u d) (Bb (Auo (ul+CN 0 u d) (show 0<4294967296 by omega)) BH));rw[List.length_append,El,List.length_singleton]at h3;rw[AuD (by omega)]at h1;rw[BG,El]at h3;rw[BG,BG,El];simp only[Ad,AwD,Aun,Nat.zero_add]at h1 h3 ⊢;rw[hl];have e:=Awf (ul+CN 0 u d) 4294967296;have e2:Ad u+4294967296 ^ d.length*ul+Ad d=Ad (C4 0 u d)+4294967296 ^ d.length*((ul+CN 0 u d) % 4294967296)+4294967296 ^ (d.length+1)*((ul+CN 0 u d) / 4294967296):=by
  have:4294967296 ^ d.length*(ul+CN 0 u d)=4294967296 ^ d.length*((ul+CN 0 u d) % 4294967296)+4294967296 ^ (d.length+1)*((ul+CN 0 u d) / 4294967296):=by
   rw[AuM,At6,←Auz]
   congr 1
   omega
  rw[Auz]at this;omega
 rw[e2,Nat.add_mul_mod_self_left,AuK h3]
theorem HD{a b:Int}(h:a=b){x y:KR}:br (Af.eq a b) x y=x:=by rw[Aqh,decide_eq_true h];rfl
theorem AO{a b:Int}{x y z:KR}(g:x=z)(h: a=b:=by omega):br (Af.eq a b) x y=z:=(HD h).trans g
theorem Jt{a b:Int}(h:¬ a=b){x y:KR}:br (Af.eq a b) x y=y:=by rw[Aqh,decide_eq_false h];rfl
theorem Aq{a b:Int}{x y z:KR}(g:y=z)(h:¬ a=b:=by omega):br (Af.eq a b) x y=z:=(Jt h).trans g
theorem Aen{a b:ByteArray}(h:a=b){x y:KR}:br (Af.seq a b) x y=x:=by rw[Aql,decide_eq_true h];rfl
theorem AiS{a b:ByteArray}{x y z:KR}(h: a=b)(g:x=z):br (Af.seq a b) x y=z:=(Aen h).trans g
theorem Rg{a b:Int}(h:a<b){x y:KR}:br (Af.lt a b) x y=x:=by rw[Aqj,decide_eq_true h];rfl
theorem Al{a b:Int}{x y z:KR}(g:x=z)(h: a<b:=by omega):br (Af.lt a b) x y=z:=(Rg h).trans g
theorem DL{a b:Int}(h:¬ a<b){x y:KR}:br (Af.lt a b) x y=y:=by rw[Aqj,decide_eq_false h];rfl
theorem Ai{a b:Int}{x y z:KR}(g:y=z)(h:¬ a<b:=by omega):br (Af.lt a b) x y=z:=(DL h).trans g
theorem NN{a b:Int}(h:a<=b){x y:KR}:br (Af.le a b) x y=x:=by rw[Aqi,decide_eq_true h];rfl
theorem BV{a b:Int}{x y z:KR}(g:x=z)(h: a≤b:=by omega):br (Af.le a b) x y=z:=(NN h).trans g
theorem NM{a b:Int}(h:¬ a<=b){x y:KR}:br (Af.le a b) x y=y:=by rw[Aqi,decide_eq_false h];rfl
theorem Cn{a b:Int}{x y z:KR}(g:y=z)(h:¬ a≤b:=by omega):br (Af.le a b) x y=z:=(NM h).trans g
section
open Go.RowKit
def Xw:MFn:=AC [⟨21,(mB 9),[],[],[(1,((mB 9),([],[])))]⟩] 200
def TE:Hnt:=⟨[],[(0,[(1,([.ls,.int .i64],[]))])],[(12,[.int .u32]),(13,[.int .u32])]⟩
def Ak7:MFn:=AC [] 202
def Akm:Hnt:=⟨[(200,(.ls,[])),(236,(.sl 0 1,[.row Δ]))],[],[]⟩
def Ak3:MFn:=AC [] 184
def Aki:Hnt:=⟨[(202,(.ls,[]))],[],[]⟩
def Xx:MFn:=AC [⟨49,(mB 35),[],[],[(0,((mB 16),([],[]))),(2,([],([],[])))]⟩] 201
def TF:Hnt:=⟨[(200,(.ls,[]))],[(0,[(0,([.int .i64],[])),(2,([],[]))])],[(32,[.int .u32]),(33,[.int .u32]),(36,[.int .u32]),(37,[.int .u32]),(42,[.int .u32]),(43,[.int .u32]),(46,[.int .u32]),(47,[.int .u32])]⟩
def Xr:MFn:=AC [⟨61,(mB 234881122),[(5,1)],[],[(1,((mB 96),([],[])))]⟩] 197
def TC:Hnt:=⟨[(200,(.ls,[])),(202,(.ls,[]))],[(0,[(1,([.sl 1 1,.int .u64],[.del,.row Δ]))])],[(30,[.int .u32]),(31,[.int .u32]),(43,[.int .u32]),(44,[.int .u32])]⟩
def Xu:MFn:=AC [⟨59,(mB 58720450),[(6,1)],[],[(1,((mB 64),([],[])))]⟩] 198
def TD:Hnt:=⟨[(200,(.ls,[])),(201,(.int .i64,[])),(202,(.ls,[]))],[(0,[(1,([.sl 1 1],[.del,.row Δ]))])],[(28,[.int .u32]),(29,[.int .u32]),(38,[.int .u32]),(39,[.int .u32])]⟩
def Qw:MFn:=AC [⟨68,(mB 1835042),[],[],[(1,((mB 32),([],[])))]⟩,⟨68,(mB 236716514),[],[],[(3,((mB 1835362),([],[])))]⟩] 243
def Mv:Hnt:=⟨[(202,(.ls,[]))],[(0,[(1,([.sl 1 1],[.del,.row Δ]))]),(1,[(3,([.ls,.sl 1 1,.int .i64,.int .u64,.ls,.int .i64,.int .i64],[.del,.row Δ]))])],[(23,[.int .u32]),(24,[.int .u32]),(30,[.int .u32]),(31,[.int .u32]),(41,[.int .u32]),(42,[.int .u32]),(53,[.int .u32]),(64,[.int .u32])]⟩
def Ak8:MFn:=AC [] 212
def Akn:Hnt:=⟨[(200,(.ls,[])),(243,(.ls,[])),(244,(.ls,[]))],[],[]⟩
def Jk:List (Nat × MFn):=[(200,Xw),(202,Ak7),(184,Ak3),(201,Xx),(197,Xr),(198,Xu),(243,Qw),(212,Ak8)]
variable (A:Ar) (D:Orc)
theorem ArA(x0:Rw):BZ A D As TE .n 200 Xw [Ψ x0] [] =
 Ae D (AtB 200 0) [Ψ x0,iv ↑(AI x0)] [] [.t,.C,.x,.X,.Y] λc l o=>
 br (Bn 1 c)
 (dk [.L,.I,.N,.E] [.l l,.o o] λxs n=>
 unI n λi=>
 br (Jf 0 i (AI xs)) (br (EO 1 xs) (Θ ((Ψ (HM (Iz xs i) 0),[]))) Ξ) Ξ)
 (Ξ):=by kernel_rfl
theorem AaX(t0:Rw)(t3:Int):Dy A D As TE .n 200 0 (AU Xw 0).fst (AU Xw 0).snd [Ψ t0,iv t3] [] =
 br (A.lt 0 t3)
 (unI (A.sub θ t3 1) λi=>
 BC t0 i λcs=>
 dk [.J .u32,.N] [.l cs] λn=>
 br (A.eq n 0)
 (AG D (AtB 200 0) [Ψ t0,iv (A.sub θ t3 1)] [] λr o=>
 AE 0 [] (AH.mk [] 0 Ξ) [] r o)
 (Θ ((υ [iv 0,Ψ t0,iv t3],[]))))
 (Θ ((υ [iv 0,Ψ t0,iv t3],[]))):=by kernel_rfl
theorem ArC(x0:Rw):BZ A D As Akm .n 202 Ak7 [Ψ x0] [] =
 Ae D (ω 200) [Ψ x0] [] [.l,.E] λxs=>
 Ae D (ω 236) [Ψ xs] [] [.q 0 1,.R,.X,.E] λn cs=>
 br ((0+n*1).ble cs.length) (Θ ((Ψ (Bh n 1 (ο (n*1) cs)),[]))) Ξ:=by kernel_rfl
theorem Ars(x0:Int):BZ A D As Aki .n 184 Ak3 [AtO (Value.int Ω x0)] [] =
 br (A.lt 32 0)
 (Ξ)
 (Ae D (ω 202) [Ψ [[AtO (Value.int ζ (A.conv ζ x0))],[AtO (Value.int ζ (A.conv ζ (A.shr Ω x0 32)))]]] [] [.l,.E] λxs=>
 Θ ((Ψ xs,[]))):=by kernel_rfl
theorem ArB(x0 x1:Rw):BZ A D As TF .n 201 Xx [Ψ x0,Ψ x1] [] =
 Ae D (ω 200) [Ψ x0] [] [.l,.E] λxs=>
 Ae D (ω 200) [Ψ x1] [] [.l,.E] λxs1=>
 br (A.lt ↑(AI xs) ↑(AI xs1))
 (Θ ((iv (-1),[])))
 (br (A.lt ↑(AI xs1) ↑(AI xs))
 (Θ ((iv 1,[])))
 (Ae D (AtB 201 0) [Ψ xs,Ψ xs1,iv (A.sub θ (↑(AI xs)) 1)] [] [.t,.C,.x,.X,.Y] λc l o2=>
 br (Bn 0 c)
 (dk [.I,.N,.E] [.l l,.o o2] λn=>
 Θ ((iv n,[])))
 (br (Bn 2 c)
 (Fv l<|
 DE o2<|
 Θ ((iv 0,[])))
 (Ξ)))):=by kernel_rfl
theorem AaY(t0 t1:Rw)(t5:Int):Dy A D As TF .n 201 0 (AU Xx 0).fst (AU Xx 0).snd [Ψ t0,Ψ t1,iv t5] [] =
 br (A.le 0 t5)
 (unI t5 λi=>
 BC t0 i λcs=>
 dk [.J .u32,.N] [.l cs] λn=>
 unI t5 λi1=>
 BC t1 i1 λcs1=>
 dk [.J .u32,.N] [.l cs1] λn1=>
 br (A.lt n n1)
 (Θ ((υ [bv Δ,iv (-1)],[])))
 (unI t5 λi2=>
 BC t0 i2 λcs2=>
 dk [.J .u32,.N] [.l cs2] λn2=>
 unI t5 λi3=>
 BC t1 i3 λcs3=>
 dk [.J .u32,.N] [.l cs3] λn3=>
 br (A.lt n3 n2)
 (Θ ((υ [bv Δ,iv 1],[])))
 (AG D (AtB 201 0) [Ψ t0,Ψ t1,iv (A.sub θ t5 1)] [] λr o=>
 AE 0 [] (AH.mk [] 0 Ξ) [] r o)))
 (Θ ((υ [iv 1],[]))):=by kernel_rfl
theorem Arx(x0 x1:Rw):BZ A D As TC .n 197 Xr [Ψ x0,Ψ x1] [] =
 Ae D (ω 200) [Ψ x0] [] [.l,.E] λxs=>
 Ae D (ω 200) [Ψ x1] [] [.l,.E] λxs1=>
 br (A.lt ↑(AI xs) ↑(AI xs1))
 (unI (A.add θ (↑(AI xs1)) 1) λi=>
 br (Bf i 4) (AG D (AtB 197 0) [Ψ xs,χ 0 0 0 1,AtO (Value.int Ω 0),Ψ xs1,iv ↑(AI xs1),iv 0] [δ [] Δ Δ] λr2 o2=>
 dk [.t,.C,.x,.X] [.v r2] λc l=>
 br (Bn 1 c)
 (dk [.C,.q 1 1,.J .u64,.N,.D,.R,.X,.E] [.l l,.o o2] λn n1 cs1=>
 br (Bf (n+1) 4) (br ((0+n*1).ble cs1.length) (br ((0+(n+1)*1).ble (AtD 0 (ο (0+n*1) cs1)++[AtO (Value.int ζ (A.conv ζ n1))]).length) (AG D (ω 202) [Ψ (Bh (n+1) 1 (ο ((n+1)*1) (AtD 0 (AtD 0 (ο (0+n*1) cs1)++[AtO (Value.int ζ (A.conv ζ n1))]))))] [] λr3 o3=>
 dk [.l,.E] [.v r3,.o o3] λxs2=>
 Θ ((Ψ xs2,[]))) Ξ) Ξ) Ξ)
 (Ξ)) Ξ)
 (unI (A.add θ (↑(AI xs)) 1) λi=>
 br (Bf i 4) (AG D (AtB 197 0) [Ψ xs1,χ 0 0 0 1,AtO (Value.int Ω 0),Ψ xs,iv ↑(AI xs),iv 0] [δ [] Δ Δ] λr2 o2=>
 dk [.t,.C,.x,.X] [.v r2] λc l=>
 br (Bn 1 c)
 (dk [.C,.q 1 1,.J .u64,.N,.D,.R,.X,.E] [.l l,.o o2] λn n1 cs1=>
 br (Bf (n+1) 4) (br ((0+n*1).ble cs1.length) (br ((0+(n+1)*1).ble (AtD 0 (ο (0+n*1) cs1)++[AtO (Value.int ζ (A.conv ζ n1))]).length) (AG D (ω 202) [Ψ (Bh (n+1) 1 (ο ((n+1)*1) (AtD 0 (AtD 0 (ο (0+n*1) cs1)++[AtO (Value.int ζ (A.conv ζ n1))]))))] [] λr3 o3=>
 dk [.l,.E] [.v r3,.o o3] λxs2=>
 Θ ((Ψ xs2,[]))) Ξ) Ξ) Ξ)
 (Ξ)) Ξ):=by kernel_rfl
theorem AaV(t1:Rw)(n5:Nat)(c5:List AV)(t6:Int)(t25:Rw)(t26 t27:Int):Dy A D As TC .n 197 0 (AU Xr 0).fst (AU Xr 0).snd [Ψ t1,χ 0 0 n5 1,AtO (Value.int Ω t6),Ψ t25,iv t26,iv t27] [{ cells:=c5,st:=Δ,ex:=Δ }] =
 br (A.lt t27 t26)
 (unI t27 λi=>
 BC t25 i λcs=>
 dk [.J .u32,.N] [.l cs] λn=>
 br (A.lt t27 ↑(AI t1))
 (unI t27 λi1=>
 BC t1 i1 λcs1=>
 dk [.J .u32,.N] [.l cs1] λn1=>
 br (Bf (n5+1) 4) (br ((0+n5*1).ble c5.length) (br (A.lt 32 0)
 (Ξ)
 (AG D (AtB 197 0) [Ψ t1,χ 0 0 (n5+1) 1,AtO (Value.int Ω (A.shr Ω (A.add Ω (A.add Ω (A.conv Ω n) t6) (A.conv Ω n1)) 32)),Ψ t25,iv t26,iv (A.add θ t27 1)] [δ (AtD 0 (ο (0+n5*1) c5)++[AtO (Value.int ζ (A.conv ζ (A.add Ω (A.add Ω (A.conv Ω n) t6) (A.conv Ω n1))))]) Δ Δ] λr o=>
 AE 1 [2] (AH.mk [(2,δ (AtD 0 (ο (0+n5*1) c5)++[AtO (Value.int ζ (A.conv ζ (A.add Ω (A.add Ω (A.conv Ω n) t6) (A.conv Ω n1))))]) Δ Δ),(1,δ [AtO (Value.int ζ (A.conv ζ (A.add Ω (A.add Ω (A.conv Ω n) t6) (A.conv Ω n1))))] Δ Δ)] 3 Ξ) [0] r o)) Ξ) Ξ)
 (br (Bf (n5+1) 4) (br ((0+n5*1).ble c5.length) (br (A.lt 32 0)
 (Ξ)
 (AG D (AtB 197 0) [Ψ t1,χ 0 0 (n5+1) 1,AtO (Value.int Ω (A.shr Ω (A.add Ω (A.conv Ω n) t6) 32)),Ψ t25,iv t26,iv (A.add θ t27 1)] [δ (AtD 0 (ο (0+n5*1) c5)++[AtO (Value.int ζ (A.conv ζ (A.add Ω (A.conv Ω n) t6)))]) Δ Δ] λr o=>
 AE 1 [2] (AH.mk [(2,δ (AtD 0 (ο (0+n5*1) c5)++[AtO (Value.int ζ (A.conv ζ (A.add Ω (A.conv Ω n) t6)))]) Δ Δ),(1,δ [AtO (Value.int ζ (A.conv ζ (A.add Ω (A.conv Ω n) t6)))] Δ Δ)] 3 Ξ) [0] r o)) Ξ) Ξ))
 (Θ ((υ [iv 0,χ 1 0 n5 1,AtO (Value.int Ω t6)],[BO.del,AtH (δ c5 Δ Δ)]))):=by kernel_rfl
theorem Ary(x0 x1:Rw):BZ A D As TD .n 198 Xu [Ψ x0,Ψ x1] [] =
 Ae D (ω 200) [Ψ x0] [] [.l,.E] λxs=>
 Ae D (ω 200) [Ψ x1] [] [.l,.E] λxs1=>
 Ae D (ω 201) [Ψ xs,Ψ xs1] [] [.i,.E] λn=>
 br (A.lt n 0)
 (Θ ((υ [Ψ [],bv false],[])))
 (br (Bf (AI xs) 4) (AG D (AtB 198 0) [Ψ xs1,χ 0 0 0 1,AtO (Value.int Ω 0),Ψ xs,iv ↑(AI xs),iv 0] [δ [] Δ Δ] λr3 o3=>
 dk [.t,.C,.x,.X] [.v r3] λc l=>
 br (Bn 1 c)
 (dk [.C,.q 1 1,.N,.D,.R,.X,.E] [.l l,.o o3] λn1 cs1=>
 br ((0+n1*1).ble cs1.length) (AG D (ω 202) [Ψ (Bh n1 1 (ο (n1*1) cs1))] [] λr4 o4=>
 Mg r4 λxs2=>
 DE o4<|
 Θ ((υ [Ψ xs2,bv Δ],[]))) Ξ)
 (Ξ)) Ξ):=by kernel_rfl
theorem AaW(t1:Rw)(n6:Nat)(c6:List AV)(t7:Int)(t23:Rw)(t24 t25:Int):Dy A D As TD .n 198 0 (AU Xu 0).fst (AU Xu 0).snd [Ψ t1,χ 0 0 n6 1,AtO (Value.int Ω t7),Ψ t23,iv t24,iv t25] [{ cells:=c6,st:=Δ,ex:=Δ }] =
 br (A.lt t25 t24)
 (unI t25 λi=>
 BC t23 i λcs=>
 dk [.J .u32,.N] [.l cs] λn=>
 br (A.lt t25 ↑(AI t1))
 (unI t25 λi1=>
 BC t1 i1 λcs1=>
 dk [.J .u32,.N] [.l cs1] λn1=>
 br (A.lt (A.conv Ω n) (A.add Ω t7 (A.conv Ω n1)))
 (br (Bf (n6+1) 4) (br ((0+n6*1).ble c6.length) (AG D (AtB 198 0) [Ψ t1,χ 0 0 (n6+1) 1,AtO (Value.int Ω 1),Ψ t23,iv t24,iv (A.add θ t25 1)] [δ (AtD 0 (ο (0+n6*1) c6)++[AtO (Value.int ζ (A.conv ζ (A.sub Ω (A.add Ω (A.conv Ω n) 4294967296) (A.add Ω t7 (A.conv Ω n1)))))]) Δ Δ] λr o=>
 AE 1 [2] (AH.mk [(2,δ (AtD 0 (ο (0+n6*1) c6)++[AtO (Value.int ζ (A.conv ζ (A.sub Ω (A.add Ω (A.conv Ω n) 4294967296) (A.add Ω t7 (A.conv Ω n1)))))]) Δ Δ),(1,δ [AtO (Value.int ζ (A.conv ζ (A.sub Ω (A.add Ω (A.conv Ω n) 4294967296) (A.add Ω t7 (A.conv Ω n1)))))] Δ Δ)] 3 Ξ) [0] r o) Ξ) Ξ)
 (br (Bf (n6+1) 4) (br ((0+n6*1).ble c6.length) (AG D (AtB 198 0) [Ψ t1,χ 0 0 (n6+1) 1,AtO (Value.int Ω 0),Ψ t23,iv t24,iv (A.add θ t25 1)] [δ (AtD 0 (ο (0+n6*1) c6)++[AtO (Value.int ζ (A.conv ζ (A.sub Ω (A.conv Ω n) (A.add Ω t7 (A.conv Ω n1)))))]) Δ Δ] λr o=>
 AE 1 [2] (AH.mk [(2,δ (AtD 0 (ο (0+n6*1) c6)++[AtO (Value.int ζ (A.conv ζ (A.sub Ω (A.conv Ω n) (A.add Ω t7 (A.conv Ω n1)))))]) Δ Δ),(1,δ [AtO (Value.int ζ (A.conv ζ (A.sub Ω (A.conv Ω n) (A.add Ω t7 (A.conv Ω n1)))))] Δ Δ)] 3 Ξ) [0] r o) Ξ) Ξ))
 (br (A.lt (A.conv Ω n) t7)
 (br (Bf (n6+1) 4) (br ((0+n6*1).ble c6.length) (AG D (AtB 198 0) [Ψ t1,χ 0 0 (n6+1) 1,AtO (Value.int Ω 1),Ψ t23,iv t24,iv (A.add θ t25 1)] [δ (AtD 0 (ο (0+n6*1) c6)++[AtO (Value.int ζ (A.conv ζ (A.sub Ω (A.add Ω (A.conv Ω n) 4294967296) t7)))]) Δ Δ] λr o=>
 AE 1 [2] (AH.mk [(2,δ (AtD 0 (ο (0+n6*1) c6)++[AtO (Value.int ζ (A.conv ζ (A.sub Ω (A.add Ω (A.conv Ω n) 4294967296) t7)))]) Δ Δ),(1,δ [AtO (Value.int ζ (A.conv ζ (A.sub Ω (A.add Ω (A.conv Ω n) 4294967296) t7)))] Δ Δ)] 3 Ξ) [0] r o) Ξ) Ξ)
 (br (Bf (n6+1) 4) (br ((0+n6*1).ble c6.length) (AG D (AtB 198 0) [Ψ t1,χ 0 0 (n6+1) 1,AtO (Value.int Ω 0),Ψ t23,iv t24,iv (A.add θ t25 1)] [δ (AtD 0 (ο (0+n6*1) c6)++[AtO (Value.int ζ (A.conv ζ (A.sub Ω (A.conv Ω n) t7)))]) Δ Δ] λr o=>
 AE 1 [2] (AH.mk [(2,δ (AtD 0 (ο (0+n6*1) c6)++[AtO (Value.int ζ (A.conv ζ (A.sub Ω (A.conv Ω n) t7)))]) Δ Δ),(1,δ [AtO (Value.int ζ (A.conv ζ (A.sub Ω (A.conv Ω n) t7)))] Δ Δ)] 3 Ξ) [0] r o) Ξ) Ξ)))
 (Θ ((υ [iv 0,χ 1 0 n6 1],[BO.del,AtH (δ c6 Δ Δ)]))):=by kernel_rfl
theorem ArJ(x0 x1:Rw):BZ A D As Mv .n 243 Qw [Ψ x0,Ψ x1] [] =
 unI (A.add θ ↑(AI x0) ↑(AI x1)) λi=>
 unI (A.add θ ↑(AI x0) ↑(AI x1)) λi1=>
 br (i.ble i1) (br (Bf i1 4) (AG D (AtB 243 0) [Ψ x1,χ 0 0 i 1,Ψ x0,iv ↑(AI x0),iv 0] [δ (BS [AtO (Value.int ζ 0)] (i*1)) Δ Δ] λr o=>
 dk [.t,.C,.x,.X] [.v r] λc l=>
 br (Bn 1 c)
 (dk [.C,.q 1 1,.N,.D,.R,.X,.E] [.l l,.o o] λn cs1=>
 br ((0+n*1).ble cs1.length) (AG D (ω 202) [Ψ (Bh n 1 (ο (n*1) cs1))] [] λr1 o1=>
 Mg r1 λxs=>
 DE o1<|
 Θ ((Ψ xs,[]))) Ξ)
 (Ξ)) Ξ) Ξ:=by kernel_rfl
theorem Aa5(t1:Rw)(n5:Nat)(c5:List AV)(t18:Rw)(t19 t20:Int):Dy A D As Mv .n 243 0 (AU Qw 0).fst (AU Qw 0).snd [Ψ t1,χ 0 0 n5 1,Ψ t18,iv t19,iv t20] [{ cells:=c5,st:=Δ,ex:=Δ }] =
 br (A.lt t20 t19)
 (unI t20 λi=>
 BC t18 i λcs=>
 dk [.J .u32,.N] [.l cs] λn=>
 Ae D (AtB 243 1) [Ψ t1,χ 0 0 n5 1,iv t20,AtO (Value.int ζ n),AtO (Value.int Ω 0),Ψ t18,iv t19,iv t20,Ψ t1,iv ↑(AI t1),iv 0] [δ c5 Δ Δ] [.t,.C,.x,.X,.Y] λc l1 o=>
 br (Bn 3 c)
 (dk [.L,.C,.q 1 1,.I,.J .u64,.L,.I,.I,.N,.D,.R,.X,.E] [.l l1,.o o] λxs n1 n2 n3 xs1 n4 n6 cs2=>
 unI (A.add θ n2 ↑(AI xs)) λi1=>
 br (i1.blt n1) (br ((0+i1*1+1).ble cs2.length) (AG D (AtB 243 0) [Ψ xs,χ 0 0 n1 1,Ψ xs1,iv n4,iv (A.add θ n6 1)] [δ (AF cs2 (0+i1*1) [AtO (Value.int ζ (A.conv ζ n3))]) Δ Δ] λr1 o1=>
 AE 1 [1] (AH.mk [(1,δ (AF cs2 (0+i1*1) [AtO (Value.int ζ (A.conv ζ n3))]) Δ Δ)] 2 Ξ) [0] r1 o1) Ξ) Ξ)
 (Ξ))
 (Θ ((υ [iv 0,χ 1 0 n5 1],[BO.del,AtH (δ c5 Δ Δ)]))):=by kernel_rfl
theorem Aa6(t1:Rw)(n5:Nat)(c5:List AV)(t6 t7 t8:Int)(t18:Rw)(t19 t20:Int)(t25:Rw)(t26 t27:Int):Dy A D As Mv .n 243 1 (AU Qw 1).fst (AU Qw 1).snd [Ψ t1,χ 0 0 n5 1,iv t6,AtO (Value.int ζ t7),AtO (Value.int Ω t8),Ψ t18,iv t19,iv t20,Ψ t25,iv t26,iv t27] [{ cells:=c5,st:=Δ,ex:=Δ }] =
 br (A.lt t27 t26)
 (unI t27 λi=>
 BC t25 i λcs=>
 dk [.J .u32,.N] [.l cs] λn=>
 unI (A.add θ t6 t27) λi1=>
 br (i1.blt n5) (EW c5 (0+i1*1) 1 λcs1=>
 dk [.J .u32,.N] [.l cs1] λn1=>
 unI (A.add θ t6 t27) λi2=>
 br (i2.blt n5) (br ((0+i2*1+1).ble c5.length) (br (A.lt 32 0)
 (Ξ)
 (AG D (AtB 243 1) [Ψ t1,χ 0 0 n5 1,iv t6,AtO (Value.int ζ t7),AtO (Value.int Ω (A.shr Ω (A.add Ω (A.add Ω (A.mul Ω (A.conv Ω t7) (A.conv Ω n)) (A.conv Ω n1)) t8) 32)),Ψ t18,iv t19,iv t20,Ψ t25,iv t26,iv (A.add θ t27 1)] [δ (AF c5 (0+i2*1) [AtO (Value.int ζ (A.conv ζ (A.add Ω (A.add Ω (A.mul Ω (A.conv Ω t7) (A.conv Ω n)) (A.conv Ω n1)) t8)))]) Δ Δ] λr o=>
 AE 1 [0] (AH.mk [(0,δ (AF c5 (0+i2*1) [AtO (Value.int ζ (A.conv ζ (A.add Ω (A.add Ω (A.mul Ω (A.conv Ω t7) (A.conv Ω n)) (A.conv Ω n1)) t8)))]) Δ Δ)] 1 Ξ) [0] r o)) Ξ) Ξ) Ξ)
 (Θ ((υ [iv 2,Ψ t1,χ 1 0 n5 1,iv t6,AtO (Value.int Ω t8),Ψ t18,iv t19,iv t20],[BO.del,AtH (δ c5 Δ Δ)]))):=by kernel_rfl
theorem ArF(x0 x1:Rw):BZ A D As Akn .n 212 Ak8 [Ψ x0,Ψ x1] [] =
 Ae D (ω 200) [Ψ x0] [] [.l,.E] λxs=>
 Ae D (ω 200) [Ψ x1] [] [.l,.E] λxs1=>
 br (A.lt (↑(AI xs)) 24)
 (Ae D (ω 243) [Ψ xs,Ψ xs1] [] [.l,.E] λxs2=>
 Θ ((Ψ xs2,[])))
 (br (A.lt (↑(AI xs1)) 24)
 (Ae D (ω 243) [Ψ xs,Ψ xs1] [] [.l,.E] λxs2=>
 Θ ((Ψ xs2,[])))
 (Ae D (ω 244) [Ψ xs,Ψ xs1] [] [.l,.E] λxs2=>
 Θ ((Ψ xs2,[])))):=by kernel_rfl
end
theorem NK{B:Nat}{W w:World}(h:Below B W w):Below B W w.drew:=h.drew
theorem GN{w w':World}(h:Below w.drew.heap.size w.drew w'):Below w.heap.size w w':=⟨h.os,h.tape,h.output,h.size,h.block⟩
theorem Ce{W w w':World}(h:Below W.heap.size W w)(hb:Below w.heap.size w w'):Below W.heap.size W w':=h.trans (hb.mono h.size)
theorem AZ(w:World)(o:Obj):Below w.heap.size w (w.alloc o):=(Below.refl _ _).alloc (η _) o
def Blk(w:World)(g:Nat)(t:TypeId)(cs:Array Value):Prop:=w.heap[g]? = Θ (.cells cs t (0,0))
section
variable {w w':World} {g:Nat} {t:TypeId} {cs:Array Value}
theorem Blk.lt(h:Blk w g t cs):g<w.heap.size:=by
 rcases At8 g w.heap.size with hlt|hge
 .exact hlt
 .unfold Blk at h;rw[Array.getElem?_eq_none hge]at h;cases h
theorem Blk.cell(h:Blk w g t cs)(i:Nat):w.cell? ⟨g,i,Ξ⟩=cs[i]?:=cell_of_row w g i cs t (0,0) h
theorem Blk.frozen(h:Blk w g t cs)(i:Nat):w.frozen? ⟨g,i,Ξ⟩=false:=by
 unfold Blk at h;simp[World.frozen?,h]
theorem Blk.new(w:World)(t:TypeId)(cs:Array Value):Blk (w.alloc (.cells cs t)) w.heap.size t cs:=heap_alloc_new w _
theorem Blk.drew(h:Blk w g t cs):Blk w.drew g t cs:=h
theorem Blk.alloc(h:Blk w g t cs)(o:Obj):Blk (w.alloc o) g t cs:=(Below.heap_alloc w o g h.lt).trans h
theorem Blk.set_(h:Blk w g t cs)(i:Nat)(u:Value):Blk (w.setCell ⟨g,i,Ξ⟩ u) g t (cs.setIfInBounds i u):=by
 unfold Blk at h ⊢;simp[World.setCell,Array.getElem?_modify,h]
theorem Blk.far(h:Blk w g t cs){p:Addr}(hp:g≠p.block)(u:Value):Blk (w.setCell p u) g t cs:=(Below.heap_setCell w p u g hp).trans h
theorem Blk.below{B:Nat}(h:Blk w g t cs)(hb:Below B w w')(hg:g<B):Blk w' g t cs:=(hb.block g hg).trans h
theorem Blk.call(h:Blk w g t cs)(hb:Below w.heap.size w w'):Blk w' g t cs:=h.below hb h.lt
end
def Own(w:World)(B g:Nat)(t:TypeId)(v:Value)(cs:Array Value):Prop:=B<=g/\v=.pointer (Θ ⟨g,0,Ξ⟩)/\Blk w g t cs
section
variable {w w':World} {B g:Nat} {t:TypeId} {v:Value} {cs:Array Value}
theorem Own.call(h:Own w B g t v cs)(hb:Below w.heap.size w w'):Own w' B g t v cs:=⟨h.1,h.2.1,h.2.2.call hb⟩
end
def pick{α:Type}(d:Bool)(x y:α):α:=match d with|true=>x|false=>y
section
variable {w w':World} {base base' e size n:Nat} {v:Value} {xs:List Value}
theorem Oc{row:Option Nat}(hb:Below w.heap.size w w'):w.grownBy w' row:=⟨hb.os,hb.tape,hb.output,hb.size,λk hk _=>hb.block k hk⟩
theorem Ud(h:w.ownsRow base e size v n xs)(hb:Below w.heap.size w w'):w'.ownsRow base e size v n xs:=h.kept (row:=Ξ) (Oc hb) (by cases hv:v.ownBlock<;>simp)
theorem Gt(h:w.ownsRow base e size v n xs):∃ A c,v=.slice A n c:=by
 rcases h.2 with⟨h1,h0⟩|⟨g,cap,cur,h1,_⟩
 .exact⟨Ξ,0,by rw[h1,h0]⟩
 .exact⟨_,_,h1⟩
end
