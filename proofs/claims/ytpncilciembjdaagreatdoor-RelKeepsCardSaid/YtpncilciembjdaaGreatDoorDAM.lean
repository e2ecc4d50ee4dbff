/- Seats of D: contracts fr -/
import Derived.Test.YtpncilciembjdaaGreatDoorDAL
import Derived.Test.YtpncilciembjdaaGreatDoorChecked
import Derived.WalkKit
import Derived.WalkSpells
import Derived.WalkLawsBesides
import Derived.Deep.Draws
import Derived.Lib.Hide
set_option linter.all false
open Bool renaming true->Δ,and_eq_true->ApZ
open List renaming all_eq_true->ApY,drop->Aqe,flatten_cons->Aq4,getElem?_cons_succ->Aqa,headD_cons->Arh,length_cons->ο,length_eq_zero_iff->As4,mem_cons->ApT,tail_cons->ArC,take->Ap2,take_of_length_le->Aq6,take_succ_cons->ArF
open Nat renaming add_mul->Aqz,add_zero->AqJ,beq->AqA,div_add_mod->AsF,le_of_eq->At9,le_refl->κ,lt_or_ge->Aqv,mod_eq_of_lt->Aq3,mod_lt->AqR,mul_add->AqS,mul_assoc->Aqr,mul_comm->AqH,mul_le_mul_left->Arw,mul_le_mul_right->Aqb,mul_zero->As2,one_mul->Aq8,pow_le_pow_right->ArO,pow_succ->Ary,strongRecOn->Arp,zero_le->AqC
open Option renaming none->Ξ,some->Θ
namespace Go.Proofs.YtpncilciembjdaaGreatDoor
noncomputable section
open ABlk renaming mk->θ
open AV renaming ls->Ψ,sl->γ,tup->ε,v->Ap8
open BO renaming set->ApX
open IntKind renaming i64->δ,u32->η,u64->Ω
open Key renaming fn->ψ,lp->ApW
open Tryz renaming prog->υ
open Go.RowKit
def AnH:List AV->Option AV
 |[.v (.string s)]=>if s.size<=9223372036854775807 then Θ (bv (Am2 s.data.toList)) else Ξ
 |_=>Ξ
def Ji(res:List AV->Option AV):DF:=λargs bs=>match bs with
 |[]=>(res args).map λr=>(r,[])
 |_=>Ξ
def M6(P:Program)(ents:Nat):List (Nat × MFn)->Prop
 |[]=>True
 |p::r=>(∃ hs a b,p.2=MU P ents hs a b p.1)/\Acg P p.1=Δ/\M6 P ents r
theorem PH{P:Program}{ents:Nat}:∀{L:List (Nat × MFn)},M6 P ents L->∀ f mf,(f,mf)∈L->FnOk P ents f mf
 |p::r,⟨⟨hs,a,b,h1⟩,h2,h3⟩,f,mf,hm=>by
  rcases ApT.1 hm with rfl|hm
  .have h1:mf=_:=h1
   rw[h1];exact Aeh h2
  .exact PH h3 f mf hm
theorem PG{P:Program}{ents:Nat}:∀{L L':List (Nat × MFn)},M6 P ents L->M6 P ents L'->M6 P ents (L++L')
 |[],_,_,h=>h
 |_::_,_,⟨h1,h2,h3⟩,h=>⟨h1,h2,PG h3 h⟩
def AaW(P:Program)(ents n:Nat):Bool:=Nat.blt ents (2 ^ n)&&(List.range n).all λg=>!ents.testBit g||F7 P g
theorem AaX{P:Program}{ents n:Nat}(h:AaW P ents n=Δ):IM P ents:=by
 unfold AaW at h;rw[ApZ]at h;intro g hg;have hn:ents<2 ^ n:=Nat.blt_eq.mp h.1
 by_cases hgn:g<n
 .have:=ApY.1 h.2 g (List.mem_range.2 hgn)
  rw[hg]at this;simpa using this
 .have:ents<2 ^ g:=Nat.lt_of_lt_of_le hn (ArO (by decide) (by omega))
  rw[Nat.testBit_lt_two_pow this]at hg
  cases hg
theorem NJ{α:Type}{f:Nat}:∀{A B:List (Nat × α)},Cl f (A++B)=match Cl f A with
  |some a=>Θ a
  |none=>Cl f B
 |[],_=>rfl
 |(m,b)::r,B=>by
  have ih:=NJ (f:=f) (A:=r) (B:=B)
  show (match AqA f m with
   |true=>Θ b
   |false=>Cl f (r++B))=match (match AqA f m with
   |true=>Θ b
   |false=>Cl f r) with
   |some a=>Θ a
   |none=>Cl f B
  cases AqA f m with
  |true=>rfl
  |false=>exact ih
def Aag(A B:List (Nat × MFn)):Bool:=B.all λp=>(Cl p.1 A).isNone
theorem VA{A B:List (Nat × MFn)}(h:Aag A B=Δ){f:Nat}{mf:MFn}(hf:Cl f B=Θ mf):Cl f (A++B)=Θ mf:=by
 have:=ApY.1 h _ (F9 hf);have h0:Cl f A=Ξ:=Option.isNone_iff_eq_none.1 this;rw[NJ,h0];exact hf
theorem Yw{A B:List (Nat × MFn)}{f:Nat}{mf:MFn}(hf:Cl f A=Θ mf):Cl f (A++B)=Θ mf:=by
 rw[NJ,hf]
def Fv(P:Program):List (Nat × DF)->Prop
 |[]=>True
 |p::r=>Bk (Bu P p.1) p.2/\Fv P r
theorem P3{P:Program}:∀{L:List (Nat × DF)},Fv P L->∀ f d,(f,d)∈L->Bk (Bu P f) d
 |p::r,⟨h1,h2⟩,f,d,hm=>by
  rcases ApT.1 hm with rfl|hm
  .exact h1
  .exact P3 h2 f d hm
def Fu(P:Program)(ents:Nat):List (List (Nat × MFn))->Prop
 |[]=>True
 |T::r=>M6 P ents T/\Fu P ents r
theorem SI{P:Program}{ents:Nat}:∀{L:List (List (Nat × MFn))},Fu P ents L->M6 P ents L.flatten
 |[],_=>trivial
 |T::r,⟨h1,h2⟩=>by
  rw[Aq4];exact PG h1 (SI h2)
theorem DX{P:Program}{ents:Nat}{own:List (Nat × Nat)}{L:List (List (Nat × MFn))}{X:List (Nat × DF)}(m:P.follows .mixedOrders=Δ)(e:IM P ents)(a:Fu P ents L)(g:Fv P X):SeatOk P ents (EI own L.flatten X) where
 mixed:=m
 ent:=e
 fns f mf h:=PH (SI a) f mf (F9 h)
 ext f d h:=P3 g f d (F9 h)
def D7:List (List (Nat × MFn))->Bool
 |[]=>Δ
 |T::r=>Aag T r.flatten&&D7 r
theorem WZ{f:Nat}{mf:MFn}:∀{L:List (List (Nat × MFn))} {i:Nat} {T:List (Nat × MFn)},D7 L=Δ->L[i]? = Θ T->Cl f T=Θ mf->Cl f L.flatten=Θ mf
 |A::r,0,T,_,hi,h=>by
  injection hi with hi
  subst hi;rw[Aq4];exact Yw h
 |A::r,i+1,T,ha,hi,h=>by
  unfold D7 at ha;rw[ApZ]at ha;rw[Aq4];exact VA ha.1 (WZ ha.2 hi h)
theorem AbW:∀{L:List (List (Nat × MFn))} {i:Nat} {T:List (Nat × MFn)},L[i]? = Θ T->∀ p∈T,p∈L.flatten
 |A::r,0,T,hi,p,hp=>by
  injection hi with hi
  subst hi;rw[Aq4];exact List.mem_append_left _ hp
 |A::r,i+1,T,hi,p,hp=>by
  rw[Aq4];exact List.mem_append_right _ (AbW (L:=r) hi p hp)
theorem Be{own:List (Nat × Nat)}{L:List (List (Nat × MFn))}{X:List (Nat × DF)}(h:(D7 L&&HD L.flatten X)=Δ){i:Nat}{T:List (Nat × MFn)}(hi:L[i]? = Θ T):Knows own T (AD Ad (EI own L.flatten X)):=by
 rw[ApZ]at h;refine AbD (λf mf hf=>WZ h.1 hi hf) (ApY.2 λp hp=>ApY.1 h.2 p (AbW hi p hp))
def Bn:Nat:=1042962668542029374677668987337996011341198353761632795856419847799597962473998426758556155900
abbrev AY(h:JG)(n:Nat):MFn:=MU υ Bn h false false n
def mBg:Nat->Nat->List Bool
 | 0,_=>[]
 | k+1,n=>(match AqA n 0 with
  | true=>[]
  | false=>AqA (Nat.mod n 2) 1::mBg k (Nat.div n 2))
def mB(n:Nat):List Bool:=mBg 400 n
abbrev AR:List Sh:=[.bool,.ls]
abbrev Bj:List Sh:=[.int .i64,.bool,.ls]
abbrev Bx:List Sh:=[.ls,.bool,.ls,.bool]
abbrev B6:List Sh:=[.ls,.bool,.ls]
def Av:List (Nat × Nat):=[(262,0),(240,0),(241,0),(136,0),(196,0),(234,0),(235,0),(265,0),(275,0),(140,0),(199,0)]
theorem Og:Tryz.prog.follows .mixedOrders=Δ:=by kernel_rfl
set_option maxRecDepth 100000 in
theorem DP:IM υ Bn:=AaX (n:=600) (by kernel_rfl)
def Ae:List Nat->Nat
 |[]=>0
 |x::r=>x+4294967296*Ae r
def Limbs(l:List Nat):Prop:=∀ x∈l,x<4294967296
def Aj(n:Nat):List Nat:=if n=0 then [] else(n % 4294967296)::Aj (n / 4294967296)
termination_by n
decreasing_by omega
theorem CW:Aj 0=[]:=by rw[Aj];rfl
theorem Ey{n:Nat}(h:n≠0):Aj n=(n % 4294967296)::Aj (n / 4294967296):=by rw[Aj,if_neg h]
theorem Aq:∀(n:Nat),Limbs (Aj n):=by
 intro n
 induction n using Arp with
 |ind n ih=>
  by_cases h:n=0
  .subst h;rw[CW];intro x hx;cases hx
  .rw[Ey h]
   intro x hx;rcases ApT.1 hx with rfl|hx
   .exact AqR _ (by omega)
   .exact ih (n / 4294967296) (by omega) x hx
theorem Az:∀(n:Nat),Ae (Aj n)=n:=by
 intro n
 induction n using Arp with
 |ind n ih=>
  by_cases h:n=0
  .subst h;rw[CW];rfl
  .rw[Ey h,Ae,ih (n / 4294967296) (by omega)]
   omega
theorem TS{n:Nat}:Aj n=[] ↔ n=0:=by
 constructor
 .intro h
  have:=Az n;rw[h]at this;exact this.symm
 .rintro rfl;exact CW
def CP:List Nat->Nat
 |[]=>0
 |x::r=>if CP r=0/\x=0 then 0 else CP r+1
theorem CB:∀ l:List Nat,CP l<=l.length
 |[]=>κ _
 |x::r=>by
  have:=CB r;unfold CP;rw[ο];split<;>omega
theorem Limbs.cons{x:Nat}{r:List Nat}(h:Limbs (x::r)):x<4294967296/\Limbs r:=⟨h x (List.mem_cons_self ..),λy hy=>h y (List.mem_cons_of_mem _ hy)⟩
theorem BT:Limbs []:=λ_ h=>by cases h
theorem Bg{x:Nat}{r:List Nat}(h:x<4294967296)(h2:Limbs r):Limbs (x::r):=λy hy=>by
 rcases ApT.1 hy with rfl|hy
 .exact h
 .exact h2 y hy
theorem CR{a b:List Nat}(h:Limbs a)(h2:Limbs b):Limbs (a++b):=λx hx=>by
 rcases List.mem_append.1 hx with hx|hx
 .exact h x hx
 .exact h2 x hx
theorem Limbs.take{l:List Nat}(h:Limbs l)(n:Nat):Limbs (l.take n):=λx hx=>h x (List.mem_of_mem_take hx)
theorem Limbs.drop{l:List Nat}(h:Limbs l)(n:Nat):Limbs (l.drop n):=λx hx=>h x (List.mem_of_mem_drop hx)
theorem Limbs.get{l:List Nat}(h:Limbs l){i:Nat}(hi:i<l.length):l[i]<4294967296:=h _ (List.getElem_mem hi)
theorem Adj:∀{l:List Nat},CP l=0->Ae l=0
 |[],_=>rfl
 |x::r,h=>by
  unfold CP at h;split at h
  .rename_i h2
   rw[Ae,Adj h2.1,h2.2]
  .omega
theorem Ado:∀{l:List Nat},Ae l=0->CP l=0
 |[],_=>rfl
 |x::r,h=>by
  rw[Ae]at h;unfold CP;rw[if_pos ⟨Ado (by omega),by omega⟩]
theorem KG:∀{l:List Nat},Limbs l->l.take (CP l)=Aj (Ae l)
 |[],_=>by rw[Ae,CW];rfl
 |x::r,h=>by
  obtain⟨h1,h2⟩:=h.cons;have ih:=KG h2;unfold CP;split
  .rename_i h3
   rw[List.take_zero,Ae,Adj h3.1,h3.2,CW]
  .rename_i h3
   have h0:Ae (x::r)≠0:=by
    intro h0;rw[Ae]at h0;exact h3 ⟨Ado (by omega),by omega⟩
   rw[ArF,Ey h0,Ae];have e1:(x+4294967296*Ae r) % 4294967296=x:=by omega
   have e2:(x+4294967296*Ae r) / 4294967296=Ae r:=by omega
   rw[e1,e2,ih]
theorem By:∀(a b:List Nat),Ae (a++b)=Ae a+4294967296 ^ a.length*Ae b
 |[],b=>by simp[Ae]
 |x::r,b=>by
  rw[List.cons_append,Ae,By r b,Ae,ο,Ary,AqS,←Aqr,AqH 4294967296 (4294967296 ^ r.length)];omega
theorem B8:∀{l:List Nat},Limbs l->Ae l<4294967296 ^ l.length
 |[],_=>by simp[Ae]
 |x::r,h=>by
  obtain⟨h1,h2⟩:=h.cons;have:=B8 h2;rw[Ae,ο,Ary];omega
theorem Dq(l:List Nat)(h:Limbs l):(Aj (Ae l)).length=CP l:=by
 rw[←KG h,List.length_take];have:=CB l;omega
theorem B4{n k:Nat}(h:n<4294967296 ^ k):(Aj n).length<=k:=by
 induction k generalizing n with
 |zero=>
  have:n=0:=by simpa using h
  subst this;rw[CW];exact κ _
 |succ k ih=>
  by_cases h0:n=0
  .subst h0;rw[CW];exact AqC _
  .rw[Ey h0,ο]
   have:n / 4294967296<4294967296 ^ k:=by
    rw[Nat.div_lt_iff_lt_mul (by omega)];rw[Ary]at h;exact h
   have:=ih this;omega
theorem Hv{n k:Nat}(h:4294967296 ^ k<=n):k<(Aj n).length:=by
 by_cases h2:k<(Aj n).length
 .exact h2
 .have h3:=B8 (Aq n)
  rw[Az]at h3;have h4:4294967296 ^ (Aj n).length<=4294967296 ^ k:=ArO (by omega) (by omega);omega
theorem QC:∀{l:List Nat},0<CP l->∃ x,l[CP l-1]? = Θ x/\x≠0
 |[],h=>by simp[CP]at h
 |y::r,h=>by
  by_cases h1:CP r=0
  .have h2:y≠0:=by
    intro h2;unfold CP at h;rw[if_pos ⟨h1,h2⟩]at h;omega
   refine⟨y,?_,h2⟩;unfold CP;rw[if_neg (λe=>h2 e.2),h1];rfl
  .obtain⟨x,h3,h4⟩:=QC (l:=r) (by omega)
   refine⟨x,?_,h4⟩;unfold CP;rw[if_neg (λe=>h1 e.1)];have:CP r+1-1=(CP r-1)+1:=by omega
   rw[this,Aqa,h3]
theorem St:∀{l:List Nat} {i x:Nat},l[i]? = Θ x->x≠0->i<CP l
 |[],i,x,h,_=>by simp at h
 |y::r,0,x,h,h2=>by
  have h:y=x:=by simpa using h
  unfold CP;rw[if_neg (λe=>h2 (by rw[←h];exact e.2))];omega
 |y::r,i+1,x,h,h2=>by
  rw[Aqa]at h;have:=St h h2;unfold CP;rw[if_neg (λe=>by omega)];omega
theorem QB{l:List Nat}{n:Nat}(h:CP l<=n+1)(h2:l[n]? = Θ 0):CP l<=n:=by
 by_cases h3:CP l=n+1
 .obtain⟨x,h4,h5⟩:=QC (l:=l) (by omega)
  rw[h3,Nat.add_sub_cancel,h2]at h4;injection h4 with h4
  exact absurd h4.symm h5
 .omega
def eL(n:Nat):List AV:=[.v (.int .u32 (n:Int))]
def eN(l:List Nat):AV:=.ls (l.map eL)
theorem AE(x:Nat):(eL x).length=1:=rfl
def KT:Nat->List Nat->List Nat->List Nat
 |c,[],_=>[c]
 |c,x::a,b=>((x+b.headD 0+c) % 4294967296)::KT ((x+b.headD 0+c) / 4294967296) a b.tail
theorem Et{b:List Nat}(h:Limbs b):b.headD 0<4294967296:=by
 cases b with
 |nil=>simp
 |cons y b=>exact h.cons.1
theorem Limbs.tail{b:List Nat}(h:Limbs b):Limbs b.tail:=by
 cases b with
 |nil=>exact h
 |cons y b=>exact h.cons.2
theorem KN(b:List Nat):Ae b=b.headD 0+4294967296*Ae b.tail:=by
 cases b<;>rfl
theorem LO:∀(a b:List Nat) (c:Nat),b.length<=a.length->Ae (KT c a b)=c+Ae a+Ae b
 |[],b,c,h=>by
  obtain rfl:b=[]:=As4.1 (by simpa using h);simp[KT,Ae]
 |x::a,b,c,h=>by
  have ih:=LO a b.tail ((x+b.headD 0+c) / 4294967296) (by simp at h ⊢;omega);rw[KT,Ae,ih,Ae,KN b];omega
theorem I5:∀(a b:List Nat) (c:Nat),Limbs a->Limbs b->c<=1->Limbs (KT c a b)
 |[],b,c,_,_,hc=>Bg (by omega) BT
 |x::a,b,c,ha,hb,hc=>by
  have h1:=Et hb;have h2:=ha.cons;exact Bg (AqR _ (by omega)) (I5 a b.tail _ h2.2 hb.tail (by omega))
def KD:Nat->List Nat->List Nat->List Nat
 |_,[],_=>[]
 |c,x::a,b=>(if x<b.headD 0+c then x+4294967296-(b.headD 0+c) else x-(b.headD 0+c))::KD (if x<b.headD 0+c then 1 else 0) a b.tail
def Se:Nat->List Nat->List Nat->Nat
 |c,[],_=>c
 |c,x::a,b=>Se (if x<b.headD 0+c then 1 else 0) a b.tail
theorem XO:∀(a b:List Nat) (c:Nat),c<=1->Se c a b<=1
 |[],_,_,h=>h
 |x::a,b,c,h=>XO a b.tail _ (by split<;>omega)
theorem QJ:∀(a b:List Nat) (c:Nat),Limbs a->Limbs b->c<=1->b.length<=a.length->Ae (KD c a b)+Ae b+c=Ae a+4294967296 ^ a.length*Se c a b
 |[],b,c,_,_,_,h=>by
  obtain rfl:b=[]:=As4.1 (by simpa using h);simp[KD,Se,Ae]
 |x::a,b,c,ha,hb,hc,h=>by
  have h1:=Et hb;have h2:=ha.cons;rw[KD,Se,Ae,Ae,KN b,ο,Ary];have ih:=QJ a b.tail (if x<b.headD 0+c then 1 else 0) h2.2 hb.tail (by split<;>omega) (by simp at h ⊢;omega);rw[AqH (4294967296 ^ a.length) 4294967296,Aqr];revert ih;generalize 4294967296 ^ a.length*Se (if x<b.headD 0+c then 1 else 0) a b.tail=z;generalize Ae (KD (if x<b.headD 0+c then 1 else 0) a b.tail)=s;intro ih;split at ih
  .rename_i h3
   rw[if_pos h3];omega
  .rename_i h3
   rw[if_neg h3];omega
theorem JC:∀(a b:List Nat) (c:Nat),Limbs a->Limbs b->c<=1->Limbs (KD c a b)
 |[],_,_,_,_,_=>BT
 |x::a,b,c,ha,hb,hc=>by
  have h1:=Et hb;have h2:=ha.cons;refine Bg ?_ (JC a b.tail _ h2.2 hb.tail (by split<;>omega));split<;>omega
theorem OY:∀(a b:List Nat) (c:Nat),(KD c a b).length=a.length
 |[],_,_=>rfl
 |x::a,b,c=>by rw[KD,ο,OY a,ο]
theorem Adp{a b:List Nat}(ha:Limbs a)(hb:Limbs b)(h:b.length<=a.length)(hv:Ae b<=Ae a):Ae (KD 0 a b)=Ae a-Ae b:=by
 have h1:=QJ a b 0 ha hb (by omega) h;have h2:=B8 (JC a b 0 ha hb (by omega));rw[OY]at h2;have h3:=XO a b 0 (by omega);have h4:=B8 ha;rcases Aqv (Se 0 a b) 1 with h5|h5
 .rw[show Se 0 a b=0 by omega]at h1
  omega
 .rw[show Se 0 a b=1 by omega]at h1
  omega
def Oi:Nat->Nat->List Nat->List Nat->List Nat
 |_,c,[],o=>c::o.tail
 |x,c,y::b,o=>((x*y+o.headD 0+c) % 4294967296)::Oi x ((x*y+o.headD 0+c) / 4294967296) b o.tail
theorem QI:∀(x:Nat) (b o:List Nat) (c:Nat),(o.drop b.length).headD 0=0->Ae (Oi x c b o)=x*Ae b+Ae o+c
 |x,[],o,c,h=>by
  have h:o.headD 0=0:=h;rw[Oi,Ae,Ae,KN o,h];omega
 |x,y::b,o,c,h=>by
  have h2:(o.tail.drop b.length).headD 0=0:=by
   rw[ο]at h
   cases o with
   |nil=>simp
   |cons z o=>exact h
  have ih:=QI x b o.tail ((x*y+o.headD 0+c) / 4294967296) h2;have e:x*(y+4294967296*Ae b)=x*y+4294967296*(x*Ae b):=by
   rw[AqS,←Aqr,AqH x 4294967296,Aqr]
  rw[Oi,Ae,ih,Ae,KN o,e];omega
theorem Lo{x y:Nat}(hx:x<4294967296)(hy:y<4294967296):x*y<=18446744065119617025:=by
 have:=Nat.mul_le_mul (show x<=4294967295 by omega) (show y<=4294967295 by omega);omega
theorem Oj:∀(x:Nat) (b o:List Nat) (c:Nat),x<4294967296->Limbs b->Limbs o->c<4294967296->Limbs (Oi x c b o)
 |x,[],o,c,_,_,ho,hc=>Bg hc ho.tail
 |x,y::b,o,c,hx,hb,ho,hc=>by
  have h1:=Et ho;have h2:=hb.cons;have h3:=Lo hx h2.1;exact Bg (AqR _ (by omega)) (Oj x b o.tail _ hx h2.2 ho.tail (by omega))
def FX:Nat->Nat->List Nat->List Nat
 |_,c,[]=>[c]
 |m,c,x::a=>((x*m+c) % 4294967296)::FX m ((x*m+c) / 4294967296) a
theorem Mr:∀(m:Nat) (a:List Nat) (c:Nat),Ae (FX m c a)=Ae a*m+c
 |m,[],c=>by simp[FX,Ae]
 |m,x::a,c=>by
  rw[FX,Ae,Mr m a,Ae,Aqz,Aqr];omega
theorem Kz:∀(m:Nat) (a:List Nat) (c:Nat),m<4294967296->Limbs a->c<4294967296->Limbs (FX m c a)
 |m,[],c,_,_,hc=>Bg hc BT
 |m,x::a,c,hm,ha,hc=>by
  have h2:=ha.cons;have h3:=Lo h2.1 hm;exact Bg (AqR _ (by omega)) (Kz m a _ hm h2.2 (by omega))
def Do(a b:Nat):Int:=if a<b then -1 else if b<a then 1 else 0
theorem SZ{a b:List Nat}(ha:Limbs a)(hb:Limbs b)(h:a.length=b.length)(x y:Nat):Do (Ae (a++[x])) (Ae (b++[y]))=if x<y then -1 else if y<x then 1 else Do (Ae a) (Ae b):=by
 rw[By,By,←h];have h1:=B8 ha;have h2:=B8 hb;rw[←h]at h2;simp only[Ae,As2,AqJ];revert h1 h2;generalize 4294967296 ^ a.length=k;generalize Ae a=p;generalize Ae b=q;intro h1 h2
 by_cases h3:x<y
 .rw[if_pos h3]
  have:k*(x+1)<=k*y:=Arw _ h3;rw[AqS]at this;unfold Do;rw[if_pos (by omega)]
 .rw[if_neg h3]
  by_cases h4:y<x
  .rw[if_pos h4]
   have:k*(y+1)<=k*x:=Arw _ h4;rw[AqS]at this;unfold Do;rw[if_neg (by omega),if_pos (by omega)]
  .rw[if_neg h4]
   obtain rfl:x=y:=by omega
   unfold Do
   by_cases h5:p<q
   .rw[if_pos (by omega),if_pos h5]
   .rw[if_neg (by omega),if_neg h5]
    by_cases h6:q<p
    .rw[if_pos (by omega),if_pos h6]
    .rw[if_neg (by omega),if_neg h6]
theorem Abd{P V2 vl U3 ul g:Nat}(hvl:vl<P)(hV2:4294967296<=V2)(hg:g<=4294967296)(h:g*V2<=U3):g*(V2*P+vl)<(U3*P+ul)+(V2*P+vl):=by
 have h1:g*V2*P<=U3*P:=Aqb _ h;have h2:g*vl<=4294967296*vl:=Aqb _ hg;have h3:4294967296*P<=V2*P:=Aqb _ hV2;rw[AqS,←Aqr];omega
theorem Abe{P V2 vl U3 ul g:Nat}(hul:ul<P)(h:U3<g*V2):U3*P+ul<g*(V2*P+vl):=by
 have h1:(U3+1)*P<=g*V2*P:=Aqb _ h;rw[Aqz,Aq8]at h1;rw[AqS,←Aqr];omega
theorem Aek{Q f dl T ul:Nat}(hul:ul<Q)(hf:0<f):T*Q+ul<(T / f+1)*(f*Q+dl):=by
 have h1:T+1<=(T / f+1)*f:=by
  have:=AsF T f;have:=AqR T hf;rw[Aqz,Aq8,AqH];omega
 have h2:(T+1)*Q<=(T / f+1)*f*Q:=Aqb _ h1;rw[Aqz,Aq8]at h2;rw[AqS,←Aqr];omega
def Dm:Nat->Nat->Nat->List Nat->List Nat->List Nat
 |_,_,_,_,[]=>[]
 |m,c,w,u,x::d=>(if u.headD 0<(m*x+c) % 4294967296+w then u.headD 0+4294967296-((m*x+c) % 4294967296+w) else u.headD 0-((m*x+c) % 4294967296+w))::Dm m ((m*x+c) / 4294967296) (if u.headD 0<(m*x+c) % 4294967296+w then 1 else 0) u.tail d
def DC:Nat->Nat->List Nat->Nat
 |_,c,[]=>c
 |m,c,x::d=>DC m ((m*x+c) / 4294967296) d
def CY:Nat->Nat->Nat->List Nat->List Nat->Nat
 |_,_,w,_,[]=>w
 |m,c,w,u,x::d=>CY m ((m*x+c) / 4294967296) (if u.headD 0<(m*x+c) % 4294967296+w then 1 else 0) u.tail d
theorem F5:∀(m c w:Nat) (u d:List Nat),(Dm m c w u d).length=d.length
 |_,_,_,_,[]=>rfl
 |m,c,w,u,x::d=>by rw[Dm,ο,F5,ο]
theorem Ni:∀(m c w:Nat) (u d:List Nat),w<=1->CY m c w u d<=1
 |_,_,_,_,[],h=>h
 |m,c,w,u,x::d,h=>Ni m _ _ _ d (by split<;>omega)
theorem Ng:∀(m c:Nat) (d:List Nat),m<4294967296->Limbs d->c<4294967296->DC m c d<4294967296
 |_,_,[],_,_,h=>h
 |m,c,x::d,hm,hd,hc=>by
  have h:=hd.cons;have:=Lo hm h.1;exact Ng m _ d hm h.2 (by omega)
theorem Hf:∀(m c w:Nat) (u d:List Nat),Limbs u->w<=1->Limbs (Dm m c w u d)
 |_,_,_,_,[],_,_=>BT
 |m,c,w,u,x::d,hu,hw=>by
  have h1:=Et hu;have h2:=AqR (m*x+c) (show 0<4294967296 by omega);exact Bg (by split<;>omega) (Hf m _ _ _ d hu.tail (by split<;>omega))
theorem Pb:∀(m c w:Nat) (u d:List Nat),Limbs u->w<=1->d.length<=u.length->
  Ae (Dm m c w u d)+m*Ae d+c+w=Ae (u.take d.length)+4294967296 ^ d.length*(DC m c d+CY m c w u d)
 |m,c,w,u,[],_,_,_=>by simp[Dm,DC,CY,Ae]
 |m,c,w,u,x::d,hu,hw,hl=>by
  cases u with
  |nil=>simp at hl
  |cons y u=>
   have h1:=hu.cons;have h2:=AqR (m*x+c) (show 0<4294967296 by omega);have ih:=Pb m ((m*x+c) / 4294967296) (if y<(m*x+c) % 4294967296+w then 1 else 0) u d h1.2 (by split<;>omega) (by simpa using hl);rw[Dm,DC,CY,Ae,ο,ArF,Ae,Ae,Ary,AqH (4294967296 ^ d.length) 4294967296,Aqr,Arh,ArC];have e:m*(x+4294967296*Ae d)=m*x+4294967296*(m*Ae d):=by
    rw[AqS,←Aqr,AqH m 4294967296,Aqr]
   rw[e];revert ih;generalize 4294967296 ^ d.length*(DC m ((m*x+c) / 4294967296) d+CY m ((m*x+c) / 4294967296) (if y<(m*x+c) % 4294967296+w then 1 else 0) u d)=z;generalize Ae (Dm m ((m*x+c) / 4294967296) (if y<(m*x+c) % 4294967296+w then 1 else 0) u d)=s;generalize m*x=mx at *;generalize m*Ae d=md;intro ih;split
   .rename_i h3
    rw[if_pos h3]at ih;omega
   .rename_i h3
    rw[if_neg h3]at ih;omega
def CZ:Nat->List Nat->List Nat->List Nat
 |_,_,[]=>[]
 |c,u,x::d=>((u.headD 0+x+c) % 4294967296)::CZ ((u.headD 0+x+c) / 4294967296) u.tail d
def CG:Nat->List Nat->List Nat->Nat
 |c,_,[]=>c
 |c,u,x::d=>CG ((u.headD 0+x+c) / 4294967296) u.tail d
theorem D8:∀(c:Nat) (u d:List Nat),(CZ c u d).length=d.length
 |_,_,[]=>rfl
 |c,u,x::d=>by rw[CZ,ο,D8,ο]
theorem Hg:∀(c:Nat) (u d:List Nat),Limbs (CZ c u d)
 |_,_,[]=>BT
 |c,u,x::d=>Bg (AqR _ (by omega)) (Hg _ _ d)
theorem Nk:∀(c:Nat) (u d:List Nat),Limbs u->Limbs d->c<=1->CG c u d<=1
 |_,_,[],_,_,h=>h
 |c,u,x::d,hu,hd,hc=>by
  have h1:=Et hu;have h2:=hd.cons;exact Nk _ u.tail d hu.tail h2.2 (by omega)
theorem Pc:∀(c:Nat) (u d:List Nat),d.length<=u.length->Ae (CZ c u d)+4294967296 ^ d.length*CG c u d=c+Ae (u.take d.length)+Ae d
 |c,u,[],_=>by simp[CZ,CG,Ae]
 |c,u,x::d,hl=>by
  cases u with
  |nil=>simp at hl
  |cons y u=>
   have ih:=Pc ((y+x+c) / 4294967296) u d (by simpa using hl);rw[CZ,CG,Ae,ο,ArF,Ae,Ae,Ary,AqH (4294967296 ^ d.length) 4294967296,Aqr,Arh,ArC];revert ih;generalize 4294967296 ^ d.length*CG ((y+x+c) / 4294967296) u d=z;generalize Ae (CZ ((y+x+c) / 4294967296) u d)=s;intro ih;omega
theorem Ye{p s mv u ul t B:Nat}(ht:t<=B)(hul:ul<B)(h1:s+mv=u+p*t):s+p*((ul+B-t) % B)+mv=u+p*ul+(if ul<t then p*B else 0):=by
 by_cases h:ul<t
 .rw[if_pos h,Aq3 (by omega)]
  have e:p*(ul+B-t)+p*t=p*ul+p*B:=by
   rw[←AqS,show ul+B-t+t=ul+B by omega,AqS]
  omega
 .have e0:(ul+B-t) % B=ul-t:=by
   rw[show ul+B-t=(ul-t)+B by omega,Nat.add_mod_right,Aq3 (by omega)]
  rw[if_neg h,e0];have e:p*(ul-t)+p*t=p*ul:=by rw[←AqS,show ul-t+t=ul by omega]
  omega
theorem Aak{u d:List Nat}{m ul:Nat}(hu:Limbs u)(hd:Limbs d)(hl:u.length=d.length)(hm:m<4294967296)(hul:ul<4294967296) :
  Ae (Dm m 0 0 u d++[(ul+4294967296-(DC m 0 d+CY m 0 0 u d)) % 4294967296])+m*Ae d=Ae (u++[ul])+(if ul<DC m 0 d+CY m 0 0 u d then 4294967296 ^ (d.length+1) else 0):=by
 have h1:=Pb m 0 0 u d hu (AqC _) (At9 hl.symm);have h2:=Ng m 0 d hm hd (by decide);have h3:=Ni m 0 0 u d (AqC _);have ht:DC m 0 d+CY m 0 0 u d<=4294967296:=by omega
 rw[Aq6 (At9 hl)]at h1;rw[By,By,F5,hl,Ary];have e:∀ x,Ae [x]=x:=λx=>by simp[Ae]
 rw[e,e];exact Ye ht hul h1
theorem Aap{u d:List Nat}{ul:Nat}(hu:Limbs u)(hd:Limbs d)(hl:u.length=d.length)(hul:ul<4294967296) :
  Ae (CZ 0 u d++[(ul+CG 0 u d) % 4294967296])=(Ae (u++[ul])+Ae d) % 4294967296 ^ (d.length+1):=by
 have h1:=Pc 0 u d (by omega);have h2:=Nk 0 u d hu hd (by omega);have h3:=B8 (CR (Hg 0 u d) (Bg (AqR (ul+CG 0 u d) (show 0<4294967296 by omega)) BT));rw[List.length_append,D8,List.length_singleton]at h3;rw[Aq6 (by omega)]at h1;rw[By,D8]at h3;rw[By,By,D8];simp only[Ae,As2,AqJ,Nat.zero_add]at h1 h3 ⊢;rw[hl];have e:=AsF (ul+CG 0 u d) 4294967296;have e2:Ae u+4294967296 ^ d.length*ul+Ae d=Ae (CZ 0 u d)+4294967296 ^ d.length*((ul+CG 0 u d) % 4294967296)+4294967296 ^ (d.length+1)*((ul+CG 0 u d) / 4294967296):=by
  have:4294967296 ^ d.length*(ul+CG 0 u d)=4294967296 ^ d.length*((ul+CG 0 u d) % 4294967296)+4294967296 ^ (d.length+1)*((ul+CG 0 u d) / 4294967296):=by
   rw[Ary,Aqr,←AqS]
   congr 1
   omega
  rw[AqS]at this;omega
 rw[e2,Nat.add_mul_mod_self_left,Aq3 h3]
theorem D9{a b:Int}(h:a=b){x y:KR}:br (Ad.eq a b) x y=x:=by rw[Ane,decide_eq_true h];rfl
theorem BF{a b:Int}{x y z:KR}(g:x=z)(h: a=b:=by omega):br (Ad.eq a b) x y=z:=(D9 h).trans g
theorem Cj{a b:Int}(h:¬ a=b){x y:KR}:br (Ad.eq a b) x y=y:=by rw[Ane,decide_eq_false h];rfl
theorem Bm{a b:Int}{x y z:KR}(g:y=z)(h:¬ a=b:=by omega):br (Ad.eq a b) x y=z:=(Cj h).trans g
theorem Ad0{a b:ByteArray}(h:a=b){x y:KR}:br (Ad.seq a b) x y=x:=by rw[Anh,decide_eq_true h];rfl
theorem AgS{a b:ByteArray}{x y z:KR}(h: a=b)(g:x=z):br (Ad.seq a b) x y=z:=(Ad0 h).trans g
theorem QW{a b:Int}(h:a<b){x y:KR}:br (Ad.lt a b) x y=x:=by rw[Ang,decide_eq_true h];rfl
theorem Al{a b:Int}{x y z:KR}(g:x=z)(h: a<b:=by omega):br (Ad.lt a b) x y=z:=(QW h).trans g
theorem C3{a b:Int}(h:¬ a<b){x y:KR}:br (Ad.lt a b) x y=y:=by rw[Ang,decide_eq_false h];rfl
theorem Ak{a b:Int}{x y z:KR}(g:y=z)(h:¬ a<b:=by omega):br (Ad.lt a b) x y=z:=(C3 h).trans g
theorem KW{a b:Int}(h:a<=b){x y:KR}:br (Ad.le a b) x y=x:=by rw[Anf,decide_eq_true h];rfl
theorem CI{a b:Int}{x y z:KR}(g:x=z)(h: a≤b:=by omega):br (Ad.le a b) x y=z:=(KW h).trans g
theorem U2{a b:Int}(h:¬ a<=b){x y:KR}:br (Ad.le a b) x y=y:=by rw[Anf,decide_eq_false h];rfl
theorem DA{a b:Int}{x y z:KR}(g:y=z)(h:¬ a≤b:=by omega):br (Ad.le a b) x y=z:=(U2 h).trans g
section
open Go.RowKit
def Xn:MFn:=AY [⟨21,(mB 9),[],[],[(1,((mB 9),([],[])))]⟩] 200
def Tw:Hnt:=⟨[],[(0,[(1,([.ls,.int .i64],[]))])],[(12,[.int .u32]),(13,[.int .u32])]⟩
def AiQ:MFn:=AY [] 202
def Aif:Hnt:=⟨[(200,(.ls,[])),(236,(.sl 0 1,[.row Δ]))],[],[]⟩
def AiO:MFn:=AY [] 184
def Aid:Hnt:=⟨[(202,(.ls,[]))],[],[]⟩
def Xo:MFn:=AY [⟨49,(mB 35),[],[],[(0,((mB 16),([],[]))),(2,([],([],[])))]⟩] 201
def Tx:Hnt:=⟨[(200,(.ls,[]))],[(0,[(0,([.int .i64],[])),(2,([],[]))])],[(32,[.int .u32]),(33,[.int .u32]),(36,[.int .u32]),(37,[.int .u32]),(42,[.int .u32]),(43,[.int .u32]),(46,[.int .u32]),(47,[.int .u32])]⟩
def Xk:MFn:=AY [⟨61,(mB 234881122),[(5,1)],[],[(1,((mB 96),([],[])))]⟩] 197
def Tu:Hnt:=⟨[(200,(.ls,[])),(202,(.ls,[]))],[(0,[(1,([.sl 1 1,.int .u64],[.del,.row Δ]))])],[(30,[.int .u32]),(31,[.int .u32]),(43,[.int .u32]),(44,[.int .u32])]⟩
def Xl:MFn:=AY [⟨59,(mB 58720450),[(6,1)],[],[(1,((mB 64),([],[])))]⟩] 198
def Tv:Hnt:=⟨[(200,(.ls,[])),(201,(.int .i64,[])),(202,(.ls,[]))],[(0,[(1,([.sl 1 1],[.del,.row Δ]))])],[(28,[.int .u32]),(29,[.int .u32]),(38,[.int .u32]),(39,[.int .u32])]⟩
def Qh:MFn:=AY [⟨68,(mB 1835042),[],[],[(1,((mB 32),([],[])))]⟩,⟨68,(mB 236716514),[],[],[(3,((mB 1835362),([],[])))]⟩] 243
def L8:Hnt:=⟨[(202,(.ls,[]))],[(0,[(1,([.sl 1 1],[.del,.row Δ]))]),(1,[(3,([.ls,.sl 1 1,.int .i64,.int .u64,.ls,.int .i64,.int .i64],[.del,.row Δ]))])],[(23,[.int .u32]),(24,[.int .u32]),(30,[.int .u32]),(31,[.int .u32]),(41,[.int .u32]),(42,[.int .u32]),(53,[.int .u32]),(64,[.int .u32])]⟩
def AiR:MFn:=AY [] 212
def Aig:Hnt:=⟨[(200,(.ls,[])),(243,(.ls,[])),(244,(.ls,[]))],[],[]⟩
def GY:List (Nat × MFn):=[(200,Xn),(202,AiQ),(184,AiO),(201,Xo),(197,Xk),(198,Xl),(243,Qh),(212,AiR)]
variable (A:Ar) (D:Orc)
theorem Aon(x0:Rw):Cm A D Av Tw .n 200 Xn [Ψ x0] [] =
 Af D (ApW 200 0) [Ψ x0,iv ↑(AS x0)] [] [.t,.C,.x,.X,.Y] λc l o=>
 br (Bp 1 c)
 (dk [.L,.I,.N,.E] [.l l,.o o] λxs n=>
 unI n λi=>
 br (L9 0 i (AS xs)) (br (Gw 1 xs) (Θ ((Ψ (IR (I0 xs i) 0),[]))) Ξ) Ξ)
 (Ξ):=by kernel_rfl
theorem AaI(t0:Rw)(t3:Int):D2 A D Av Tw .n 200 0 (AW Xn 0).fst (AW Xn 0).snd [Ψ t0,iv t3] [] =
 br (A.lt 0 t3)
 (unI (A.sub δ t3 1) λi=>
 BG t0 i λcs=>
 dk [.J .u32,.N] [.l cs] λn=>
 br (A.eq n 0)
 (AK D (ApW 200 0) [Ψ t0,iv (A.sub δ t3 1)] [] λr o=>
 AF 0 [] (AH.mk [] 0 Ξ) [] r o)
 (Θ ((ε [iv 0,Ψ t0,iv t3],[]))))
 (Θ ((ε [iv 0,Ψ t0,iv t3],[]))):=by kernel_rfl
theorem Aop(x0:Rw):Cm A D Av Aif .n 202 AiQ [Ψ x0] [] =
 Af D (ψ 200) [Ψ x0] [] [.l,.E] λxs=>
 Af D (ψ 236) [Ψ xs] [] [.q 0 1,.R,.X,.E] λn cs=>
 br ((0+n*1).ble cs.length) (Θ ((Ψ (Bi n 1 (Ap2 (n*1) cs)),[]))) Ξ:=by kernel_rfl
theorem Aoh(x0:Int):Cm A D Av Aid .n 184 AiO [Ap8 (Value.int Ω x0)] [] =
 br (A.lt 32 0)
 (Ξ)
 (Af D (ψ 202) [Ψ [[Ap8 (Value.int η (A.conv η x0))],[Ap8 (Value.int η (A.conv η (A.shr Ω x0 32)))]]] [] [.l,.E] λxs=>
 Θ ((Ψ xs,[]))):=by kernel_rfl
theorem Aoo(x0 x1:Rw):Cm A D Av Tx .n 201 Xo [Ψ x0,Ψ x1] [] =
 Af D (ψ 200) [Ψ x0] [] [.l,.E] λxs=>
 Af D (ψ 200) [Ψ x1] [] [.l,.E] λxs1=>
 br (A.lt ↑(AS xs) ↑(AS xs1))
 (Θ ((iv (-1),[])))
 (br (A.lt ↑(AS xs1) ↑(AS xs))
 (Θ ((iv 1,[])))
 (Af D (ApW 201 0) [Ψ xs,Ψ xs1,iv (A.sub δ (↑(AS xs)) 1)] [] [.t,.C,.x,.X,.Y] λc l o2=>
 br (Bp 0 c)
 (dk [.I,.N,.E] [.l l,.o o2] λn=>
 Θ ((iv n,[])))
 (br (Bp 2 c)
 (Gu l<|
 Fl o2<|
 Θ ((iv 0,[])))
 (Ξ)))):=by kernel_rfl
theorem AaJ(t0 t1:Rw)(t5:Int):D2 A D Av Tx .n 201 0 (AW Xo 0).fst (AW Xo 0).snd [Ψ t0,Ψ t1,iv t5] [] =
 br (A.le 0 t5)
 (unI t5 λi=>
 BG t0 i λcs=>
 dk [.J .u32,.N] [.l cs] λn=>
 unI t5 λi1=>
 BG t1 i1 λcs1=>
 dk [.J .u32,.N] [.l cs1] λn1=>
 br (A.lt n n1)
 (Θ ((ε [bv Δ,iv (-1)],[])))
 (unI t5 λi2=>
 BG t0 i2 λcs2=>
 dk [.J .u32,.N] [.l cs2] λn2=>
 unI t5 λi3=>
 BG t1 i3 λcs3=>
 dk [.J .u32,.N] [.l cs3] λn3=>
 br (A.lt n3 n2)
 (Θ ((ε [bv Δ,iv 1],[])))
 (AK D (ApW 201 0) [Ψ t0,Ψ t1,iv (A.sub δ t5 1)] [] λr o=>
 AF 0 [] (AH.mk [] 0 Ξ) [] r o)))
 (Θ ((ε [iv 1],[]))):=by kernel_rfl
theorem Aok(x0 x1:Rw):Cm A D Av Tu .n 197 Xk [Ψ x0,Ψ x1] [] =
 Af D (ψ 200) [Ψ x0] [] [.l,.E] λxs=>
 Af D (ψ 200) [Ψ x1] [] [.l,.E] λxs1=>
 br (A.lt ↑(AS xs) ↑(AS xs1))
 (unI (A.add δ (↑(AS xs1)) 1) λi=>
 br (BB i 4) (AK D (ApW 197 0) [Ψ xs,γ 0 0 0 1,Ap8 (Value.int Ω 0),Ψ xs1,iv ↑(AS xs1),iv 0] [θ [] Δ Δ] λr2 o2=>
 dk [.t,.C,.x,.X] [.v r2] λc l=>
 br (Bp 1 c)
 (dk [.C,.q 1 1,.J .u64,.N,.D,.R,.X,.E] [.l l,.o o2] λn n1 cs1=>
 br (BB (n+1) 4) (br ((0+n*1).ble cs1.length) (br ((0+(n+1)*1).ble (Aqe 0 (Ap2 (0+n*1) cs1)++[Ap8 (Value.int η (A.conv η n1))]).length) (AK D (ψ 202) [Ψ (Bi (n+1) 1 (Ap2 ((n+1)*1) (Aqe 0 (Aqe 0 (Ap2 (0+n*1) cs1)++[Ap8 (Value.int η (A.conv η n1))]))))] [] λr3 o3=>
 dk [.l,.E] [.v r3,.o o3] λxs2=>
 Θ ((Ψ xs2,[]))) Ξ) Ξ) Ξ)
 (Ξ)) Ξ)
 (unI (A.add δ (↑(AS xs)) 1) λi=>
 br (BB i 4) (AK D (ApW 197 0) [Ψ xs1,γ 0 0 0 1,Ap8 (Value.int Ω 0),Ψ xs,iv ↑(AS xs),iv 0] [θ [] Δ Δ] λr2 o2=>
 dk [.t,.C,.x,.X] [.v r2] λc l=>
 br (Bp 1 c)
 (dk [.C,.q 1 1,.J .u64,.N,.D,.R,.X,.E] [.l l,.o o2] λn n1 cs1=>
 br (BB (n+1) 4) (br ((0+n*1).ble cs1.length) (br ((0+(n+1)*1).ble (Aqe 0 (Ap2 (0+n*1) cs1)++[Ap8 (Value.int η (A.conv η n1))]).length) (AK D (ψ 202) [Ψ (Bi (n+1) 1 (Ap2 ((n+1)*1) (Aqe 0 (Aqe 0 (Ap2 (0+n*1) cs1)++[Ap8 (Value.int η (A.conv η n1))]))))] [] λr3 o3=>
 dk [.l,.E] [.v r3,.o o3] λxs2=>
 Θ ((Ψ xs2,[]))) Ξ) Ξ) Ξ)
 (Ξ)) Ξ):=by kernel_rfl
theorem AaG(t1:Rw)(n5:Nat)(c5:List AV)(t6:Int)(t25:Rw)(t26 t27:Int):D2 A D Av Tu .n 197 0 (AW Xk 0).fst (AW Xk 0).snd [Ψ t1,γ 0 0 n5 1,Ap8 (Value.int Ω t6),Ψ t25,iv t26,iv t27] [{ cells:=c5,st:=Δ,ex:=Δ }] =
 br (A.lt t27 t26)
 (unI t27 λi=>
 BG t25 i λcs=>
 dk [.J .u32,.N] [.l cs] λn=>
 br (A.lt t27 ↑(AS t1))
 (unI t27 λi1=>
 BG t1 i1 λcs1=>
 dk [.J .u32,.N] [.l cs1] λn1=>
 br (BB (n5+1) 4) (br ((0+n5*1).ble c5.length) (br (A.lt 32 0)
 (Ξ)
 (AK D (ApW 197 0) [Ψ t1,γ 0 0 (n5+1) 1,Ap8 (Value.int Ω (A.shr Ω (A.add Ω (A.add Ω (A.conv Ω n) t6) (A.conv Ω n1)) 32)),Ψ t25,iv t26,iv (A.add δ t27 1)] [θ (Aqe 0 (Ap2 (0+n5*1) c5)++[Ap8 (Value.int η (A.conv η (A.add Ω (A.add Ω (A.conv Ω n) t6) (A.conv Ω n1))))]) Δ Δ] λr o=>
 AF 1 [2] (AH.mk [(2,θ (Aqe 0 (Ap2 (0+n5*1) c5)++[Ap8 (Value.int η (A.conv η (A.add Ω (A.add Ω (A.conv Ω n) t6) (A.conv Ω n1))))]) Δ Δ),(1,θ [Ap8 (Value.int η (A.conv η (A.add Ω (A.add Ω (A.conv Ω n) t6) (A.conv Ω n1))))] Δ Δ)] 3 Ξ) [0] r o)) Ξ) Ξ)
 (br (BB (n5+1) 4) (br ((0+n5*1).ble c5.length) (br (A.lt 32 0)
 (Ξ)
 (AK D (ApW 197 0) [Ψ t1,γ 0 0 (n5+1) 1,Ap8 (Value.int Ω (A.shr Ω (A.add Ω (A.conv Ω n) t6) 32)),Ψ t25,iv t26,iv (A.add δ t27 1)] [θ (Aqe 0 (Ap2 (0+n5*1) c5)++[Ap8 (Value.int η (A.conv η (A.add Ω (A.conv Ω n) t6)))]) Δ Δ] λr o=>
 AF 1 [2] (AH.mk [(2,θ (Aqe 0 (Ap2 (0+n5*1) c5)++[Ap8 (Value.int η (A.conv η (A.add Ω (A.conv Ω n) t6)))]) Δ Δ),(1,θ [Ap8 (Value.int η (A.conv η (A.add Ω (A.conv Ω n) t6)))] Δ Δ)] 3 Ξ) [0] r o)) Ξ) Ξ))
 (Θ ((ε [iv 0,γ 1 0 n5 1,Ap8 (Value.int Ω t6)],[BO.del,ApX (θ c5 Δ Δ)]))):=by kernel_rfl
theorem Aol(x0 x1:Rw):Cm A D Av Tv .n 198 Xl [Ψ x0,Ψ x1] [] =
 Af D (ψ 200) [Ψ x0] [] [.l,.E] λxs=>
 Af D (ψ 200) [Ψ x1] [] [.l,.E] λxs1=>
 Af D (ψ 201) [Ψ xs,Ψ xs1] [] [.i,.E] λn=>
 br (A.lt n 0)
 (Θ ((ε [Ψ [],bv false],[])))
 (br (BB (AS xs) 4) (AK D (ApW 198 0) [Ψ xs1,γ 0 0 0 1,Ap8 (Value.int Ω 0),Ψ xs,iv ↑(AS xs),iv 0] [θ [] Δ Δ] λr3 o3=>
 dk [.t,.C,.x,.X] [.v r3] λc l=>
 br (Bp 1 c)
 (dk [.C,.q 1 1,.N,.D,.R,.X,.E] [.l l,.o o3] λn1 cs1=>
 br ((0+n1*1).ble cs1.length) (AK D (ψ 202) [Ψ (Bi n1 1 (Ap2 (n1*1) cs1))] [] λr4 o4=>
 UG r4 λxs2=>
 Fl o4<|
 Θ ((ε [Ψ xs2,bv Δ],[]))) Ξ)
 (Ξ)) Ξ):=by kernel_rfl
theorem AaH(t1:Rw)(n6:Nat)(c6:List AV)(t7:Int)(t23:Rw)(t24 t25:Int):D2 A D Av Tv .n 198 0 (AW Xl 0).fst (AW Xl 0).snd [Ψ t1,γ 0 0 n6 1,Ap8 (Value.int Ω t7),Ψ t23,iv t24,iv t25] [{ cells:=c6,st:=Δ,ex:=Δ }] =
 br (A.lt t25 t24)
 (unI t25 λi=>
 BG t23 i λcs=>
 dk [.J .u32,.N] [.l cs] λn=>
 br (A.lt t25 ↑(AS t1))
 (unI t25 λi1=>
 BG t1 i1 λcs1=>
 dk [.J .u32,.N] [.l cs1] λn1=>
 br (A.lt (A.conv Ω n) (A.add Ω t7 (A.conv Ω n1)))
 (br (BB (n6+1) 4) (br ((0+n6*1).ble c6.length) (AK D (ApW 198 0) [Ψ t1,γ 0 0 (n6+1) 1,Ap8 (Value.int Ω 1),Ψ t23,iv t24,iv (A.add δ t25 1)] [θ (Aqe 0 (Ap2 (0+n6*1) c6)++[Ap8 (Value.int η (A.conv η (A.sub Ω (A.add Ω (A.conv Ω n) 4294967296) (A.add Ω t7 (A.conv Ω n1)))))]) Δ Δ] λr o=>
 AF 1 [2] (AH.mk [(2,θ (Aqe 0 (Ap2 (0+n6*1) c6)++[Ap8 (Value.int η (A.conv η (A.sub Ω (A.add Ω (A.conv Ω n) 4294967296) (A.add Ω t7 (A.conv Ω n1)))))]) Δ Δ),(1,θ [Ap8 (Value.int η (A.conv η (A.sub Ω (A.add Ω (A.conv Ω n) 4294967296) (A.add Ω t7 (A.conv Ω n1)))))] Δ Δ)] 3 Ξ) [0] r o) Ξ) Ξ)
 (br (BB (n6+1) 4) (br ((0+n6*1).ble c6.length) (AK D (ApW 198 0) [Ψ t1,γ 0 0 (n6+1) 1,Ap8 (Value.int Ω 0),Ψ t23,iv t24,iv (A.add δ t25 1)] [θ (Aqe 0 (Ap2 (0+n6*1) c6)++[Ap8 (Value.int η (A.conv η (A.sub Ω (A.conv Ω n) (A.add Ω t7 (A.conv Ω n1)))))]) Δ Δ] λr o=>
 AF 1 [2] (AH.mk [(2,θ (Aqe 0 (Ap2 (0+n6*1) c6)++[Ap8 (Value.int η (A.conv η (A.sub Ω (A.conv Ω n) (A.add Ω t7 (A.conv Ω n1)))))]) Δ Δ),(1,θ [Ap8 (Value.int η (A.conv η (A.sub Ω (A.conv Ω n) (A.add Ω t7 (A.conv Ω n1)))))] Δ Δ)] 3 Ξ) [0] r o) Ξ) Ξ))
 (br (A.lt (A.conv Ω n) t7)
 (br (BB (n6+1) 4) (br ((0+n6*1).ble c6.length) (AK D (ApW 198 0) [Ψ t1,γ 0 0 (n6+1) 1,Ap8 (Value.int Ω 1),Ψ t23,iv t24,iv (A.add δ t25 1)] [θ (Aqe 0 (Ap2 (0+n6*1) c6)++[Ap8 (Value.int η (A.conv η (A.sub Ω (A.add Ω (A.conv Ω n) 4294967296) t7)))]) Δ Δ] λr o=>
 AF 1 [2] (AH.mk [(2,θ (Aqe 0 (Ap2 (0+n6*1) c6)++[Ap8 (Value.int η (A.conv η (A.sub Ω (A.add Ω (A.conv Ω n) 4294967296) t7)))]) Δ Δ),(1,θ [Ap8 (Value.int η (A.conv η (A.sub Ω (A.add Ω (A.conv Ω n) 4294967296) t7)))] Δ Δ)] 3 Ξ) [0] r o) Ξ) Ξ)
 (br (BB (n6+1) 4) (br ((0+n6*1).ble c6.length) (AK D (ApW 198 0) [Ψ t1,γ 0 0 (n6+1) 1,Ap8 (Value.int Ω 0),Ψ t23,iv t24,iv (A.add δ t25 1)] [θ (Aqe 0 (Ap2 (0+n6*1) c6)++[Ap8 (Value.int η (A.conv η (A.sub Ω (A.conv Ω n) t7)))]) Δ Δ] λr o=>
 AF 1 [2] (AH.mk [(2,θ (Aqe 0 (Ap2 (0+n6*1) c6)++[Ap8 (Value.int η (A.conv η (A.sub Ω (A.conv Ω n) t7)))]) Δ Δ),(1,θ [Ap8 (Value.int η (A.conv η (A.sub Ω (A.conv Ω n) t7)))] Δ Δ)] 3 Ξ) [0] r o) Ξ) Ξ)))
 (Θ ((ε [iv 0,γ 1 0 n6 1],[BO.del,ApX (θ c6 Δ Δ)]))):=by kernel_rfl
theorem Aou(x0 x1:Rw):Cm A D Av L8 .n 243 Qh [Ψ x0,Ψ x1] [] =
 unI (A.add δ ↑(AS x0) ↑(AS x1)) λi=>
 unI (A.add δ ↑(AS x0) ↑(AS x1)) λi1=>
 br (i.ble i1) (br (BB i1 4) (AK D (ApW 243 0) [Ψ x1,γ 0 0 i 1,Ψ x0,iv ↑(AS x0),iv 0] [θ (BJ [Ap8 (Value.int η 0)] (i*1)) Δ Δ] λr o=>
 dk [.t,.C,.x,.X] [.v r] λc l=>
 br (Bp 1 c)
 (dk [.C,.q 1 1,.N,.D,.R,.X,.E] [.l l,.o o] λn cs1=>
 br ((0+n*1).ble cs1.length) (AK D (ψ 202) [Ψ (Bi n 1 (Ap2 (n*1) cs1))] [] λr1 o1=>
 UG r1 λxs=>
 Fl o1<|
 Θ ((Ψ xs,[]))) Ξ)
 (Ξ)) Ξ) Ξ:=by kernel_rfl
theorem AaP(t1:Rw)(n5:Nat)(c5:List AV)(t18:Rw)(t19 t20:Int):D2 A D Av L8 .n 243 0 (AW Qh 0).fst (AW Qh 0).snd [Ψ t1,γ 0 0 n5 1,Ψ t18,iv t19,iv t20] [{ cells:=c5,st:=Δ,ex:=Δ }] =
 br (A.lt t20 t19)
 (unI t20 λi=>
 BG t18 i λcs=>
 dk [.J .u32,.N] [.l cs] λn=>
 Af D (ApW 243 1) [Ψ t1,γ 0 0 n5 1,iv t20,Ap8 (Value.int η n),Ap8 (Value.int Ω 0),Ψ t18,iv t19,iv t20,Ψ t1,iv ↑(AS t1),iv 0] [θ c5 Δ Δ] [.t,.C,.x,.X,.Y] λc l1 o=>
 br (Bp 3 c)
 (dk [.L,.C,.q 1 1,.I,.J .u64,.L,.I,.I,.N,.D,.R,.X,.E] [.l l1,.o o] λxs n1 n2 n3 xs1 n4 n6 cs2=>
 unI (A.add δ n2 ↑(AS xs)) λi1=>
 br (i1.blt n1) (br ((0+i1*1+1).ble cs2.length) (AK D (ApW 243 0) [Ψ xs,γ 0 0 n1 1,Ψ xs1,iv n4,iv (A.add δ n6 1)] [θ (Ay cs2 (0+i1*1) [Ap8 (Value.int η (A.conv η n3))]) Δ Δ] λr1 o1=>
 AF 1 [1] (AH.mk [(1,θ (Ay cs2 (0+i1*1) [Ap8 (Value.int η (A.conv η n3))]) Δ Δ)] 2 Ξ) [0] r1 o1) Ξ) Ξ)
 (Ξ))
 (Θ ((ε [iv 0,γ 1 0 n5 1],[BO.del,ApX (θ c5 Δ Δ)]))):=by kernel_rfl
theorem AaQ(t1:Rw)(n5:Nat)(c5:List AV)(t6 t7 t8:Int)(t18:Rw)(t19 t20:Int)(t25:Rw)(t26 t27:Int):D2 A D Av L8 .n 243 1 (AW Qh 1).fst (AW Qh 1).snd [Ψ t1,γ 0 0 n5 1,iv t6,Ap8 (Value.int η t7),Ap8 (Value.int Ω t8),Ψ t18,iv t19,iv t20,Ψ t25,iv t26,iv t27] [{ cells:=c5,st:=Δ,ex:=Δ }] =
 br (A.lt t27 t26)
 (unI t27 λi=>
 BG t25 i λcs=>
 dk [.J .u32,.N] [.l cs] λn=>
 unI (A.add δ t6 t27) λi1=>
 br (i1.blt n5) (EZ c5 (0+i1*1) 1 λcs1=>
 dk [.J .u32,.N] [.l cs1] λn1=>
 unI (A.add δ t6 t27) λi2=>
 br (i2.blt n5) (br ((0+i2*1+1).ble c5.length) (br (A.lt 32 0)
 (Ξ)
 (AK D (ApW 243 1) [Ψ t1,γ 0 0 n5 1,iv t6,Ap8 (Value.int η t7),Ap8 (Value.int Ω (A.shr Ω (A.add Ω (A.add Ω (A.mul Ω (A.conv Ω t7) (A.conv Ω n)) (A.conv Ω n1)) t8) 32)),Ψ t18,iv t19,iv t20,Ψ t25,iv t26,iv (A.add δ t27 1)] [θ (Ay c5 (0+i2*1) [Ap8 (Value.int η (A.conv η (A.add Ω (A.add Ω (A.mul Ω (A.conv Ω t7) (A.conv Ω n)) (A.conv Ω n1)) t8)))]) Δ Δ] λr o=>
 AF 1 [0] (AH.mk [(0,θ (Ay c5 (0+i2*1) [Ap8 (Value.int η (A.conv η (A.add Ω (A.add Ω (A.mul Ω (A.conv Ω t7) (A.conv Ω n)) (A.conv Ω n1)) t8)))]) Δ Δ)] 1 Ξ) [0] r o)) Ξ) Ξ) Ξ)
 (Θ ((ε [iv 2,Ψ t1,γ 1 0 n5 1,iv t6,Ap8 (Value.int Ω t8),Ψ t18,iv t19,iv t20],[BO.del,ApX (θ c5 Δ Δ)]))):=by kernel_rfl
theorem Aor(x0 x1:Rw):Cm A D Av Aig .n 212 AiR [Ψ x0,Ψ x1] [] =
 Af D (ψ 200) [Ψ x0] [] [.l,.E] λxs=>
 Af D (ψ 200) [Ψ x1] [] [.l,.E] λxs1=>
 br (A.lt (↑(AS xs)) 24)
 (Af D (ψ 243) [Ψ xs,Ψ xs1] [] [.l,.E] λxs2=>
 Θ ((Ψ xs2,[])))
 (br (A.lt (↑(AS xs1)) 24)
 (Af D (ψ 243) [Ψ xs,Ψ xs1] [] [.l,.E] λxs2=>
 Θ ((Ψ xs2,[])))
 (Af D (ψ 244) [Ψ xs,Ψ xs1] [] [.l,.E] λxs2=>
 Θ ((Ψ xs2,[])))):=by kernel_rfl
end
theorem UZ{B:Nat}{W w:World}(h:Below B W w):Below B W w.drew:=h.drew
theorem Gy{w w':World}(h:Below w.drew.heap.size w.drew w'):Below w.heap.size w w':=⟨h.os,h.tape,h.output,h.size,h.block⟩
theorem Ca{W w w':World}(h:Below W.heap.size W w)(hb:Below w.heap.size w w'):Below W.heap.size W w':=h.trans (hb.mono h.size)
theorem AT(w:World)(o:Obj):Below w.heap.size w (w.alloc o):=(Below.refl _ _).alloc (κ _) o
def Blk(w:World)(g:Nat)(t:TypeId)(cs:Array Value):Prop:=w.heap[g]? = Θ (.cells cs t (0,0))
section
variable {w w':World} {g:Nat} {t:TypeId} {cs:Array Value}
theorem Blk.lt(h:Blk w g t cs):g<w.heap.size:=by
 rcases Aqv g w.heap.size with hlt|hge
 .exact hlt
 .unfold Blk at h;rw[Array.getElem?_eq_none hge]at h;cases h
theorem Blk.cell(h:Blk w g t cs)(i:Nat):w.cell? ⟨g,i,Ξ⟩=cs[i]?:=cell_of_row w g i cs t (0,0) h
theorem Blk.frozen(h:Blk w g t cs)(i:Nat):w.frozen? ⟨g,i,Ξ⟩=false:=by
 unfold Blk at h;simp[World.frozen?,h]
theorem Blk.new(w:World)(t:TypeId)(cs:Array Value):Blk (w.alloc (.cells cs t)) w.heap.size t cs:=heap_alloc_new w _
theorem Blk.drew(h:Blk w g t cs):Blk w.drew g t cs:=h
theorem Blk.alloc(h:Blk w g t cs)(o:Obj):Blk (w.alloc o) g t cs:=(Below.heap_alloc w o g h.lt).trans h
theorem Blk.set_(h:Blk w g t cs)(i:Nat)(u:Value):Blk (w.setCell ⟨g,i,Ξ⟩ u) g t (cs.setIfInBounds i u):=by
 unfold Blk at h ⊢;simp[World.setCell,Array.getElem?_modify,h]
theorem Blk.far(h:Blk w g t cs){p:Addr}(hp:g≠p.block)(u:Value):Blk (w.setCell p u) g t cs:=(Below.heap_setCell w p u g hp).trans h
theorem Blk.below{B:Nat}(h:Blk w g t cs)(hb:Below B w w')(hg:g<B):Blk w' g t cs:=(hb.block g hg).trans h
theorem Blk.call(h:Blk w g t cs)(hb:Below w.heap.size w w'):Blk w' g t cs:=h.below hb h.lt
end
def Own(w:World)(B g:Nat)(t:TypeId)(v:Value)(cs:Array Value):Prop:=B<=g/\v=.pointer (Θ ⟨g,0,Ξ⟩)/\Blk w g t cs
section
variable {w w':World} {B g:Nat} {t:TypeId} {v:Value} {cs:Array Value}
theorem Own.call(h:Own w B g t v cs)(hb:Below w.heap.size w w'):Own w' B g t v cs:=⟨h.1,h.2.1,h.2.2.call hb⟩
end
def pick{α:Type}(d:Bool)(x y:α):α:=match d with|true=>x|false=>y
section
variable {w w':World} {base base' e size n:Nat} {v:Value} {xs:List Value}
theorem NQ{row:Option Nat}(hb:Below w.heap.size w w'):w.grownBy w' row:=⟨hb.os,hb.tape,hb.output,hb.size,λk hk _=>hb.block k hk⟩
theorem T6(h:w.ownsRow base e size v n xs)(hb:Below w.heap.size w w'):w'.ownsRow base e size v n xs:=h.kept (row:=Ξ) (NQ hb) (by cases hv:v.ownBlock<;>simp)
theorem Gg(h:w.ownsRow base e size v n xs):∃ A c,v=.slice A n c:=by
 rcases h.2 with⟨h1,h0⟩|⟨g,cap,cur,h1,_⟩
 .exact⟨Ξ,0,by rw[h1,h0]⟩
 .exact⟨_,_,h1⟩
end
