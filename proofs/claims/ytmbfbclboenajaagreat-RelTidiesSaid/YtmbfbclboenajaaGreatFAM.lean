/- Seats of D: contracts fr -/
import Derived.Test.YtmbfbclboenajaaGreatFAL
import Derived.Test.YtmbfbclboenajaaGreatChecked
import Derived.WalkKit
import Derived.WalkSpells
import Derived.WalkLawsBesides
import Derived.Deep.Draws
import Derived.Lib.Hide
set_option linter.all false
open Bool renaming true->Δ,and_eq_true->Aq6
open List renaming all_eq_true->Aq3,drop->AqT,flatten_cons->Ar5,getElem?_cons_succ->ArD,headD_cons->Ase,length_cons->AqR,length_eq_zero_iff->At3,mem_cons->AqU,tail_cons->Asw,take->ε,take_of_length_le->ArS,take_succ_cons->Asz
open Nat renaming add_mul->Art,add_zero->ArG,beq->Aru,div_add_mod->AtA,le_of_eq->AuY,le_refl->π,lt_or_ge->ArA,mod_eq_of_lt->ArT,mod_lt->ArF,mul_add->ArR,mul_assoc->Ark,mul_comm->Arz,mul_le_mul_left->Asu,mul_le_mul_right->Ard,mul_zero->Atf,one_mul->Ar9,pow_le_pow_right->Ar7,pow_succ->ArP,strongRecOn->Asp,zero_le->ArC
open Option renaming none->Ξ,some->Θ
namespace Go.Proofs.YtmbfbclboenajaaGreat
noncomputable section
open ABlk renaming mk->θ
open AV renaming ls->Ψ,sl->χ,tup->γ,v->Aq0
open BO renaming set->AqV
open IntKind renaming i64->δ,u32->ζ,u64->Ω
open Key renaming fn->ω,lp->ι
open Tryz renaming prog->Aq1
open Go.RowKit
def Aoi:List AV->Option AV
 |[.v (.string s)]=>if s.size<=9223372036854775807 then Θ (bv (Anz s.data.toList)) else Ξ
 |_=>Ξ
def M8(res:List AV->Option AV):DF:=λargs bs=>match bs with
 |[]=>(res args).map λr=>(r,[])
 |_=>Ξ
def NE(P:Program)(ents:Nat):List (Nat × MFn)->Prop
 |[]=>True
 |p::r=>(∃ hs a b,p.2=PN P ents hs a b p.1)/\AcX P p.1=Δ/\NE P ents r
theorem P7{P:Program}{ents:Nat}:∀{L:List (Nat × MFn)},NE P ents L->∀ f mf,(f,mf)∈L->FnOk P ents f mf
 |p::r,⟨⟨hs,a,b,h1⟩,h2,h3⟩,f,mf,hm=>by
  rcases AqU.1 hm with rfl|hm
  .have h1:mf=_:=h1
   rw[h1];exact Ae0 h2
  .exact P7 h3 f mf hm
theorem P6{P:Program}{ents:Nat}:∀{L L':List (Nat × MFn)},NE P ents L->NE P ents L'->NE P ents (L++L')
 |[],_,_,h=>h
 |_::_,_,⟨h1,h2,h3⟩,h=>⟨h1,h2,P6 h3 h⟩
def AbC(P:Program)(ents n:Nat):Bool:=Nat.blt ents (2 ^ n)&&(List.range n).all λg=>!ents.testBit g||Gd P g
theorem AbD{P:Program}{ents n:Nat}(h:AbC P ents n=Δ):I6 P ents:=by
 unfold AbC at h;rw[Aq6]at h;intro g hg;have hn:ents<2 ^ n:=Nat.blt_eq.mp h.1
 by_cases hgn:g<n
 .have:=Aq3.1 h.2 g (List.mem_range.2 hgn)
  rw[hg]at this;simpa using this
 .have:ents<2 ^ g:=Nat.lt_of_lt_of_le hn (Ar7 (by decide) (by omega))
  rw[Nat.testBit_lt_two_pow this]at hg
  cases hg
theorem Oh{α:Type}{f:Nat}:∀{A B:List (Nat × α)},Cy f (A++B)=match Cy f A with
  |some a=>Θ a
  |none=>Cy f B
 |[],_=>rfl
 |(m,b)::r,B=>by
  have ih:=Oh (f:=f) (A:=r) (B:=B)
  show (match Aru f m with
   |true=>Θ b
   |false=>Cy f (r++B))=match (match Aru f m with
   |true=>Θ b
   |false=>Cy f r) with
   |some a=>Θ a
   |none=>Cy f B
  cases Aru f m with
  |true=>rfl
  |false=>exact ih
def AaP(A B:List (Nat × MFn)):Bool:=B.all λp=>(Cy p.1 A).isNone
theorem V8{A B:List (Nat × MFn)}(h:AaP A B=Δ){f:Nat}{mf:MFn}(hf:Cy f B=Θ mf):Cy f (A++B)=Θ mf:=by
 have:=Aq3.1 h _ (Gf hf);have h0:Cy f A=Ξ:=Option.isNone_iff_eq_none.1 this;rw[Oh,h0];exact hf
theorem Y6{A B:List (Nat × MFn)}{f:Nat}{mf:MFn}(hf:Cy f A=Θ mf):Cy f (A++B)=Θ mf:=by
 rw[Oh,hf]
def Hb(P:Program):List (Nat × DF)->Prop
 |[]=>True
 |p::r=>BS (B5 P p.1) p.2/\Hb P r
theorem Qs{P:Program}:∀{L:List (Nat × DF)},Hb P L->∀ f d,(f,d)∈L->BS (B5 P f) d
 |p::r,⟨h1,h2⟩,f,d,hm=>by
  rcases AqU.1 hm with rfl|hm
  .exact h1
  .exact Qs h2 f d hm
def Ha(P:Program)(ents:Nat):List (List (Nat × MFn))->Prop
 |[]=>True
 |T::r=>NE P ents T/\Ha P ents r
theorem Th{P:Program}{ents:Nat}:∀{L:List (List (Nat × MFn))},Ha P ents L->NE P ents L.flatten
 |[],_=>trivial
 |T::r,⟨h1,h2⟩=>by
  rw[Ar5];exact P6 h1 (Th h2)
theorem EZ{P:Program}{ents:Nat}{own:List (Nat × Nat)}{L:List (List (Nat × MFn))}{X:List (Nat × DF)}(m:P.follows .mixedOrders=Δ)(e:I6 P ents)(a:Ha P ents L)(g:Hb P X):SeatOk P ents (FO own L.flatten X) where
 mixed:=m
 ent:=e
 fns f mf h:=P7 (Th a) f mf (Gf h)
 ext f d h:=Qs g f d (Gf h)
def EM:List (List (Nat × MFn))->Bool
 |[]=>Δ
 |T::r=>AaP T r.flatten&&EM r
theorem Xx{f:Nat}{mf:MFn}:∀{L:List (List (Nat × MFn))} {i:Nat} {T:List (Nat × MFn)},EM L=Δ->L[i]? = Θ T->Cy f T=Θ mf->Cy f L.flatten=Θ mf
 |A::r,0,T,_,hi,h=>by
  injection hi with hi
  subst hi;rw[Ar5];exact Y6 h
 |A::r,i+1,T,ha,hi,h=>by
  unfold EM at ha;rw[Aq6]at ha;rw[Ar5];exact V8 ha.1 (Xx ha.2 hi h)
theorem AcI:∀{L:List (List (Nat × MFn))} {i:Nat} {T:List (Nat × MFn)},L[i]? = Θ T->∀ p∈T,p∈L.flatten
 |A::r,0,T,hi,p,hp=>by
  injection hi with hi
  subst hi;rw[Ar5];exact List.mem_append_left _ hp
 |A::r,i+1,T,hi,p,hp=>by
  rw[Ar5];exact List.mem_append_right _ (AcI (L:=r) hi p hp)
theorem Bg{own:List (Nat × Nat)}{L:List (List (Nat × MFn))}{X:List (Nat × DF)}(h:(EM L&&Je L.flatten X)=Δ){i:Nat}{T:List (Nat × MFn)}(hi:L[i]? = Θ T):Knows own T (AY Af (FO own L.flatten X)):=by
 rw[Aq6]at h;refine Aco (λf mf hf=>Xx h.1 hi hf) (Aq3.2 λp hp=>Aq3.1 h.2 p (AcI hi p hp))
def BP:Nat:=356811923176489970264571492362373784095686652
abbrev BI(h:I7)(n:Nat):MFn:=PN Aq1 BP h false false n
def mBg:Nat->Nat->List Bool
 | 0,_=>[]
 | k+1,n=>(match Aru n 0 with
  | true=>[]
  | false=>Aru (Nat.mod n 2) 1::mBg k (Nat.div n 2))
def mB(n:Nat):List Bool:=mBg 400 n
abbrev Ay:List Sh:=[.bool,.ls]
abbrev Bl:List Sh:=[.ls,.bool,.ls]
abbrev Br:List Sh:=[.int .i64,.bool,.ls]
abbrev B1:List Sh:=[.ls,.bool,.ls,.bool]
abbrev U0:List Sh:=[.ls,.bool]
abbrev AgA:List Sh:=[.ls,.ls,.int .i64]
def Al:List (Nat × Nat):=[(138,0),(134,0),(135,0),(60,0),(101,0),(128,0),(129,0),(142,0),(145,0),(64,0),(104,0)]
theorem Sn:Tryz.prog.follows .mixedOrders=Δ:=by kernel_rfl
set_option maxRecDepth 100000 in
theorem ER:I6 Aq1 BP:=AbD (n:=600) (by kernel_rfl)
def Ad:List Nat->Nat
 |[]=>0
 |x::r=>x+4294967296*Ad r
def Limbs(l:List Nat):Prop:=∀ x∈l,x<4294967296
def Ai(n:Nat):List Nat:=if n=0 then [] else(n % 4294967296)::Ai (n / 4294967296)
termination_by n
decreasing_by omega
theorem Cj:Ai 0=[]:=by rw[Ai];rfl
theorem Dh{n:Nat}(h:n≠0):Ai n=(n % 4294967296)::Ai (n / 4294967296):=by rw[Ai,if_neg h]
theorem Am:∀(n:Nat),Limbs (Ai n):=by
 intro n
 induction n using Asp with
 |ind n ih=>
  by_cases h:n=0
  .subst h;rw[Cj];intro x hx;cases hx
  .rw[Dh h]
   intro x hx;rcases AqU.1 hx with rfl|hx
   .exact ArF _ (by omega)
   .exact ih (n / 4294967296) (by omega) x hx
theorem Az:∀(n:Nat),Ad (Ai n)=n:=by
 intro n
 induction n using Asp with
 |ind n ih=>
  by_cases h:n=0
  .subst h;rw[Cj];rfl
  .rw[Dh h,Ad,ih (n / 4294967296) (by omega)]
   omega
theorem Uu{n:Nat}:Ai n=[] ↔ n=0:=by
 constructor
 .intro h
  have:=Az n;rw[h]at this;exact this.symm
 .rintro rfl;exact Cj
def CI:List Nat->Nat
 |[]=>0
 |x::r=>if CI r=0/\x=0 then 0 else CI r+1
theorem Ch:∀ l:List Nat,CI l<=l.length
 |[]=>π _
 |x::r=>by
  have:=Ch r;unfold CI;rw[AqR];split<;>omega
theorem Limbs.cons{x:Nat}{r:List Nat}(h:Limbs (x::r)):x<4294967296/\Limbs r:=⟨h x (List.mem_cons_self ..),λy hy=>h y (List.mem_cons_of_mem _ hy)⟩
theorem BH:Limbs []:=λ_ h=>by cases h
theorem Bf{x:Nat}{r:List Nat}(h:x<4294967296)(h2:Limbs r):Limbs (x::r):=λy hy=>by
 rcases AqU.1 hy with rfl|hy
 .exact h
 .exact h2 y hy
theorem CN{a b:List Nat}(h:Limbs a)(h2:Limbs b):Limbs (a++b):=λx hx=>by
 rcases List.mem_append.1 hx with hx|hx
 .exact h x hx
 .exact h2 x hx
theorem Limbs.take{l:List Nat}(h:Limbs l)(n:Nat):Limbs (l.take n):=λx hx=>h x (List.mem_of_mem_take hx)
theorem Limbs.drop{l:List Nat}(h:Limbs l)(n:Nat):Limbs (l.drop n):=λx hx=>h x (List.mem_of_mem_drop hx)
theorem Limbs.get{l:List Nat}(h:Limbs l){i:Nat}(hi:i<l.length):l[i]<4294967296:=h _ (List.getElem_mem hi)
theorem Ad9:∀{l:List Nat},CI l=0->Ad l=0
 |[],_=>rfl
 |x::r,h=>by
  unfold CI at h;split at h
  .rename_i h2
   rw[Ad,Ad9 h2.1,h2.2]
  .omega
theorem Aee:∀{l:List Nat},Ad l=0->CI l=0
 |[],_=>rfl
 |x::r,h=>by
  rw[Ad]at h;unfold CI;rw[if_pos ⟨Aee (by omega),by omega⟩]
theorem Iu:∀{l:List Nat},Limbs l->l.take (CI l)=Ai (Ad l)
 |[],_=>by rw[Ad,Cj];rfl
 |x::r,h=>by
  obtain⟨h1,h2⟩:=h.cons;have ih:=Iu h2;unfold CI;split
  .rename_i h3
   rw[List.take_zero,Ad,Ad9 h3.1,h3.2,Cj]
  .rename_i h3
   have h0:Ad (x::r)≠0:=by
    intro h0;rw[Ad]at h0;exact h3 ⟨Aee (by omega),by omega⟩
   rw[Asz,Dh h0,Ad];have e1:(x+4294967296*Ad r) % 4294967296=x:=by omega
   have e2:(x+4294967296*Ad r) / 4294967296=Ad r:=by omega
   rw[e1,e2,ih]
theorem BD:∀(a b:List Nat),Ad (a++b)=Ad a+4294967296 ^ a.length*Ad b
 |[],b=>by simp[Ad]
 |x::r,b=>by
  rw[List.cons_append,Ad,BD r b,Ad,AqR,ArP,ArR,←Ark,Arz 4294967296 (4294967296 ^ r.length)];omega
theorem Bt:∀{l:List Nat},Limbs l->Ad l<4294967296 ^ l.length
 |[],_=>by simp[Ad]
 |x::r,h=>by
  obtain⟨h1,h2⟩:=h.cons;have:=Bt h2;rw[Ad,AqR,ArP];omega
theorem CO(l:List Nat)(h:Limbs l):(Ai (Ad l)).length=CI l:=by
 rw[←Iu h,List.length_take];have:=Ch l;omega
theorem Bc{n k:Nat}(h:n<4294967296 ^ k):(Ai n).length<=k:=by
 induction k generalizing n with
 |zero=>
  have:n=0:=by simpa using h
  subst this;rw[Cj];exact π _
 |succ k ih=>
  by_cases h0:n=0
  .subst h0;rw[Cj];exact ArC _
  .rw[Dh h0,AqR]
   have:n / 4294967296<4294967296 ^ k:=by
    rw[Nat.div_lt_iff_lt_mul (by omega)];rw[ArP]at h;exact h
   have:=ih this;omega
theorem Ib{n k:Nat}(h:4294967296 ^ k<=n):k<(Ai n).length:=by
 by_cases h2:k<(Ai n).length
 .exact h2
 .have h3:=Bt (Am n)
  rw[Az]at h3;have h4:4294967296 ^ (Ai n).length<=4294967296 ^ k:=Ar7 (by omega) (by omega);omega
theorem Ra:∀{l:List Nat},0<CI l->∃ x,l[CI l-1]? = Θ x/\x≠0
 |[],h=>by simp[CI]at h
 |y::r,h=>by
  by_cases h1:CI r=0
  .have h2:y≠0:=by
    intro h2;unfold CI at h;rw[if_pos ⟨h1,h2⟩]at h;omega
   refine⟨y,?_,h2⟩;unfold CI;rw[if_neg (λe=>h2 e.2),h1];rfl
  .obtain⟨x,h3,h4⟩:=Ra (l:=r) (by omega)
   refine⟨x,?_,h4⟩;unfold CI;rw[if_neg (λe=>h1 e.1)];have:CI r+1-1=(CI r-1)+1:=by omega
   rw[this,ArD,h3]
theorem NB:∀{l:List Nat} {i x:Nat},l[i]? = Θ x->x≠0->i<CI l
 |[],i,x,h,_=>by simp at h
 |y::r,0,x,h,h2=>by
  have h:y=x:=by simpa using h
  unfold CI;rw[if_neg (λe=>h2 (by rw[←h];exact e.2))];omega
 |y::r,i+1,x,h,h2=>by
  rw[ArD]at h;have:=NB h h2;unfold CI;rw[if_neg (λe=>by omega)];omega
theorem Mo{l:List Nat}{n:Nat}(h:CI l<=n+1)(h2:l[n]? = Θ 0):CI l<=n:=by
 by_cases h3:CI l=n+1
 .obtain⟨x,h4,h5⟩:=Ra (l:=l) (by omega)
  rw[h3,Nat.add_sub_cancel,h2]at h4;injection h4 with h4
  exact absurd h4.symm h5
 .omega
def eL(n:Nat):List AV:=[.v (.int .u32 (n:Int))]
def eN(l:List Nat):AV:=.ls (l.map eL)
theorem AD(x:Nat):(eL x).length=1:=rfl
def Ls:Nat->List Nat->List Nat->List Nat
 |c,[],_=>[c]
 |c,x::a,b=>((x+b.headD 0+c) % 4294967296)::Ls ((x+b.headD 0+c) / 4294967296) a b.tail
theorem D5{b:List Nat}(h:Limbs b):b.headD 0<4294967296:=by
 cases b with
 |nil=>simp
 |cons y b=>exact h.cons.1
theorem Limbs.tail{b:List Nat}(h:Limbs b):Limbs b.tail:=by
 cases b with
 |nil=>exact h
 |cons y b=>exact h.cons.2
theorem G8(b:List Nat):Ad b=b.headD 0+4294967296*Ad b.tail:=by
 cases b<;>rfl
theorem Ms:∀(a b:List Nat) (c:Nat),b.length<=a.length->Ad (Ls c a b)=c+Ad a+Ad b
 |[],b,c,h=>by
  obtain rfl:b=[]:=At3.1 (by simpa using h);simp[Ls,Ad]
 |x::a,b,c,h=>by
  have ih:=Ms a b.tail ((x+b.headD 0+c) / 4294967296) (by simp at h ⊢;omega);rw[Ls,Ad,ih,Ad,G8 b];omega
theorem Jr:∀(a b:List Nat) (c:Nat),Limbs a->Limbs b->c<=1->Limbs (Ls c a b)
 |[],b,c,_,_,hc=>Bf (by omega) BH
 |x::a,b,c,ha,hb,hc=>by
  have h1:=D5 hb;have h2:=ha.cons;exact Bf (ArF _ (by omega)) (Jr a b.tail _ h2.2 hb.tail (by omega))
def M4:Nat->Nat->List Nat->List Nat->List Nat
 |0,_,_,_=>[]
 |k+1,c,a,b=>((a.headD 0+b.headD 0+c) % 4294967296)::M4 k ((a.headD 0+b.headD 0+c) / 4294967296) a.tail b.tail
theorem Re:∀(k c:Nat) (a b:List Nat),Ad (M4 k c a b)=(c+Ad a+Ad b) % 4294967296 ^ k
 |0,c,a,b=>by simp[M4,Ad,Nat.mod_one]
 |k+1,c,a,b=>by
  have ih:=Re k ((a.headD 0+b.headD 0+c) / 4294967296) a.tail b.tail;rw[M4,Ad,ih,G8 a,G8 b,ArP,Arz (4294967296 ^ k) 4294967296,Nat.mod_mul];have e1:(c+(a.headD 0+4294967296*Ad a.tail)+(b.headD 0+4294967296*Ad b.tail)) % 4294967296=(a.headD 0+b.headD 0+c) % 4294967296:=by omega
  have e2:(c+(a.headD 0+4294967296*Ad a.tail)+(b.headD 0+4294967296*Ad b.tail)) / 4294967296=(a.headD 0+b.headD 0+c) / 4294967296+Ad a.tail+Ad b.tail:=by omega
  rw[e1,e2]
theorem NG:∀(k c:Nat) (a b:List Nat),Limbs (M4 k c a b)
 |0,_,_,_=>BH
 |k+1,c,a,b=>Bf (ArF _ (by omega)) (NG k _ _ _)
def G4:Nat->List Nat->List Nat->List Nat
 |_,[],_=>[]
 |c,x::a,b=>(if x<b.headD 0+c then x+4294967296-(b.headD 0+c) else x-(b.headD 0+c))::G4 (if x<b.headD 0+c then 1 else 0) a b.tail
def SP:Nat->List Nat->List Nat->Nat
 |c,[],_=>c
 |c,x::a,b=>SP (if x<b.headD 0+c then 1 else 0) a b.tail
theorem Yr:∀(a b:List Nat) (c:Nat),c<=1->SP c a b<=1
 |[],_,_,h=>h
 |x::a,b,c,h=>Yr a b.tail _ (by split<;>omega)
theorem Rh:∀(a b:List Nat) (c:Nat),Limbs a->Limbs b->c<=1->b.length<=a.length->Ad (G4 c a b)+Ad b+c=Ad a+4294967296 ^ a.length*SP c a b
 |[],b,c,_,_,_,h=>by
  obtain rfl:b=[]:=At3.1 (by simpa using h);simp[G4,SP,Ad]
 |x::a,b,c,ha,hb,hc,h=>by
  have h1:=D5 hb;have h2:=ha.cons;rw[G4,SP,Ad,Ad,G8 b,AqR,ArP];have ih:=Rh a b.tail (if x<b.headD 0+c then 1 else 0) h2.2 hb.tail (by split<;>omega) (by simp at h ⊢;omega);rw[Arz (4294967296 ^ a.length) 4294967296,Ark];revert ih;generalize 4294967296 ^ a.length*SP (if x<b.headD 0+c then 1 else 0) a b.tail=z;generalize Ad (G4 (if x<b.headD 0+c then 1 else 0) a b.tail)=s;intro ih;split at ih
  .rename_i h3
   rw[if_pos h3];omega
  .rename_i h3
   rw[if_neg h3];omega
theorem G5:∀(a b:List Nat) (c:Nat),Limbs a->Limbs b->c<=1->Limbs (G4 c a b)
 |[],_,_,_,_,_=>BH
 |x::a,b,c,ha,hb,hc=>by
  have h1:=D5 hb;have h2:=ha.cons;refine Bf ?_ (G5 a b.tail _ h2.2 hb.tail (by split<;>omega));split<;>omega
theorem Lb:∀(a b:List Nat) (c:Nat),(G4 c a b).length=a.length
 |[],_,_=>rfl
 |x::a,b,c=>by rw[G4,AqR,Lb a,AqR]
theorem Vh{a b:List Nat}(ha:Limbs a)(hb:Limbs b)(h:b.length<=a.length)(hv:Ad b<=Ad a):Ad (G4 0 a b)=Ad a-Ad b:=by
 have h1:=Rh a b 0 ha hb (by omega) h;have h2:=Bt (G5 a b 0 ha hb (by omega));rw[Lb]at h2;have h3:=Yr a b 0 (by omega);have h4:=Bt ha;rcases ArA (SP 0 a b) 1 with h5|h5
 .rw[show SP 0 a b=0 by omega]at h1
  omega
 .rw[show SP 0 a b=1 by omega]at h1
  omega
def OT:Nat->Nat->List Nat->List Nat->List Nat
 |_,c,[],o=>c::o.tail
 |x,c,y::b,o=>((x*y+o.headD 0+c) % 4294967296)::OT x ((x*y+o.headD 0+c) / 4294967296) b o.tail
theorem Rg:∀(x:Nat) (b o:List Nat) (c:Nat),(o.drop b.length).headD 0=0->Ad (OT x c b o)=x*Ad b+Ad o+c
 |x,[],o,c,h=>by
  have h:o.headD 0=0:=h;rw[OT,Ad,Ad,G8 o,h];omega
 |x,y::b,o,c,h=>by
  have h2:(o.tail.drop b.length).headD 0=0:=by
   rw[AqR]at h
   cases o with
   |nil=>simp
   |cons z o=>exact h
  have ih:=Rg x b o.tail ((x*y+o.headD 0+c) / 4294967296) h2;have e:x*(y+4294967296*Ad b)=x*y+4294967296*(x*Ad b):=by
   rw[ArR,←Ark,Arz x 4294967296,Ark]
  rw[OT,Ad,ih,Ad,G8 o,e];omega
theorem JL{x y:Nat}(hx:x<4294967296)(hy:y<4294967296):x*y<=18446744065119617025:=by
 have:=Nat.mul_le_mul (show x<=4294967295 by omega) (show y<=4294967295 by omega);omega
theorem OU:∀(x:Nat) (b o:List Nat) (c:Nat),x<4294967296->Limbs b->Limbs o->c<4294967296->Limbs (OT x c b o)
 |x,[],o,c,_,_,ho,hc=>Bf hc ho.tail
 |x,y::b,o,c,hx,hb,ho,hc=>by
  have h1:=D5 ho;have h2:=hb.cons;have h3:=JL hx h2.1;exact Bf (ArF _ (by omega)) (OU x b o.tail _ hx h2.2 ho.tail (by omega))
def DQ:Nat->Nat->List Nat->List Nat
 |_,c,[]=>[c]
 |m,c,x::a=>((x*m+c) % 4294967296)::DQ m ((x*m+c) / 4294967296) a
theorem Ix:∀(m:Nat) (a:List Nat) (c:Nat),Ad (DQ m c a)=Ad a*m+c
 |m,[],c=>by simp[DQ,Ad]
 |m,x::a,c=>by
  rw[DQ,Ad,Ix m a,Ad,Art,Ark];omega
theorem G3:∀(m:Nat) (a:List Nat) (c:Nat),m<4294967296->Limbs a->c<4294967296->Limbs (DQ m c a)
 |m,[],c,_,_,hc=>Bf hc BH
 |m,x::a,c,hm,ha,hc=>by
  have h2:=ha.cons;have h3:=JL h2.1 hm;exact Bf (ArF _ (by omega)) (G3 m a _ hm h2.2 (by omega))
def CT(a b:Nat):Int:=if a<b then -1 else if b<a then 1 else 0
theorem N6{a b:List Nat}(ha:Limbs a)(hb:Limbs b)(h:a.length=b.length)(x y:Nat):CT (Ad (a++[x])) (Ad (b++[y]))=if x<y then -1 else if y<x then 1 else CT (Ad a) (Ad b):=by
 rw[BD,BD,←h];have h1:=Bt ha;have h2:=Bt hb;rw[←h]at h2;simp only[Ad,Atf,ArG];revert h1 h2;generalize 4294967296 ^ a.length=k;generalize Ad a=p;generalize Ad b=q;intro h1 h2
 by_cases h3:x<y
 .rw[if_pos h3]
  have:k*(x+1)<=k*y:=Asu _ h3;rw[ArR]at this;unfold CT;rw[if_pos (by omega)]
 .rw[if_neg h3]
  by_cases h4:y<x
  .rw[if_pos h4]
   have:k*(y+1)<=k*x:=Asu _ h4;rw[ArR]at this;unfold CT;rw[if_neg (by omega),if_pos (by omega)]
  .rw[if_neg h4]
   obtain rfl:x=y:=by omega
   unfold CT
   by_cases h5:p<q
   .rw[if_pos (by omega),if_pos h5]
   .rw[if_neg (by omega),if_neg h5]
    by_cases h6:q<p
    .rw[if_pos (by omega),if_pos h6]
    .rw[if_neg (by omega),if_neg h6]
theorem AbQ{P V2 vl U3 ul g:Nat}(hvl:vl<P)(hV2:4294967296<=V2)(hg:g<=4294967296)(h:g*V2<=U3):g*(V2*P+vl)<(U3*P+ul)+(V2*P+vl):=by
 have h1:g*V2*P<=U3*P:=Ard _ h;have h2:g*vl<=4294967296*vl:=Ard _ hg;have h3:4294967296*P<=V2*P:=Ard _ hV2;rw[ArR,←Ark];omega
theorem AbR{P V2 vl U3 ul g:Nat}(hul:ul<P)(h:U3<g*V2):U3*P+ul<g*(V2*P+vl):=by
 have h1:(U3+1)*P<=g*V2*P:=Ard _ h;rw[Art,Ar9]at h1;rw[ArR,←Ark];omega
theorem Ae3{Q f dl T ul:Nat}(hul:ul<Q)(hf:0<f):T*Q+ul<(T / f+1)*(f*Q+dl):=by
 have h1:T+1<=(T / f+1)*f:=by
  have:=AtA T f;have:=ArF T hf;rw[Art,Ar9,Arz];omega
 have h2:(T+1)*Q<=(T / f+1)*f*Q:=Ard _ h1;rw[Art,Ar9]at h2;rw[ArR,←Ark];omega
def DC:Nat->Nat->Nat->List Nat->List Nat->List Nat
 |_,_,_,_,[]=>[]
 |m,c,w,u,x::d=>(if u.headD 0<(m*x+c) % 4294967296+w then u.headD 0+4294967296-((m*x+c) % 4294967296+w) else u.headD 0-((m*x+c) % 4294967296+w))::DC m ((m*x+c) / 4294967296) (if u.headD 0<(m*x+c) % 4294967296+w then 1 else 0) u.tail d
def DS:Nat->Nat->List Nat->Nat
 |_,c,[]=>c
 |m,c,x::d=>DS m ((m*x+c) / 4294967296) d
def Db:Nat->Nat->Nat->List Nat->List Nat->Nat
 |_,_,w,_,[]=>w
 |m,c,w,u,x::d=>Db m ((m*x+c) / 4294967296) (if u.headD 0<(m*x+c) % 4294967296+w then 1 else 0) u.tail d
theorem F9:∀(m c w:Nat) (u d:List Nat),(DC m c w u d).length=d.length
 |_,_,_,_,[]=>rfl
 |m,c,w,u,x::d=>by rw[DC,AqR,F9,AqR]
theorem NO:∀(m c w:Nat) (u d:List Nat),w<=1->Db m c w u d<=1
 |_,_,_,_,[],h=>h
 |m,c,w,u,x::d,h=>NO m _ _ _ d (by split<;>omega)
theorem NM:∀(m c:Nat) (d:List Nat),m<4294967296->Limbs d->c<4294967296->DS m c d<4294967296
 |_,_,[],_,_,h=>h
 |m,c,x::d,hm,hd,hc=>by
  have h:=hd.cons;have:=JL hm h.1;exact NM m _ d hm h.2 (by omega)
theorem Hz:∀(m c w:Nat) (u d:List Nat),Limbs u->w<=1->Limbs (DC m c w u d)
 |_,_,_,_,[],_,_=>BH
 |m,c,w,u,x::d,hu,hw=>by
  have h1:=D5 hu;have h2:=ArF (m*x+c) (show 0<4294967296 by omega);exact Bf (by split<;>omega) (Hz m _ _ _ d hu.tail (by split<;>omega))
theorem PI:∀(m c w:Nat) (u d:List Nat),Limbs u->w<=1->d.length<=u.length->
  Ad (DC m c w u d)+m*Ad d+c+w=Ad (u.take d.length)+4294967296 ^ d.length*(DS m c d+Db m c w u d)
 |m,c,w,u,[],_,_,_=>by simp[DC,DS,Db,Ad]
 |m,c,w,u,x::d,hu,hw,hl=>by
  cases u with
  |nil=>simp at hl
  |cons y u=>
   have h1:=hu.cons;have h2:=ArF (m*x+c) (show 0<4294967296 by omega);have ih:=PI m ((m*x+c) / 4294967296) (if y<(m*x+c) % 4294967296+w then 1 else 0) u d h1.2 (by split<;>omega) (by simpa using hl);rw[DC,DS,Db,Ad,AqR,Asz,Ad,Ad,ArP,Arz (4294967296 ^ d.length) 4294967296,Ark,Ase,Asw];have e:m*(x+4294967296*Ad d)=m*x+4294967296*(m*Ad d):=by
    rw[ArR,←Ark,Arz m 4294967296,Ark]
   rw[e];revert ih;generalize 4294967296 ^ d.length*(DS m ((m*x+c) / 4294967296) d+Db m ((m*x+c) / 4294967296) (if y<(m*x+c) % 4294967296+w then 1 else 0) u d)=z;generalize Ad (DC m ((m*x+c) / 4294967296) (if y<(m*x+c) % 4294967296+w then 1 else 0) u d)=s;generalize m*x=mx at *;generalize m*Ad d=md;intro ih;split
   .rename_i h3
    rw[if_pos h3]at ih;omega
   .rename_i h3
    rw[if_neg h3]at ih;omega
def Dc:Nat->List Nat->List Nat->List Nat
 |_,_,[]=>[]
 |c,u,x::d=>((u.headD 0+x+c) % 4294967296)::Dc ((u.headD 0+x+c) / 4294967296) u.tail d
def CU:Nat->List Nat->List Nat->Nat
 |c,_,[]=>c
 |c,u,x::d=>CU ((u.headD 0+x+c) / 4294967296) u.tail d
theorem Ek:∀(c:Nat) (u d:List Nat),(Dc c u d).length=d.length
 |_,_,[]=>rfl
 |c,u,x::d=>by rw[Dc,AqR,Ek,AqR]
theorem HD:∀(c:Nat) (u d:List Nat),Limbs (Dc c u d)
 |_,_,[]=>BH
 |c,u,x::d=>Bf (ArF _ (by omega)) (HD _ _ d)
theorem NQ:∀(c:Nat) (u d:List Nat),Limbs u->Limbs d->c<=1->CU c u d<=1
 |_,_,[],_,_,h=>h
 |c,u,x::d,hu,hd,hc=>by
  have h1:=D5 hu;have h2:=hd.cons;exact NQ _ u.tail d hu.tail h2.2 (by omega)
theorem PJ:∀(c:Nat) (u d:List Nat),d.length<=u.length->Ad (Dc c u d)+4294967296 ^ d.length*CU c u d=c+Ad (u.take d.length)+Ad d
 |c,u,[],_=>by simp[Dc,CU,Ad]
 |c,u,x::d,hl=>by
  cases u with
  |nil=>simp at hl
  |cons y u=>
   have ih:=PJ ((y+x+c) / 4294967296) u d (by simpa using hl);rw[Dc,CU,Ad,AqR,Asz,Ad,Ad,ArP,Arz (4294967296 ^ d.length) 4294967296,Ark,Ase,Asw];revert ih;generalize 4294967296 ^ d.length*CU ((y+x+c) / 4294967296) u d=z;generalize Ad (Dc ((y+x+c) / 4294967296) u d)=s;intro ih;omega
theorem YQ{p s mv u ul t B:Nat}(ht:t<=B)(hul:ul<B)(h1:s+mv=u+p*t):s+p*((ul+B-t) % B)+mv=u+p*ul+(if ul<t then p*B else 0):=by
 by_cases h:ul<t
 .rw[if_pos h,ArT (by omega)]
  have e:p*(ul+B-t)+p*t=p*ul+p*B:=by
   rw[←ArR,show ul+B-t+t=ul+B by omega,ArR]
  omega
 .have e0:(ul+B-t) % B=ul-t:=by
   rw[show ul+B-t=(ul-t)+B by omega,Nat.add_mod_right,ArT (by omega)]
  rw[if_neg h,e0];have e:p*(ul-t)+p*t=p*ul:=by rw[←ArR,show ul-t+t=ul by omega]
  omega
theorem AaS{u d:List Nat}{m ul:Nat}(hu:Limbs u)(hd:Limbs d)(hl:u.length=d.length)(hm:m<4294967296)(hul:ul<4294967296) :
  Ad (DC m 0 0 u d++[(ul+4294967296-(DS m 0 d+Db m 0 0 u d)) % 4294967296])+m*Ad d=Ad (u++[ul])+(if ul<DS m 0 d+Db m 0 0 u d then 4294967296 ^ (d.length+1) else 0):=by
 have h1:=PI m 0 0 u d hu (ArC _) (AuY hl.symm);have h2:=NM m 0 d hm hd (by decide);have h3:=NO m 0 0 u d (ArC _);have ht:DS m 0 d+Db m 0 0 u d<=4294967296:=by omega
 rw[ArS (AuY hl)]at h1;rw[BD,BD,F9,hl,ArP];have e:∀ x,Ad [x]=x:=λx=>by simp[Ad]
 rw[e,e];exact YQ ht hul h1
theorem AaX{u d:List Nat}{ul:Nat}(hu:Limbs u)(hd:Limbs d)(hl:u.length=d.length)(hul:ul<4294967296) :
  Ad (Dc 0 u d++[(ul+CU 0 u d) % 4294967296])=(Ad (u++[ul])+Ad d) % 4294967296 ^ (d.length+1):=by
 have h1:=PJ 0 u d (by omega);have h2:=NQ 0 u d hu hd (by omega);have h3:=Bt (CN (HD 0 u d) (Bf (ArF (ul+CU 0 u d) (show 0<4294967296 by omega)) BH));rw[List.length_append,Ek,List.length_singleton]at h3;rw[ArS (by omega)]at h1;rw[BD,Ek]at h3;rw[BD,BD,Ek];simp only[Ad,Atf,ArG,Nat.zero_add]at h1 h3 ⊢;rw[hl];have e:=AtA (ul+CU 0 u d) 4294967296;have e2:Ad u+4294967296 ^ d.length*ul+Ad d=Ad (Dc 0 u d)+4294967296 ^ d.length*((ul+CU 0 u d) % 4294967296)+4294967296 ^ (d.length+1)*((ul+CU 0 u d) / 4294967296):=by
  have:4294967296 ^ d.length*(ul+CU 0 u d)=4294967296 ^ d.length*((ul+CU 0 u d) % 4294967296)+4294967296 ^ (d.length+1)*((ul+CU 0 u d) / 4294967296):=by
   rw[ArP,Ark,←ArR]
   congr 1
   omega
  rw[ArR]at this;omega
 rw[e2,Nat.add_mul_mod_self_left,ArT h3]
theorem GJ{a b:Int}(h:a=b){x y:KR}:br (Af.eq a b) x y=x:=by rw[AnJ,decide_eq_true h];rfl
theorem Bu{a b:Int}{x y z:KR}(g:x=z)(h: a=b:=by omega):br (Af.eq a b) x y=z:=(GJ h).trans g
theorem FU{a b:Int}(h:¬ a=b){x y:KR}:br (Af.eq a b) x y=y:=by rw[AnJ,decide_eq_false h];rfl
theorem AN{a b:Int}{x y z:KR}(g:y=z)(h:¬ a=b:=by omega):br (Af.eq a b) x y=z:=(FU h).trans g
theorem Lx{a b:Int}(h:a<b){x y:KR}:br (Af.lt a b) x y=x:=by rw[AnL,decide_eq_true h];rfl
theorem Aj{a b:Int}{x y z:KR}(g:x=z)(h: a<b:=by omega):br (Af.lt a b) x y=z:=(Lx h).trans g
theorem CK{a b:Int}(h:¬ a<b){x y:KR}:br (Af.lt a b) x y=y:=by rw[AnL,decide_eq_false h];rfl
theorem Ag{a b:Int}{x y z:KR}(g:y=z)(h:¬ a<b:=by omega):br (Af.lt a b) x y=z:=(CK h).trans g
theorem NW{a b:Int}(h:a<=b){x y:KR}:br (Af.le a b) x y=x:=by rw[AnK,decide_eq_true h];rfl
theorem B6{a b:Int}{x y z:KR}(g:x=z)(h: a≤b:=by omega):br (Af.le a b) x y=z:=(NW h).trans g
theorem Rx{a b:Int}(h:¬ a<=b){x y:KR}:br (Af.le a b) x y=y:=by rw[AnK,decide_eq_false h];rfl
theorem Cr{a b:Int}{x y z:KR}(g:y=z)(h:¬ a≤b:=by omega):br (Af.le a b) x y=z:=(Rx h).trans g
section
open Go.RowKit
def XQ:MFn:=BI [⟨21,(mB 9),[],[],[(1,((mB 9),([],[])))]⟩] 108
def TV:Hnt:=⟨[],[(0,[(1,([.ls,.int .i64],[]))])],[(12,[.int .u32]),(13,[.int .u32])]⟩
def Ah7:MFn:=BI [] 109
def AhI:Hnt:=⟨[(108,(.ls,[])),(130,(.sl 0 1,[.row Δ]))],[],[]⟩
def Ah8:MFn:=BI [] 111
def AhJ:Hnt:=⟨[(109,(.ls,[]))],[],[]⟩
def Afz:MFn:=BI [⟨49,(mB 35),[],[],[(0,((mB 16),([],[]))),(2,([],([],[])))]⟩] 78
def Ab7:Hnt:=⟨[(108,(.ls,[]))],[(0,[(0,([.int .i64],[])),(2,([],[]))])],[(32,[.int .u32]),(33,[.int .u32]),(36,[.int .u32]),(37,[.int .u32]),(42,[.int .u32]),(43,[.int .u32]),(46,[.int .u32]),(47,[.int .u32])]⟩
def XM:MFn:=BI [⟨61,(mB 234881122),[(5,1)],[],[(1,((mB 96),([],[])))]⟩] 102
def TT:Hnt:=⟨[(108,(.ls,[])),(109,(.ls,[]))],[(0,[(1,([.sl 1 1,.int .u64],[.del,.row Δ]))])],[(30,[.int .u32]),(31,[.int .u32]),(43,[.int .u32]),(44,[.int .u32])]⟩
def XN:MFn:=BI [⟨59,(mB 58720450),[(6,1)],[],[(1,((mB 64),([],[])))]⟩] 103
def TU:Hnt:=⟨[(78,(.int .i64,[])),(108,(.ls,[])),(109,(.ls,[]))],[(0,[(1,([.sl 1 1],[.del,.row Δ]))])],[(28,[.int .u32]),(29,[.int .u32]),(38,[.int .u32]),(39,[.int .u32])]⟩
def QL:MFn:=BI [⟨68,(mB 1835042),[],[],[(1,((mB 32),([],[])))]⟩,⟨68,(mB 236716514),[],[],[(3,((mB 1835362),([],[])))]⟩] 143
def MJ:Hnt:=⟨[(109,(.ls,[]))],[(0,[(1,([.sl 1 1],[.del,.row Δ]))]),(1,[(3,([.ls,.sl 1 1,.int .i64,.int .u64,.ls,.int .i64,.int .i64],[.del,.row Δ]))])],[(23,[.int .u32]),(24,[.int .u32]),(30,[.int .u32]),(31,[.int .u32]),(41,[.int .u32]),(42,[.int .u32]),(53,[.int .u32]),(64,[.int .u32])]⟩
def Aib:MFn:=BI [] 137
def AhM:Hnt:=⟨[(108,(.ls,[])),(143,(.ls,[])),(144,(.ls,[]))],[],[]⟩
def Hi:List (Nat × MFn):=[(108,XQ),(109,Ah7),(111,Ah8),(78,Afz),(102,XM),(103,XN),(143,QL),(137,Aib)]
variable (A:Ar) (D:Orc)
theorem AoB(x0:Rw):BN A D Al TV .n 108 XQ [Ψ x0] [] =
 Ae D (ι 108 0) [Ψ x0,iv ↑(AL x0)] [] [.t,.C,.x,.X,.Y] λc l o=>
 br (Bm 1 c)
 (dk [.L,.I,.N,.E] [.l l,.o o] λxs n=>
 unI n λi=>
 br (KA 0 i (AL xs)) (br (GF 1 xs) (Θ ((Ψ (Jc (Jn xs i) 0),[]))) Ξ) Ξ)
 (Ξ):=by kernel_rfl
theorem Abi(t0:Rw)(t3:Int):CS A D Al TV .n 108 0 (AJ XQ 0).fst (AJ XQ 0).snd [Ψ t0,iv t3] [] =
 br (A.lt 0 t3)
 (unI (A.sub δ t3 1) λi=>
 Bj t0 i λcs=>
 dk [.J .u32,.N] [.l cs] λn=>
 br (A.eq n 0)
 (AA D (ι 108 0) [Ψ t0,iv (A.sub δ t3 1)] [] λr o=>
 As 0 [] (AH.mk [] 0 Ξ) [] r o)
 (Θ ((γ [iv 0,Ψ t0,iv t3],[]))))
 (Θ ((γ [iv 0,Ψ t0,iv t3],[]))):=by kernel_rfl
theorem AoC(x0:Rw):BN A D Al AhI .n 109 Ah7 [Ψ x0] [] =
 Ae D (ω 108) [Ψ x0] [] [.l,.E] λxs=>
 Ae D (ω 130) [Ψ xs] [] [.q 0 1,.R,.X,.E] λn cs=>
 br ((0+n*1).ble cs.length) (Θ ((Ψ (Bi n 1 (ε (n*1) cs)),[]))) Ξ:=by kernel_rfl
theorem AoD(x0:Int):BN A D Al AhJ .n 111 Ah8 [Aq0 (Value.int Ω x0)] [] =
 br (A.lt 32 0)
 (Ξ)
 (Ae D (ω 109) [Ψ [[Aq0 (Value.int ζ (A.conv ζ x0))],[Aq0 (Value.int ζ (A.conv ζ (A.shr Ω x0 32)))]]] [] [.l,.E] λxs=>
 Θ ((Ψ xs,[]))):=by kernel_rfl
theorem e78(x0 x1:Rw):BN A D Al Ab7 .n 78 Afz [Ψ x0,Ψ x1] [] =
 Ae D (ω 108) [Ψ x0] [] [.l,.E] λxs=>
 Ae D (ω 108) [Ψ x1] [] [.l,.E] λxs1=>
 br (A.lt ↑(AL xs) ↑(AL xs1))
 (Θ ((iv (-1),[])))
 (br (A.lt ↑(AL xs1) ↑(AL xs))
 (Θ ((iv 1,[])))
 (Ae D (ι 78 0) [Ψ xs,Ψ xs1,iv (A.sub δ (↑(AL xs)) 1)] [] [.t,.C,.x,.X,.Y] λc l o2=>
 br (Bm 0 c)
 (dk [.I,.N,.E] [.l l,.o o2] λn=>
 Θ ((iv n,[])))
 (br (Bm 2 c)
 (Ft l<|
 DI o2<|
 Θ ((iv 0,[])))
 (Ξ)))):=by kernel_rfl
theorem Ahr(t0 t1:Rw)(t5:Int):CS A D Al Ab7 .n 78 0 (AJ Afz 0).fst (AJ Afz 0).snd [Ψ t0,Ψ t1,iv t5] [] =
 br (A.le 0 t5)
 (unI t5 λi=>
 Bj t0 i λcs=>
 dk [.J .u32,.N] [.l cs] λn=>
 unI t5 λi1=>
 Bj t1 i1 λcs1=>
 dk [.J .u32,.N] [.l cs1] λn1=>
 br (A.lt n n1)
 (Θ ((γ [bv Δ,iv (-1)],[])))
 (unI t5 λi2=>
 Bj t0 i2 λcs2=>
 dk [.J .u32,.N] [.l cs2] λn2=>
 unI t5 λi3=>
 Bj t1 i3 λcs3=>
 dk [.J .u32,.N] [.l cs3] λn3=>
 br (A.lt n3 n2)
 (Θ ((γ [bv Δ,iv 1],[])))
 (AA D (ι 78 0) [Ψ t0,Ψ t1,iv (A.sub δ t5 1)] [] λr o=>
 As 0 [] (AH.mk [] 0 Ξ) [] r o)))
 (Θ ((γ [iv 1],[]))):=by kernel_rfl
theorem Aov(x0 x1:Rw):BN A D Al TT .n 102 XM [Ψ x0,Ψ x1] [] =
 Ae D (ω 108) [Ψ x0] [] [.l,.E] λxs=>
 Ae D (ω 108) [Ψ x1] [] [.l,.E] λxs1=>
 br (A.lt ↑(AL xs) ↑(AL xs1))
 (unI (A.add δ (↑(AL xs1)) 1) λi=>
 br (AZ i 4) (AA D (ι 102 0) [Ψ xs,χ 0 0 0 1,Aq0 (Value.int Ω 0),Ψ xs1,iv ↑(AL xs1),iv 0] [θ [] Δ Δ] λr2 o2=>
 dk [.t,.C,.x,.X] [.v r2] λc l=>
 br (Bm 1 c)
 (dk [.C,.q 1 1,.J .u64,.N,.D,.R,.X,.E] [.l l,.o o2] λn n1 cs1=>
 br (AZ (n+1) 4) (br ((0+n*1).ble cs1.length) (br ((0+(n+1)*1).ble (AqT 0 (ε (0+n*1) cs1)++[Aq0 (Value.int ζ (A.conv ζ n1))]).length) (AA D (ω 109) [Ψ (Bi (n+1) 1 (ε ((n+1)*1) (AqT 0 (AqT 0 (ε (0+n*1) cs1)++[Aq0 (Value.int ζ (A.conv ζ n1))]))))] [] λr3 o3=>
 dk [.l,.E] [.v r3,.o o3] λxs2=>
 Θ ((Ψ xs2,[]))) Ξ) Ξ) Ξ)
 (Ξ)) Ξ)
 (unI (A.add δ (↑(AL xs)) 1) λi=>
 br (AZ i 4) (AA D (ι 102 0) [Ψ xs1,χ 0 0 0 1,Aq0 (Value.int Ω 0),Ψ xs,iv ↑(AL xs),iv 0] [θ [] Δ Δ] λr2 o2=>
 dk [.t,.C,.x,.X] [.v r2] λc l=>
 br (Bm 1 c)
 (dk [.C,.q 1 1,.J .u64,.N,.D,.R,.X,.E] [.l l,.o o2] λn n1 cs1=>
 br (AZ (n+1) 4) (br ((0+n*1).ble cs1.length) (br ((0+(n+1)*1).ble (AqT 0 (ε (0+n*1) cs1)++[Aq0 (Value.int ζ (A.conv ζ n1))]).length) (AA D (ω 109) [Ψ (Bi (n+1) 1 (ε ((n+1)*1) (AqT 0 (AqT 0 (ε (0+n*1) cs1)++[Aq0 (Value.int ζ (A.conv ζ n1))]))))] [] λr3 o3=>
 dk [.l,.E] [.v r3,.o o3] λxs2=>
 Θ ((Ψ xs2,[]))) Ξ) Ξ) Ξ)
 (Ξ)) Ξ):=by kernel_rfl
theorem Abg(t1:Rw)(n5:Nat)(c5:List AV)(t6:Int)(t25:Rw)(t26 t27:Int):CS A D Al TT .n 102 0 (AJ XM 0).fst (AJ XM 0).snd [Ψ t1,χ 0 0 n5 1,Aq0 (Value.int Ω t6),Ψ t25,iv t26,iv t27] [{ cells:=c5,st:=Δ,ex:=Δ }] =
 br (A.lt t27 t26)
 (unI t27 λi=>
 Bj t25 i λcs=>
 dk [.J .u32,.N] [.l cs] λn=>
 br (A.lt t27 ↑(AL t1))
 (unI t27 λi1=>
 Bj t1 i1 λcs1=>
 dk [.J .u32,.N] [.l cs1] λn1=>
 br (AZ (n5+1) 4) (br ((0+n5*1).ble c5.length) (br (A.lt 32 0)
 (Ξ)
 (AA D (ι 102 0) [Ψ t1,χ 0 0 (n5+1) 1,Aq0 (Value.int Ω (A.shr Ω (A.add Ω (A.add Ω (A.conv Ω n) t6) (A.conv Ω n1)) 32)),Ψ t25,iv t26,iv (A.add δ t27 1)] [θ (AqT 0 (ε (0+n5*1) c5)++[Aq0 (Value.int ζ (A.conv ζ (A.add Ω (A.add Ω (A.conv Ω n) t6) (A.conv Ω n1))))]) Δ Δ] λr o=>
 As 1 [2] (AH.mk [(2,θ (AqT 0 (ε (0+n5*1) c5)++[Aq0 (Value.int ζ (A.conv ζ (A.add Ω (A.add Ω (A.conv Ω n) t6) (A.conv Ω n1))))]) Δ Δ),(1,θ [Aq0 (Value.int ζ (A.conv ζ (A.add Ω (A.add Ω (A.conv Ω n) t6) (A.conv Ω n1))))] Δ Δ)] 3 Ξ) [0] r o)) Ξ) Ξ)
 (br (AZ (n5+1) 4) (br ((0+n5*1).ble c5.length) (br (A.lt 32 0)
 (Ξ)
 (AA D (ι 102 0) [Ψ t1,χ 0 0 (n5+1) 1,Aq0 (Value.int Ω (A.shr Ω (A.add Ω (A.conv Ω n) t6) 32)),Ψ t25,iv t26,iv (A.add δ t27 1)] [θ (AqT 0 (ε (0+n5*1) c5)++[Aq0 (Value.int ζ (A.conv ζ (A.add Ω (A.conv Ω n) t6)))]) Δ Δ] λr o=>
 As 1 [2] (AH.mk [(2,θ (AqT 0 (ε (0+n5*1) c5)++[Aq0 (Value.int ζ (A.conv ζ (A.add Ω (A.conv Ω n) t6)))]) Δ Δ),(1,θ [Aq0 (Value.int ζ (A.conv ζ (A.add Ω (A.conv Ω n) t6)))] Δ Δ)] 3 Ξ) [0] r o)) Ξ) Ξ))
 (Θ ((γ [iv 0,χ 1 0 n5 1,Aq0 (Value.int Ω t6)],[BO.del,AqV (θ c5 Δ Δ)]))):=by kernel_rfl
theorem Aow(x0 x1:Rw):BN A D Al TU .n 103 XN [Ψ x0,Ψ x1] [] =
 Ae D (ω 108) [Ψ x0] [] [.l,.E] λxs=>
 Ae D (ω 108) [Ψ x1] [] [.l,.E] λxs1=>
 Ae D (ω 78) [Ψ xs,Ψ xs1] [] [.i,.E] λn=>
 br (A.lt n 0)
 (Θ ((γ [Ψ [],bv false],[])))
 (br (AZ (AL xs) 4) (AA D (ι 103 0) [Ψ xs1,χ 0 0 0 1,Aq0 (Value.int Ω 0),Ψ xs,iv ↑(AL xs),iv 0] [θ [] Δ Δ] λr3 o3=>
 dk [.t,.C,.x,.X] [.v r3] λc l=>
 br (Bm 1 c)
 (dk [.C,.q 1 1,.N,.D,.R,.X,.E] [.l l,.o o3] λn1 cs1=>
 br ((0+n1*1).ble cs1.length) (AA D (ω 109) [Ψ (Bi n1 1 (ε (n1*1) cs1))] [] λr4 o4=>
 Mr r4 λxs2=>
 DI o4<|
 Θ ((γ [Ψ xs2,bv Δ],[]))) Ξ)
 (Ξ)) Ξ):=by kernel_rfl
theorem Abh(t1:Rw)(n6:Nat)(c6:List AV)(t7:Int)(t23:Rw)(t24 t25:Int):CS A D Al TU .n 103 0 (AJ XN 0).fst (AJ XN 0).snd [Ψ t1,χ 0 0 n6 1,Aq0 (Value.int Ω t7),Ψ t23,iv t24,iv t25] [{ cells:=c6,st:=Δ,ex:=Δ }] =
 br (A.lt t25 t24)
 (unI t25 λi=>
 Bj t23 i λcs=>
 dk [.J .u32,.N] [.l cs] λn=>
 br (A.lt t25 ↑(AL t1))
 (unI t25 λi1=>
 Bj t1 i1 λcs1=>
 dk [.J .u32,.N] [.l cs1] λn1=>
 br (A.lt (A.conv Ω n) (A.add Ω t7 (A.conv Ω n1)))
 (br (AZ (n6+1) 4) (br ((0+n6*1).ble c6.length) (AA D (ι 103 0) [Ψ t1,χ 0 0 (n6+1) 1,Aq0 (Value.int Ω 1),Ψ t23,iv t24,iv (A.add δ t25 1)] [θ (AqT 0 (ε (0+n6*1) c6)++[Aq0 (Value.int ζ (A.conv ζ (A.sub Ω (A.add Ω (A.conv Ω n) 4294967296) (A.add Ω t7 (A.conv Ω n1)))))]) Δ Δ] λr o=>
 As 1 [2] (AH.mk [(2,θ (AqT 0 (ε (0+n6*1) c6)++[Aq0 (Value.int ζ (A.conv ζ (A.sub Ω (A.add Ω (A.conv Ω n) 4294967296) (A.add Ω t7 (A.conv Ω n1)))))]) Δ Δ),(1,θ [Aq0 (Value.int ζ (A.conv ζ (A.sub Ω (A.add Ω (A.conv Ω n) 4294967296) (A.add Ω t7 (A.conv Ω n1)))))] Δ Δ)] 3 Ξ) [0] r o) Ξ) Ξ)
 (br (AZ (n6+1) 4) (br ((0+n6*1).ble c6.length) (AA D (ι 103 0) [Ψ t1,χ 0 0 (n6+1) 1,Aq0 (Value.int Ω 0),Ψ t23,iv t24,iv (A.add δ t25 1)] [θ (AqT 0 (ε (0+n6*1) c6)++[Aq0 (Value.int ζ (A.conv ζ (A.sub Ω (A.conv Ω n) (A.add Ω t7 (A.conv Ω n1)))))]) Δ Δ] λr o=>
 As 1 [2] (AH.mk [(2,θ (AqT 0 (ε (0+n6*1) c6)++[Aq0 (Value.int ζ (A.conv ζ (A.sub Ω (A.conv Ω n) (A.add Ω t7 (A.conv Ω n1)))))]) Δ Δ),(1,θ [Aq0 (Value.int ζ (A.conv ζ (A.sub Ω (A.conv Ω n) (A.add Ω t7 (A.conv Ω n1)))))] Δ Δ)] 3 Ξ) [0] r o) Ξ) Ξ))
 (br (A.lt (A.conv Ω n) t7)
 (br (AZ (n6+1) 4) (br ((0+n6*1).ble c6.length) (AA D (ι 103 0) [Ψ t1,χ 0 0 (n6+1) 1,Aq0 (Value.int Ω 1),Ψ t23,iv t24,iv (A.add δ t25 1)] [θ (AqT 0 (ε (0+n6*1) c6)++[Aq0 (Value.int ζ (A.conv ζ (A.sub Ω (A.add Ω (A.conv Ω n) 4294967296) t7)))]) Δ Δ] λr o=>
 As 1 [2] (AH.mk [(2,θ (AqT 0 (ε (0+n6*1) c6)++[Aq0 (Value.int ζ (A.conv ζ (A.sub Ω (A.add Ω (A.conv Ω n) 4294967296) t7)))]) Δ Δ),(1,θ [Aq0 (Value.int ζ (A.conv ζ (A.sub Ω (A.add Ω (A.conv Ω n) 4294967296) t7)))] Δ Δ)] 3 Ξ) [0] r o) Ξ) Ξ)
 (br (AZ (n6+1) 4) (br ((0+n6*1).ble c6.length) (AA D (ι 103 0) [Ψ t1,χ 0 0 (n6+1) 1,Aq0 (Value.int Ω 0),Ψ t23,iv t24,iv (A.add δ t25 1)] [θ (AqT 0 (ε (0+n6*1) c6)++[Aq0 (Value.int ζ (A.conv ζ (A.sub Ω (A.conv Ω n) t7)))]) Δ Δ] λr o=>
 As 1 [2] (AH.mk [(2,θ (AqT 0 (ε (0+n6*1) c6)++[Aq0 (Value.int ζ (A.conv ζ (A.sub Ω (A.conv Ω n) t7)))]) Δ Δ),(1,θ [Aq0 (Value.int ζ (A.conv ζ (A.sub Ω (A.conv Ω n) t7)))] Δ Δ)] 3 Ξ) [0] r o) Ξ) Ξ)))
 (Θ ((γ [iv 0,χ 1 0 n6 1],[BO.del,AqV (θ c6 Δ Δ)]))):=by kernel_rfl
theorem AoR(x0 x1:Rw):BN A D Al MJ .n 143 QL [Ψ x0,Ψ x1] [] =
 unI (A.add δ ↑(AL x0) ↑(AL x1)) λi=>
 unI (A.add δ ↑(AL x0) ↑(AL x1)) λi1=>
 br (i.ble i1) (br (AZ i1 4) (AA D (ι 143 0) [Ψ x1,χ 0 0 i 1,Ψ x0,iv ↑(AL x0),iv 0] [θ (BW [Aq0 (Value.int ζ 0)] (i*1)) Δ Δ] λr o=>
 dk [.t,.C,.x,.X] [.v r] λc l=>
 br (Bm 1 c)
 (dk [.C,.q 1 1,.N,.D,.R,.X,.E] [.l l,.o o] λn cs1=>
 br ((0+n*1).ble cs1.length) (AA D (ω 109) [Ψ (Bi n 1 (ε (n*1) cs1))] [] λr1 o1=>
 Mr r1 λxs=>
 DI o1<|
 Θ ((Ψ xs,[]))) Ξ)
 (Ξ)) Ξ) Ξ:=by kernel_rfl
theorem Abu(t1:Rw)(n5:Nat)(c5:List AV)(t18:Rw)(t19 t20:Int):CS A D Al MJ .n 143 0 (AJ QL 0).fst (AJ QL 0).snd [Ψ t1,χ 0 0 n5 1,Ψ t18,iv t19,iv t20] [{ cells:=c5,st:=Δ,ex:=Δ }] =
 br (A.lt t20 t19)
 (unI t20 λi=>
 Bj t18 i λcs=>
 dk [.J .u32,.N] [.l cs] λn=>
 Ae D (ι 143 1) [Ψ t1,χ 0 0 n5 1,iv t20,Aq0 (Value.int ζ n),Aq0 (Value.int Ω 0),Ψ t18,iv t19,iv t20,Ψ t1,iv ↑(AL t1),iv 0] [θ c5 Δ Δ] [.t,.C,.x,.X,.Y] λc l1 o=>
 br (Bm 3 c)
 (dk [.L,.C,.q 1 1,.I,.J .u64,.L,.I,.I,.N,.D,.R,.X,.E] [.l l1,.o o] λxs n1 n2 n3 xs1 n4 n6 cs2=>
 unI (A.add δ n2 ↑(AL xs)) λi1=>
 br (i1.blt n1) (br ((0+i1*1+1).ble cs2.length) (AA D (ι 143 0) [Ψ xs,χ 0 0 n1 1,Ψ xs1,iv n4,iv (A.add δ n6 1)] [θ (AI cs2 (0+i1*1) [Aq0 (Value.int ζ (A.conv ζ n3))]) Δ Δ] λr1 o1=>
 As 1 [1] (AH.mk [(1,θ (AI cs2 (0+i1*1) [Aq0 (Value.int ζ (A.conv ζ n3))]) Δ Δ)] 2 Ξ) [0] r1 o1) Ξ) Ξ)
 (Ξ))
 (Θ ((γ [iv 0,χ 1 0 n5 1],[BO.del,AqV (θ c5 Δ Δ)]))):=by kernel_rfl
theorem Abv(t1:Rw)(n5:Nat)(c5:List AV)(t6 t7 t8:Int)(t18:Rw)(t19 t20:Int)(t25:Rw)(t26 t27:Int):CS A D Al MJ .n 143 1 (AJ QL 1).fst (AJ QL 1).snd [Ψ t1,χ 0 0 n5 1,iv t6,Aq0 (Value.int ζ t7),Aq0 (Value.int Ω t8),Ψ t18,iv t19,iv t20,Ψ t25,iv t26,iv t27] [{ cells:=c5,st:=Δ,ex:=Δ }] =
 br (A.lt t27 t26)
 (unI t27 λi=>
 Bj t25 i λcs=>
 dk [.J .u32,.N] [.l cs] λn=>
 unI (A.add δ t6 t27) λi1=>
 br (i1.blt n5) (EX c5 (0+i1*1) 1 λcs1=>
 dk [.J .u32,.N] [.l cs1] λn1=>
 unI (A.add δ t6 t27) λi2=>
 br (i2.blt n5) (br ((0+i2*1+1).ble c5.length) (br (A.lt 32 0)
 (Ξ)
 (AA D (ι 143 1) [Ψ t1,χ 0 0 n5 1,iv t6,Aq0 (Value.int ζ t7),Aq0 (Value.int Ω (A.shr Ω (A.add Ω (A.add Ω (A.mul Ω (A.conv Ω t7) (A.conv Ω n)) (A.conv Ω n1)) t8) 32)),Ψ t18,iv t19,iv t20,Ψ t25,iv t26,iv (A.add δ t27 1)] [θ (AI c5 (0+i2*1) [Aq0 (Value.int ζ (A.conv ζ (A.add Ω (A.add Ω (A.mul Ω (A.conv Ω t7) (A.conv Ω n)) (A.conv Ω n1)) t8)))]) Δ Δ] λr o=>
 As 1 [0] (AH.mk [(0,θ (AI c5 (0+i2*1) [Aq0 (Value.int ζ (A.conv ζ (A.add Ω (A.add Ω (A.mul Ω (A.conv Ω t7) (A.conv Ω n)) (A.conv Ω n1)) t8)))]) Δ Δ)] 1 Ξ) [0] r o)) Ξ) Ξ) Ξ)
 (Θ ((γ [iv 2,Ψ t1,χ 1 0 n5 1,iv t6,Aq0 (Value.int Ω t8),Ψ t18,iv t19,iv t20],[BO.del,AqV (θ c5 Δ Δ)]))):=by kernel_rfl
theorem AoN(x0 x1:Rw):BN A D Al AhM .n 137 Aib [Ψ x0,Ψ x1] [] =
 Ae D (ω 108) [Ψ x0] [] [.l,.E] λxs=>
 Ae D (ω 108) [Ψ x1] [] [.l,.E] λxs1=>
 br (A.lt (↑(AL xs)) 24)
 (Ae D (ω 143) [Ψ xs,Ψ xs1] [] [.l,.E] λxs2=>
 Θ ((Ψ xs2,[])))
 (br (A.lt (↑(AL xs1)) 24)
 (Ae D (ω 143) [Ψ xs,Ψ xs1] [] [.l,.E] λxs2=>
 Θ ((Ψ xs2,[])))
 (Ae D (ω 144) [Ψ xs,Ψ xs1] [] [.l,.E] λxs2=>
 Θ ((Ψ xs2,[])))):=by kernel_rfl
end
theorem Vv{B:Nat}{W w:World}(h:Below B W w):Below B W w.drew:=h.drew
theorem Bv(w:World)(o:Obj):Below w.heap.size w (w.alloc o):=(Below.refl _ _).alloc (π _) o
def Blk(w:World)(g:Nat)(t:TypeId)(cs:Array Value):Prop:=w.heap[g]? = Θ (.cells cs t (0,0))
section
variable {w w':World} {g:Nat} {t:TypeId} {cs:Array Value}
theorem Blk.lt(h:Blk w g t cs):g<w.heap.size:=by
 rcases ArA g w.heap.size with hlt|hge
 .exact hlt
 .unfold Blk at h;rw[Array.getElem?_eq_none hge]at h;cases h
theorem Blk.cell(h:Blk w g t cs)(i:Nat):w.cell? ⟨g,i,Ξ⟩=cs[i]?:=cell_of_row w g i cs t (0,0) h
theorem Blk.frozen(h:Blk w g t cs)(i:Nat):w.frozen? ⟨g,i,Ξ⟩=false:=by
 unfold Blk at h;simp[World.frozen?,h]
theorem Blk.new(w:World)(t:TypeId)(cs:Array Value):Blk (w.alloc (.cells cs t)) w.heap.size t cs:=heap_alloc_new w _
theorem Blk.drew(h:Blk w g t cs):Blk w.drew g t cs:=h
theorem Blk.alloc(h:Blk w g t cs)(o:Obj):Blk (w.alloc o) g t cs:=(Below.heap_alloc w o g h.lt).trans h
theorem Blk.set_(h:Blk w g t cs)(i:Nat)(u:Value):Blk (w.setCell ⟨g,i,Ξ⟩ u) g t (cs.setIfInBounds i u):=by
 unfold Blk at h ⊢;simp[World.setCell,Array.getElem?_modify,h]
theorem Blk.far(h:Blk w g t cs){p:Addr}(hp:g≠p.block)(u:Value):Blk (w.setCell p u) g t cs:=(Below.heap_setCell w p u g hp).trans h
theorem Blk.below{B:Nat}(h:Blk w g t cs)(hb:Below B w w')(hg:g<B):Blk w' g t cs:=(hb.block g hg).trans h
theorem Blk.call(h:Blk w g t cs)(hb:Below w.heap.size w w'):Blk w' g t cs:=h.below hb h.lt
end
def Own(w:World)(B g:Nat)(t:TypeId)(v:Value)(cs:Array Value):Prop:=B<=g/\v=.pointer (Θ ⟨g,0,Ξ⟩)/\Blk w g t cs
section
variable {w w':World} {B g:Nat} {t:TypeId} {v:Value} {cs:Array Value}
theorem Own.call(h:Own w B g t v cs)(hb:Below w.heap.size w w'):Own w' B g t v cs:=⟨h.1,h.2.1,h.2.2.call hb⟩
end
def pick{α:Type}(d:Bool)(x y:α):α:=match d with|true=>x|false=>y
section
variable {w w':World} {base base' e size n:Nat} {v:Value} {xs:List Value}
theorem Gq(h:w.ownsRow base e size v n xs):∃ A c,v=.slice A n c:=by
 rcases h.2 with⟨h1,h0⟩|⟨g,cap,cur,h1,_⟩
 .exact⟨Ξ,0,by rw[h1,h0]⟩
 .exact⟨_,_,h1⟩
end
