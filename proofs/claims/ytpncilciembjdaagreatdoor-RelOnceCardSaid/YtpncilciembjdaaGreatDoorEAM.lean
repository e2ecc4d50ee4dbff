/- Seats of D: contracts fr -/
import Derived.Test.YtpncilciembjdaaGreatDoorEAL
import Derived.Test.YtpncilciembjdaaGreatDoorChecked
import Derived.WalkKit
import Derived.WalkSpells
import Derived.WalkLawsBesides
import Derived.Deep.Draws
import Derived.Lib.Hide
set_option linter.all false
open Bool renaming true->Δ,and_eq_true->ArX
open List renaming all_eq_true->Ar3,drop->ArV,flatten_cons->As6,getElem?_cons_succ->Ar9,headD_cons->Atg,length_cons->ε,length_eq_zero_iff->Au3,mem_cons->ArR,tail_cons->AtB,take->ArQ,take_of_length_le->AsW,take_succ_cons->AtG
open Nat renaming add_mul->Asz,add_zero->AsI,beq->AsA,div_add_mod->AuD,le_of_eq->AvX,le_refl->κ,lt_or_ge->Asu,mod_eq_of_lt->As5,mod_lt->AsJ,mul_add->AsS,mul_assoc->Asp,mul_comm->AsF,mul_le_mul_left->Atx,mul_le_mul_right->Asa,mul_zero->Au0,one_mul->Ata,pow_le_pow_right->Att,pow_succ->As7,strongRecOn->Ato,zero_le->AsB
open Option renaming none->Ξ,some->Θ
namespace Go.Proofs.YtpncilciembjdaaGreatDoor
noncomputable section
open ABlk renaming mk->δ
open AV renaming ls->Ψ,sl->χ,tup->ι,v->ArZ
open BO renaming set->ArU
open IntKind renaming i64->θ,u32->ζ,u64->Ω
open Key renaming fn->ψ,lp->ArW
open Tryz renaming prog->ArP
open Go.RowKit
def Ao9:List AV->Option AV
 |[.v (.string s)]=>if s.size<=9223372036854775807 then Θ (bv (Aos s.data.toList)) else Ξ
 |_=>Ξ
def Jr(res:List AV->Option AV):DF:=λargs bs=>match bs with
 |[]=>(res args).map λr=>(r,[])
 |_=>Ξ
def Nv(P:Program)(ents:Nat):List (Nat × MFn)->Prop
 |[]=>True
 |p::r=>(∃ hs a b,p.2=Ni P ents hs a b p.1)/\Ac1 P p.1=Δ/\Nv P ents r
theorem P3{P:Program}{ents:Nat}:∀{L:List (Nat × MFn)},Nv P ents L->∀ f mf,(f,mf)∈L->FnOk P ents f mf
 |p::r,⟨⟨hs,a,b,h1⟩,h2,h3⟩,f,mf,hm=>by
  rcases ArR.1 hm with rfl|hm
  .have h1:mf=_:=h1
   rw[h1];exact Ae5 h2
  .exact P3 h3 f mf hm
theorem P2{P:Program}{ents:Nat}:∀{L L':List (Nat × MFn)},Nv P ents L->Nv P ents L'->Nv P ents (L++L')
 |[],_,_,h=>h
 |_::_,_,⟨h1,h2,h3⟩,h=>⟨h1,h2,P2 h3 h⟩
def AbH(P:Program)(ents n:Nat):Bool:=Nat.blt ents (2 ^ n)&&(List.range n).all λg=>!ents.testBit g||Gc P g
theorem AbI{P:Program}{ents n:Nat}(h:AbH P ents n=Δ):I0 P ents:=by
 unfold AbH at h;rw[ArX]at h;intro g hg;have hn:ents<2 ^ n:=Nat.blt_eq.mp h.1
 by_cases hgn:g<n
 .have:=Ar3.1 h.2 g (List.mem_range.2 hgn)
  rw[hg]at this;simpa using this
 .have:ents<2 ^ g:=Nat.lt_of_lt_of_le hn (Att (by decide) (by omega))
  rw[Nat.testBit_lt_two_pow this]at hg
  cases hg
theorem Oc{α:Type}{f:Nat}:∀{A B:List (Nat × α)},Cn f (A++B)=match Cn f A with
  |some a=>Θ a
  |none=>Cn f B
 |[],_=>rfl
 |(m,b)::r,B=>by
  have ih:=Oc (f:=f) (A:=r) (B:=B)
  show (match AsA f m with
   |true=>Θ b
   |false=>Cn f (r++B))=match (match AsA f m with
   |true=>Θ b
   |false=>Cn f r) with
   |some a=>Θ a
   |none=>Cn f B
  cases AsA f m with
  |true=>rfl
  |false=>exact ih
def AaW(A B:List (Nat × MFn)):Bool:=B.all λp=>(Cn p.1 A).isNone
theorem VZ{A B:List (Nat × MFn)}(h:AaW A B=Δ){f:Nat}{mf:MFn}(hf:Cn f B=Θ mf):Cn f (A++B)=Θ mf:=by
 have:=Ar3.1 h _ (Ge hf);have h0:Cn f A=Ξ:=Option.isNone_iff_eq_none.1 this;rw[Oc,h0];exact hf
theorem Y9{A B:List (Nat × MFn)}{f:Nat}{mf:MFn}(hf:Cn f A=Θ mf):Cn f (A++B)=Θ mf:=by
 rw[Oc,hf]
def Fz(P:Program):List (Nat × DF)->Prop
 |[]=>True
 |p::r=>Bu (BD P p.1) p.2/\Fz P r
theorem Qp{P:Program}:∀{L:List (Nat × DF)},Fz P L->∀ f d,(f,d)∈L->Bu (BD P f) d
 |p::r,⟨h1,h2⟩,f,d,hm=>by
  rcases ArR.1 hm with rfl|hm
  .exact h1
  .exact Qp h2 f d hm
def Fy(P:Program)(ents:Nat):List (List (Nat × MFn))->Prop
 |[]=>True
 |T::r=>Nv P ents T/\Fy P ents r
theorem Ta{P:Program}{ents:Nat}:∀{L:List (List (Nat × MFn))},Fy P ents L->Nv P ents L.flatten
 |[],_=>trivial
 |T::r,⟨h1,h2⟩=>by
  rw[As6];exact P2 h1 (Ta h2)
theorem D8{P:Program}{ents:Nat}{own:List (Nat × Nat)}{L:List (List (Nat × MFn))}{X:List (Nat × DF)}(m:P.follows .mixedOrders=Δ)(e:I0 P ents)(a:Fy P ents L)(g:Fz P X):SeatOk P ents (ER own L.flatten X) where
 mixed:=m
 ent:=e
 fns f mf h:=P3 (Ta a) f mf (Ge h)
 ext f d h:=Qp g f d (Ge h)
def Ei:List (List (Nat × MFn))->Bool
 |[]=>Δ
 |T::r=>AaW T r.flatten&&Ei r
theorem Xu{f:Nat}{mf:MFn}:∀{L:List (List (Nat × MFn))} {i:Nat} {T:List (Nat × MFn)},Ei L=Δ->L[i]? = Θ T->Cn f T=Θ mf->Cn f L.flatten=Θ mf
 |A::r,0,T,_,hi,h=>by
  injection hi with hi
  subst hi;rw[As6];exact Y9 h
 |A::r,i+1,T,ha,hi,h=>by
  unfold Ei at ha;rw[ArX]at ha;rw[As6];exact VZ ha.1 (Xu ha.2 hi h)
theorem AcI:∀{L:List (List (Nat × MFn))} {i:Nat} {T:List (Nat × MFn)},L[i]? = Θ T->∀ p∈T,p∈L.flatten
 |A::r,0,T,hi,p,hp=>by
  injection hi with hi
  subst hi;rw[As6];exact List.mem_append_left _ hp
 |A::r,i+1,T,hi,p,hp=>by
  rw[As6];exact List.mem_append_right _ (AcI (L:=r) hi p hp)
theorem Bh{own:List (Nat × Nat)}{L:List (List (Nat × MFn))}{X:List (Nat × DF)}(h:(Ei L&&Ib L.flatten X)=Δ){i:Nat}{T:List (Nat × MFn)}(hi:L[i]? = Θ T):Knows own T (AL Ae (ER own L.flatten X)):=by
 rw[ArX]at h;refine Aco (λf mf hf=>Xu h.1 hi hf) (Ar3.2 λp hp=>Ar3.1 h.2 p (AcI hi p hp))
def Bx:Nat:=1042962668542029374677668987337996011341198353761632795856419847799597962473998426758556155900
abbrev AU(h:JQ)(n:Nat):MFn:=Ni ArP Bx h false false n
def mBg:Nat->Nat->List Bool
 | 0,_=>[]
 | k+1,n=>(match AsA n 0 with
  | true=>[]
  | false=>AsA (Nat.mod n 2) 1::mBg k (Nat.div n 2))
def mB(n:Nat):List Bool:=mBg 400 n
abbrev AK:List Sh:=[.bool,.ls]
abbrev Br:List Sh:=[.int .i64,.bool,.ls]
abbrev BL:List Sh:=[.ls,.bool,.ls,.bool]
abbrev B7:List Sh:=[.ls,.bool,.ls]
def At:List (Nat × Nat):=[(262,0),(240,0),(241,0),(136,0),(196,0),(234,0),(235,0),(265,0),(275,0),(140,0),(199,0)]
theorem OO:Tryz.prog.follows .mixedOrders=Δ:=by kernel_rfl
set_option maxRecDepth 100000 in
theorem DW:I0 ArP Bx:=AbI (n:=600) (by kernel_rfl)
def Ad:List Nat->Nat
 |[]=>0
 |x::r=>x+4294967296*Ad r
def Limbs(l:List Nat):Prop:=∀ x∈l,x<4294967296
def Ah(n:Nat):List Nat:=if n=0 then [] else(n % 4294967296)::Ah (n / 4294967296)
termination_by n
decreasing_by omega
theorem CB:Ah 0=[]:=by rw[Ah];rfl
theorem EG{n:Nat}(h:n≠0):Ah n=(n % 4294967296)::Ah (n / 4294967296):=by rw[Ah,if_neg h]
theorem Aq:∀(n:Nat),Limbs (Ah n):=by
 intro n
 induction n using Ato with
 |ind n ih=>
  by_cases h:n=0
  .subst h;rw[CB];intro x hx;cases hx
  .rw[EG h]
   intro x hx;rcases ArR.1 hx with rfl|hx
   .exact AsJ _ (by omega)
   .exact ih (n / 4294967296) (by omega) x hx
theorem Az:∀(n:Nat),Ad (Ah n)=n:=by
 intro n
 induction n using Ato with
 |ind n ih=>
  by_cases h:n=0
  .subst h;rw[CB];rfl
  .rw[EG h,Ad,ih (n / 4294967296) (by omega)]
   omega
theorem Up{n:Nat}:Ah n=[] ↔ n=0:=by
 constructor
 .intro h
  have:=Az n;rw[h]at this;exact this.symm
 .rintro rfl;exact CB
def CC:List Nat->Nat
 |[]=>0
 |x::r=>if CC r=0/\x=0 then 0 else CC r+1
theorem Cs:∀ l:List Nat,CC l<=l.length
 |[]=>κ _
 |x::r=>by
  have:=Cs r;unfold CC;rw[ε];split<;>omega
theorem Limbs.cons{x:Nat}{r:List Nat}(h:Limbs (x::r)):x<4294967296/\Limbs r:=⟨h x (List.mem_cons_self ..),λy hy=>h y (List.mem_cons_of_mem _ hy)⟩
theorem BG:Limbs []:=λ_ h=>by cases h
theorem Bc{x:Nat}{r:List Nat}(h:x<4294967296)(h2:Limbs r):Limbs (x::r):=λy hy=>by
 rcases ArR.1 hy with rfl|hy
 .exact h
 .exact h2 y hy
theorem CG{a b:List Nat}(h:Limbs a)(h2:Limbs b):Limbs (a++b):=λx hx=>by
 rcases List.mem_append.1 hx with hx|hx
 .exact h x hx
 .exact h2 x hx
theorem Limbs.take{l:List Nat}(h:Limbs l)(n:Nat):Limbs (l.take n):=λx hx=>h x (List.mem_of_mem_take hx)
theorem Limbs.drop{l:List Nat}(h:Limbs l)(n:Nat):Limbs (l.drop n):=λx hx=>h x (List.mem_of_mem_drop hx)
theorem Limbs.get{l:List Nat}(h:Limbs l){i:Nat}(hi:i<l.length):l[i]<4294967296:=h _ (List.getElem_mem hi)
theorem Aec:∀{l:List Nat},CC l=0->Ad l=0
 |[],_=>rfl
 |x::r,h=>by
  unfold CC at h;split at h
  .rename_i h2
   rw[Ad,Aec h2.1,h2.2]
  .omega
theorem Aej:∀{l:List Nat},Ad l=0->CC l=0
 |[],_=>rfl
 |x::r,h=>by
  rw[Ad]at h;unfold CC;rw[if_pos ⟨Aej (by omega),by omega⟩]
theorem In:∀{l:List Nat},Limbs l->l.take (CC l)=Ah (Ad l)
 |[],_=>by rw[Ad,CB];rfl
 |x::r,h=>by
  obtain⟨h1,h2⟩:=h.cons;have ih:=In h2;unfold CC;split
  .rename_i h3
   rw[List.take_zero,Ad,Aec h3.1,h3.2,CB]
  .rename_i h3
   have h0:Ad (x::r)≠0:=by
    intro h0;rw[Ad]at h0;exact h3 ⟨Aej (by omega),by omega⟩
   rw[AtG,EG h0,Ad];have e1:(x+4294967296*Ad r) % 4294967296=x:=by omega
   have e2:(x+4294967296*Ad r) / 4294967296=Ad r:=by omega
   rw[e1,e2,ih]
theorem BF:∀(a b:List Nat),Ad (a++b)=Ad a+4294967296 ^ a.length*Ad b
 |[],b=>by simp[Ad]
 |x::r,b=>by
  rw[List.cons_append,Ad,BF r b,Ad,ε,As7,AsS,←Asp,AsF 4294967296 (4294967296 ^ r.length)];omega
theorem BK:∀{l:List Nat},Limbs l->Ad l<4294967296 ^ l.length
 |[],_=>by simp[Ad]
 |x::r,h=>by
  obtain⟨h1,h2⟩:=h.cons;have:=BK h2;rw[Ad,ε,As7];omega
theorem Dz(l:List Nat)(h:Limbs l):(Ah (Ad l)).length=CC l:=by
 rw[←In h,List.length_take];have:=Cs l;omega
theorem Bz{n k:Nat}(h:n<4294967296 ^ k):(Ah n).length<=k:=by
 induction k generalizing n with
 |zero=>
  have:n=0:=by simpa using h
  subst this;rw[CB];exact κ _
 |succ k ih=>
  by_cases h0:n=0
  .subst h0;rw[CB];exact AsB _
  .rw[EG h0,ε]
   have:n / 4294967296<4294967296 ^ k:=by
    rw[Nat.div_lt_iff_lt_mul (by omega)];rw[As7]at h;exact h
   have:=ih this;omega
theorem H7{n k:Nat}(h:4294967296 ^ k<=n):k<(Ah n).length:=by
 by_cases h2:k<(Ah n).length
 .exact h2
 .have h3:=BK (Aq n)
  rw[Az]at h3;have h4:4294967296 ^ (Ah n).length<=4294967296 ^ k:=Att (by omega) (by omega);omega
theorem Q4:∀{l:List Nat},0<CC l->∃ x,l[CC l-1]? = Θ x/\x≠0
 |[],h=>by simp[CC]at h
 |y::r,h=>by
  by_cases h1:CC r=0
  .have h2:y≠0:=by
    intro h2;unfold CC at h;rw[if_pos ⟨h1,h2⟩]at h;omega
   refine⟨y,?_,h2⟩;unfold CC;rw[if_neg (λe=>h2 e.2),h1];rfl
  .obtain⟨x,h3,h4⟩:=Q4 (l:=r) (by omega)
   refine⟨x,?_,h4⟩;unfold CC;rw[if_neg (λe=>h1 e.1)];have:CC r+1-1=(CC r-1)+1:=by omega
   rw[this,Ar9,h3]
theorem Ns:∀{l:List Nat} {i x:Nat},l[i]? = Θ x->x≠0->i<CC l
 |[],i,x,h,_=>by simp at h
 |y::r,0,x,h,h2=>by
  have h:y=x:=by simpa using h
  unfold CC;rw[if_neg (λe=>h2 (by rw[←h];exact e.2))];omega
 |y::r,i+1,x,h,h2=>by
  rw[Ar9]at h;have:=Ns h h2;unfold CC;rw[if_neg (λe=>by omega)];omega
theorem L8{l:List Nat}{n:Nat}(h:CC l<=n+1)(h2:l[n]? = Θ 0):CC l<=n:=by
 by_cases h3:CC l=n+1
 .obtain⟨x,h4,h5⟩:=Q4 (l:=l) (by omega)
  rw[h3,Nat.add_sub_cancel,h2]at h4;injection h4 with h4
  exact absurd h4.symm h5
 .omega
def eL(n:Nat):List AV:=[.v (.int .u32 (n:Int))]
def eN(l:List Nat):AV:=.ls (l.map eL)
theorem AA(x:Nat):(eL x).length=1:=rfl
def K9:Nat->List Nat->List Nat->List Nat
 |c,[],_=>[c]
 |c,x::a,b=>((x+b.headD 0+c) % 4294967296)::K9 ((x+b.headD 0+c) / 4294967296) a b.tail
theorem DZ{b:List Nat}(h:Limbs b):b.headD 0<4294967296:=by
 cases b with
 |nil=>simp
 |cons y b=>exact h.cons.1
theorem Limbs.tail{b:List Nat}(h:Limbs b):Limbs b.tail:=by
 cases b with
 |nil=>exact h
 |cons y b=>exact h.cons.2
theorem G9(b:List Nat):Ad b=b.headD 0+4294967296*Ad b.tail:=by
 cases b<;>rfl
theorem Mc:∀(a b:List Nat) (c:Nat),b.length<=a.length->Ad (K9 c a b)=c+Ad a+Ad b
 |[],b,c,h=>by
  obtain rfl:b=[]:=Au3.1 (by simpa using h);simp[K9,Ad]
 |x::a,b,c,h=>by
  have ih:=Mc a b.tail ((x+b.headD 0+c) / 4294967296) (by simp at h ⊢;omega);rw[K9,Ad,ih,Ad,G9 b];omega
theorem Jf:∀(a b:List Nat) (c:Nat),Limbs a->Limbs b->c<=1->Limbs (K9 c a b)
 |[],b,c,_,_,hc=>Bc (by omega) BG
 |x::a,b,c,ha,hb,hc=>by
  have h1:=DZ hb;have h2:=ha.cons;exact Bc (AsJ _ (by omega)) (Jf a b.tail _ h2.2 hb.tail (by omega))
def MN:Nat->Nat->List Nat->List Nat->List Nat
 |0,_,_,_=>[]
 |k+1,c,a,b=>((a.headD 0+b.headD 0+c) % 4294967296)::MN k ((a.headD 0+b.headD 0+c) / 4294967296) a.tail b.tail
theorem Q9:∀(k c:Nat) (a b:List Nat),Ad (MN k c a b)=(c+Ad a+Ad b) % 4294967296 ^ k
 |0,c,a,b=>by simp[MN,Ad,Nat.mod_one]
 |k+1,c,a,b=>by
  have ih:=Q9 k ((a.headD 0+b.headD 0+c) / 4294967296) a.tail b.tail;rw[MN,Ad,ih,G9 a,G9 b,As7,AsF (4294967296 ^ k) 4294967296,Nat.mod_mul];have e1:(c+(a.headD 0+4294967296*Ad a.tail)+(b.headD 0+4294967296*Ad b.tail)) % 4294967296=(a.headD 0+b.headD 0+c) % 4294967296:=by omega
  have e2:(c+(a.headD 0+4294967296*Ad a.tail)+(b.headD 0+4294967296*Ad b.tail)) / 4294967296=(a.headD 0+b.headD 0+c) / 4294967296+Ad a.tail+Ad b.tail:=by omega
  rw[e1,e2]
theorem Nz:∀(k c:Nat) (a b:List Nat),Limbs (MN k c a b)
 |0,_,_,_=>BG
 |k+1,c,a,b=>Bc (AsJ _ (by omega)) (Nz k _ _ _)
def G5:Nat->List Nat->List Nat->List Nat
 |_,[],_=>[]
 |c,x::a,b=>(if x<b.headD 0+c then x+4294967296-(b.headD 0+c) else x-(b.headD 0+c))::G5 (if x<b.headD 0+c then 1 else 0) a b.tail
def SH:Nat->List Nat->List Nat->Nat
 |c,[],_=>c
 |c,x::a,b=>SH (if x<b.headD 0+c then 1 else 0) a b.tail
theorem Yn:∀(a b:List Nat) (c:Nat),c<=1->SH c a b<=1
 |[],_,_,h=>h
 |x::a,b,c,h=>Yn a b.tail _ (by split<;>omega)
theorem Rc:∀(a b:List Nat) (c:Nat),Limbs a->Limbs b->c<=1->b.length<=a.length->Ad (G5 c a b)+Ad b+c=Ad a+4294967296 ^ a.length*SH c a b
 |[],b,c,_,_,_,h=>by
  obtain rfl:b=[]:=Au3.1 (by simpa using h);simp[G5,SH,Ad]
 |x::a,b,c,ha,hb,hc,h=>by
  have h1:=DZ hb;have h2:=ha.cons;rw[G5,SH,Ad,Ad,G9 b,ε,As7];have ih:=Rc a b.tail (if x<b.headD 0+c then 1 else 0) h2.2 hb.tail (by split<;>omega) (by simp at h ⊢;omega);rw[AsF (4294967296 ^ a.length) 4294967296,Asp];revert ih;generalize 4294967296 ^ a.length*SH (if x<b.headD 0+c then 1 else 0) a b.tail=z;generalize Ad (G5 (if x<b.headD 0+c then 1 else 0) a b.tail)=s;intro ih;split at ih
  .rename_i h3
   rw[if_pos h3];omega
  .rename_i h3
   rw[if_neg h3];omega
theorem G6:∀(a b:List Nat) (c:Nat),Limbs a->Limbs b->c<=1->Limbs (G5 c a b)
 |[],_,_,_,_,_=>BG
 |x::a,b,c,ha,hb,hc=>by
  have h1:=DZ hb;have h2:=ha.cons;refine Bc ?_ (G6 a b.tail _ h2.2 hb.tail (by split<;>omega));split<;>omega
theorem KW:∀(a b:List Nat) (c:Nat),(G5 c a b).length=a.length
 |[],_,_=>rfl
 |x::a,b,c=>by rw[G5,ε,KW a,ε]
theorem U8{a b:List Nat}(ha:Limbs a)(hb:Limbs b)(h:b.length<=a.length)(hv:Ad b<=Ad a):Ad (G5 0 a b)=Ad a-Ad b:=by
 have h1:=Rc a b 0 ha hb (by omega) h;have h2:=BK (G6 a b 0 ha hb (by omega));rw[KW]at h2;have h3:=Yn a b 0 (by omega);have h4:=BK ha;rcases Asu (SH 0 a b) 1 with h5|h5
 .rw[show SH 0 a b=0 by omega]at h1
  omega
 .rw[show SH 0 a b=1 by omega]at h1
  omega
def OQ:Nat->Nat->List Nat->List Nat->List Nat
 |_,c,[],o=>c::o.tail
 |x,c,y::b,o=>((x*y+o.headD 0+c) % 4294967296)::OQ x ((x*y+o.headD 0+c) / 4294967296) b o.tail
theorem Rb:∀(x:Nat) (b o:List Nat) (c:Nat),(o.drop b.length).headD 0=0->Ad (OQ x c b o)=x*Ad b+Ad o+c
 |x,[],o,c,h=>by
  have h:o.headD 0=0:=h;rw[OQ,Ad,Ad,G9 o,h];omega
 |x,y::b,o,c,h=>by
  have h2:(o.tail.drop b.length).headD 0=0:=by
   rw[ε]at h
   cases o with
   |nil=>simp
   |cons z o=>exact h
  have ih:=Rb x b o.tail ((x*y+o.headD 0+c) / 4294967296) h2;have e:x*(y+4294967296*Ad b)=x*y+4294967296*(x*Ad b):=by
   rw[AsS,←Asp,AsF x 4294967296,Asp]
  rw[OQ,Ad,ih,Ad,G9 o,e];omega
theorem JA{x y:Nat}(hx:x<4294967296)(hy:y<4294967296):x*y<=18446744065119617025:=by
 have:=Nat.mul_le_mul (show x<=4294967295 by omega) (show y<=4294967295 by omega);omega
theorem OR:∀(x:Nat) (b o:List Nat) (c:Nat),x<4294967296->Limbs b->Limbs o->c<4294967296->Limbs (OQ x c b o)
 |x,[],o,c,_,_,ho,hc=>Bc hc ho.tail
 |x,y::b,o,c,hx,hb,ho,hc=>by
  have h1:=DZ ho;have h2:=hb.cons;have h3:=JA hx h2.1;exact Bc (AsJ _ (by omega)) (OR x b o.tail _ hx h2.2 ho.tail (by omega))
def DL:Nat->Nat->List Nat->List Nat
 |_,c,[]=>[c]
 |m,c,x::a=>((x*m+c) % 4294967296)::DL m ((x*m+c) / 4294967296) a
theorem Io:∀(m:Nat) (a:List Nat) (c:Nat),Ad (DL m c a)=Ad a*m+c
 |m,[],c=>by simp[DL,Ad]
 |m,x::a,c=>by
  rw[DL,Ad,Io m a,Ad,Asz,Asp];omega
theorem G4:∀(m:Nat) (a:List Nat) (c:Nat),m<4294967296->Limbs a->c<4294967296->Limbs (DL m c a)
 |m,[],c,_,_,hc=>Bc hc BG
 |m,x::a,c,hm,ha,hc=>by
  have h2:=ha.cons;have h3:=JA h2.1 hm;exact Bc (AsJ _ (by omega)) (G4 m a _ hm h2.2 (by omega))
def CJ(a b:Nat):Int:=if a<b then -1 else if b<a then 1 else 0
theorem NZ{a b:List Nat}(ha:Limbs a)(hb:Limbs b)(h:a.length=b.length)(x y:Nat):CJ (Ad (a++[x])) (Ad (b++[y]))=if x<y then -1 else if y<x then 1 else CJ (Ad a) (Ad b):=by
 rw[BF,BF,←h];have h1:=BK ha;have h2:=BK hb;rw[←h]at h2;simp only[Ad,Au0,AsI];revert h1 h2;generalize 4294967296 ^ a.length=k;generalize Ad a=p;generalize Ad b=q;intro h1 h2
 by_cases h3:x<y
 .rw[if_pos h3]
  have:k*(x+1)<=k*y:=Atx _ h3;rw[AsS]at this;unfold CJ;rw[if_pos (by omega)]
 .rw[if_neg h3]
  by_cases h4:y<x
  .rw[if_pos h4]
   have:k*(y+1)<=k*x:=Atx _ h4;rw[AsS]at this;unfold CJ;rw[if_neg (by omega),if_pos (by omega)]
  .rw[if_neg h4]
   obtain rfl:x=y:=by omega
   unfold CJ
   by_cases h5:p<q
   .rw[if_pos (by omega),if_pos h5]
   .rw[if_neg (by omega),if_neg h5]
    by_cases h6:q<p
    .rw[if_pos (by omega),if_pos h6]
    .rw[if_neg (by omega),if_neg h6]
theorem AbX{P V2 vl U3 ul g:Nat}(hvl:vl<P)(hV2:4294967296<=V2)(hg:g<=4294967296)(h:g*V2<=U3):g*(V2*P+vl)<(U3*P+ul)+(V2*P+vl):=by
 have h1:g*V2*P<=U3*P:=Asa _ h;have h2:g*vl<=4294967296*vl:=Asa _ hg;have h3:4294967296*P<=V2*P:=Asa _ hV2;rw[AsS,←Asp];omega
theorem AbY{P V2 vl U3 ul g:Nat}(hul:ul<P)(h:U3<g*V2):U3*P+ul<g*(V2*P+vl):=by
 have h1:(U3+1)*P<=g*V2*P:=Asa _ h;rw[Asz,Ata]at h1;rw[AsS,←Asp];omega
theorem Ae8{Q f dl T ul:Nat}(hul:ul<Q)(hf:0<f):T*Q+ul<(T / f+1)*(f*Q+dl):=by
 have h1:T+1<=(T / f+1)*f:=by
  have:=AuD T f;have:=AsJ T hf;rw[Asz,Ata,AsF];omega
 have h2:(T+1)*Q<=(T / f+1)*f*Q:=Asa _ h1;rw[Asz,Ata]at h2;rw[AsS,←Asp];omega
def Du:Nat->Nat->Nat->List Nat->List Nat->List Nat
 |_,_,_,_,[]=>[]
 |m,c,w,u,x::d=>(if u.headD 0<(m*x+c) % 4294967296+w then u.headD 0+4294967296-((m*x+c) % 4294967296+w) else u.headD 0-((m*x+c) % 4294967296+w))::Du m ((m*x+c) / 4294967296) (if u.headD 0<(m*x+c) % 4294967296+w then 1 else 0) u.tail d
def DN:Nat->Nat->List Nat->Nat
 |_,c,[]=>c
 |m,c,x::d=>DN m ((m*x+c) / 4294967296) d
def C3:Nat->Nat->Nat->List Nat->List Nat->Nat
 |_,_,w,_,[]=>w
 |m,c,w,u,x::d=>C3 m ((m*x+c) / 4294967296) (if u.headD 0<(m*x+c) % 4294967296+w then 1 else 0) u.tail d
theorem Ga:∀(m c w:Nat) (u d:List Nat),(Du m c w u d).length=d.length
 |_,_,_,_,[]=>rfl
 |m,c,w,u,x::d=>by rw[Du,ε,Ga,ε]
theorem NJ:∀(m c w:Nat) (u d:List Nat),w<=1->C3 m c w u d<=1
 |_,_,_,_,[],h=>h
 |m,c,w,u,x::d,h=>NJ m _ _ _ d (by split<;>omega)
theorem NH:∀(m c:Nat) (d:List Nat),m<4294967296->Limbs d->c<4294967296->DN m c d<4294967296
 |_,_,[],_,_,h=>h
 |m,c,x::d,hm,hd,hc=>by
  have h:=hd.cons;have:=JA hm h.1;exact NH m _ d hm h.2 (by omega)
theorem Hx:∀(m c w:Nat) (u d:List Nat),Limbs u->w<=1->Limbs (Du m c w u d)
 |_,_,_,_,[],_,_=>BG
 |m,c,w,u,x::d,hu,hw=>by
  have h1:=DZ hu;have h2:=AsJ (m*x+c) (show 0<4294967296 by omega);exact Bc (by split<;>omega) (Hx m _ _ _ d hu.tail (by split<;>omega))
theorem PA:∀(m c w:Nat) (u d:List Nat),Limbs u->w<=1->d.length<=u.length->
  Ad (Du m c w u d)+m*Ad d+c+w=Ad (u.take d.length)+4294967296 ^ d.length*(DN m c d+C3 m c w u d)
 |m,c,w,u,[],_,_,_=>by simp[Du,DN,C3,Ad]
 |m,c,w,u,x::d,hu,hw,hl=>by
  cases u with
  |nil=>simp at hl
  |cons y u=>
   have h1:=hu.cons;have h2:=AsJ (m*x+c) (show 0<4294967296 by omega);have ih:=PA m ((m*x+c) / 4294967296) (if y<(m*x+c) % 4294967296+w then 1 else 0) u d h1.2 (by split<;>omega) (by simpa using hl);rw[Du,DN,C3,Ad,ε,AtG,Ad,Ad,As7,AsF (4294967296 ^ d.length) 4294967296,Asp,Atg,AtB];have e:m*(x+4294967296*Ad d)=m*x+4294967296*(m*Ad d):=by
    rw[AsS,←Asp,AsF m 4294967296,Asp]
   rw[e];revert ih;generalize 4294967296 ^ d.length*(DN m ((m*x+c) / 4294967296) d+C3 m ((m*x+c) / 4294967296) (if y<(m*x+c) % 4294967296+w then 1 else 0) u d)=z;generalize Ad (Du m ((m*x+c) / 4294967296) (if y<(m*x+c) % 4294967296+w then 1 else 0) u d)=s;generalize m*x=mx at *;generalize m*Ad d=md;intro ih;split
   .rename_i h3
    rw[if_pos h3]at ih;omega
   .rename_i h3
    rw[if_neg h3]at ih;omega
def C4:Nat->List Nat->List Nat->List Nat
 |_,_,[]=>[]
 |c,u,x::d=>((u.headD 0+x+c) % 4294967296)::C4 ((u.headD 0+x+c) / 4294967296) u.tail d
def CK:Nat->List Nat->List Nat->Nat
 |c,_,[]=>c
 |c,u,x::d=>CK ((u.headD 0+x+c) / 4294967296) u.tail d
theorem Ej:∀(c:Nat) (u d:List Nat),(C4 c u d).length=d.length
 |_,_,[]=>rfl
 |c,u,x::d=>by rw[C4,ε,Ej,ε]
theorem Hy:∀(c:Nat) (u d:List Nat),Limbs (C4 c u d)
 |_,_,[]=>BG
 |c,u,x::d=>Bc (AsJ _ (by omega)) (Hy _ _ d)
theorem NL:∀(c:Nat) (u d:List Nat),Limbs u->Limbs d->c<=1->CK c u d<=1
 |_,_,[],_,_,h=>h
 |c,u,x::d,hu,hd,hc=>by
  have h1:=DZ hu;have h2:=hd.cons;exact NL _ u.tail d hu.tail h2.2 (by omega)
theorem PB:∀(c:Nat) (u d:List Nat),d.length<=u.length->Ad (C4 c u d)+4294967296 ^ d.length*CK c u d=c+Ad (u.take d.length)+Ad d
 |c,u,[],_=>by simp[C4,CK,Ad]
 |c,u,x::d,hl=>by
  cases u with
  |nil=>simp at hl
  |cons y u=>
   have ih:=PB ((y+x+c) / 4294967296) u d (by simpa using hl);rw[C4,CK,Ad,ε,AtG,Ad,Ad,As7,AsF (4294967296 ^ d.length) 4294967296,Asp,Atg,AtB];revert ih;generalize 4294967296 ^ d.length*CK ((y+x+c) / 4294967296) u d=z;generalize Ad (C4 ((y+x+c) / 4294967296) u d)=s;intro ih;omega
theorem YP{p s mv u ul t B:Nat}(ht:t<=B)(hul:ul<B)(h1:s+mv=u+p*t):s+p*((ul+B-t) % B)+mv=u+p*ul+(if ul<t then p*B else 0):=by
 by_cases h:ul<t
 .rw[if_pos h,As5 (by omega)]
  have e:p*(ul+B-t)+p*t=p*ul+p*B:=by
   rw[←AsS,show ul+B-t+t=ul+B by omega,AsS]
  omega
 .have e0:(ul+B-t) % B=ul-t:=by
   rw[show ul+B-t=(ul-t)+B by omega,Nat.add_mod_right,As5 (by omega)]
  rw[if_neg h,e0];have e:p*(ul-t)+p*t=p*ul:=by rw[←AsS,show ul-t+t=ul by omega]
  omega
theorem AaZ{u d:List Nat}{m ul:Nat}(hu:Limbs u)(hd:Limbs d)(hl:u.length=d.length)(hm:m<4294967296)(hul:ul<4294967296) :
  Ad (Du m 0 0 u d++[(ul+4294967296-(DN m 0 d+C3 m 0 0 u d)) % 4294967296])+m*Ad d=Ad (u++[ul])+(if ul<DN m 0 d+C3 m 0 0 u d then 4294967296 ^ (d.length+1) else 0):=by
 have h1:=PA m 0 0 u d hu (AsB _) (AvX hl.symm);have h2:=NH m 0 d hm hd (by decide);have h3:=NJ m 0 0 u d (AsB _);have ht:DN m 0 d+C3 m 0 0 u d<=4294967296:=by omega
 rw[AsW (AvX hl)]at h1;rw[BF,BF,Ga,hl,As7];have e:∀ x,Ad [x]=x:=λx=>by simp[Ad]
 rw[e,e];exact YP ht hul h1
theorem Aa4{u d:List Nat}{ul:Nat}(hu:Limbs u)(hd:Limbs d)(hl:u.length=d.length)(hul:ul<4294967296) :
  Ad (C4 0 u d++[(ul+CK 0 u d) % 4294967296])=(Ad (u++[ul])+Ad d) % 4294967296 ^ (d.length+1):=by
 have h1:=PB 0 u d (by omega);have h2:=NL 0 u d hu hd (by omega);have h3:=BK (CG (Hy 0 u d) (Bc (AsJ (ul+CK 0 u d) (show 0<4294967296 by omega)) BG));rw[List.length_append,Ej,List.length_singleton]at h3;rw[AsW (by omega)]at h1;rw[BF,Ej]at h3;rw[BF,BF,Ej];simp only[Ad,Au0,AsI,Nat.zero_add]at h1 h3 ⊢;rw[hl];have e:=AuD (ul+CK 0 u d) 4294967296;have e2:Ad u+4294967296 ^ d.length*ul+Ad d=Ad (C4 0 u d)+4294967296 ^ d.length*((ul+CK 0 u d) % 4294967296)+4294967296 ^ (d.length+1)*((ul+CK 0 u d) / 4294967296):=by
  have:4294967296 ^ d.length*(ul+CK 0 u d)=4294967296 ^ d.length*((ul+CK 0 u d) % 4294967296)+4294967296 ^ (d.length+1)*((ul+CK 0 u d) / 4294967296):=by
   rw[As7,Asp,←AsS]
   congr 1
   omega
  rw[AsS]at this;omega
 rw[e2,Nat.add_mul_mod_self_left,As5 h3]
theorem GL{a b:Int}(h:a=b){x y:KR}:br (Ae.eq a b) x y=x:=by rw[AoC,decide_eq_true h];rfl
theorem Bt{a b:Int}{x y z:KR}(g:x=z)(h: a=b:=by omega):br (Ae.eq a b) x y=z:=(GL h).trans g
theorem GK{a b:Int}(h:¬ a=b){x y:KR}:br (Ae.eq a b) x y=y:=by rw[AoC,decide_eq_false h];rfl
theorem Ba{a b:Int}{x y z:KR}(g:y=z)(h:¬ a=b:=by omega):br (Ae.eq a b) x y=z:=(GK h).trans g
theorem AeP{a b:ByteArray}(h:a=b){x y:KR}:br (Ae.seq a b) x y=x:=by rw[AoF,decide_eq_true h];rfl
theorem AhL{a b:ByteArray}{x y z:KR}(h: a=b)(g:x=z):br (Ae.seq a b) x y=z:=(AeP h).trans g
theorem Vs{a b:Int}(h:a<b){x y:KR}:br (Ae.lt a b) x y=x:=by rw[AoE,decide_eq_true h];rfl
theorem Ap{a b:Int}{x y z:KR}(g:x=z)(h: a<b:=by omega):br (Ae.lt a b) x y=z:=(Vs h).trans g
theorem Ek{a b:Int}(h:¬ a<b){x y:KR}:br (Ae.lt a b) x y=y:=by rw[AoE,decide_eq_false h];rfl
theorem Ak{a b:Int}{x y z:KR}(g:y=z)(h:¬ a<b:=by omega):br (Ae.lt a b) x y=z:=(Ek h).trans g
theorem Rr{a b:Int}(h:a<=b){x y:KR}:br (Ae.le a b) x y=x:=by rw[AoD,decide_eq_true h];rfl
theorem Cg{a b:Int}{x y z:KR}(g:x=z)(h: a≤b:=by omega):br (Ae.le a b) x y=z:=(Rr h).trans g
theorem Vr{a b:Int}(h:¬ a<=b){x y:KR}:br (Ae.le a b) x y=y:=by rw[AoD,decide_eq_false h];rfl
theorem CA{a b:Int}{x y z:KR}(g:y=z)(h:¬ a≤b:=by omega):br (Ae.le a b) x y=z:=(Vr h).trans g
section
open Go.RowKit
def XR:MFn:=AU [⟨21,(mB 9),[],[],[(1,((mB 9),([],[])))]⟩] 200
def TV:Hnt:=⟨[],[(0,[(1,([.ls,.int .i64],[]))])],[(12,[.int .u32]),(13,[.int .u32])]⟩
def AjY:MFn:=AU [] 202
def Aje:Hnt:=⟨[(200,(.ls,[])),(236,(.sl 0 1,[.row Δ]))],[],[]⟩
def AjU:MFn:=AU [] 184
def Aja:Hnt:=⟨[(202,(.ls,[]))],[],[]⟩
def XS:MFn:=AU [⟨49,(mB 35),[],[],[(0,((mB 16),([],[]))),(2,([],([],[])))]⟩] 201
def TW:Hnt:=⟨[(200,(.ls,[]))],[(0,[(0,([.int .i64],[])),(2,([],[]))])],[(32,[.int .u32]),(33,[.int .u32]),(36,[.int .u32]),(37,[.int .u32]),(42,[.int .u32]),(43,[.int .u32]),(46,[.int .u32]),(47,[.int .u32])]⟩
def XO:MFn:=AU [⟨61,(mB 234881122),[(5,1)],[],[(1,((mB 96),([],[])))]⟩] 197
def TT:Hnt:=⟨[(200,(.ls,[])),(202,(.ls,[]))],[(0,[(1,([.sl 1 1,.int .u64],[.del,.row Δ]))])],[(30,[.int .u32]),(31,[.int .u32]),(43,[.int .u32]),(44,[.int .u32])]⟩
def XP:MFn:=AU [⟨59,(mB 58720450),[(6,1)],[],[(1,((mB 64),([],[])))]⟩] 198
def TU:Hnt:=⟨[(200,(.ls,[])),(201,(.int .i64,[])),(202,(.ls,[]))],[(0,[(1,([.sl 1 1],[.del,.row Δ]))])],[(28,[.int .u32]),(29,[.int .u32]),(38,[.int .u32]),(39,[.int .u32])]⟩
def QF:MFn:=AU [⟨68,(mB 1835042),[],[],[(1,((mB 32),([],[])))]⟩,⟨68,(mB 236716514),[],[],[(3,((mB 1835362),([],[])))]⟩] 243
def Mp:Hnt:=⟨[(202,(.ls,[]))],[(0,[(1,([.sl 1 1],[.del,.row Δ]))]),(1,[(3,([.ls,.sl 1 1,.int .i64,.int .u64,.ls,.int .i64,.int .i64],[.del,.row Δ]))])],[(23,[.int .u32]),(24,[.int .u32]),(30,[.int .u32]),(31,[.int .u32]),(41,[.int .u32]),(42,[.int .u32]),(53,[.int .u32]),(64,[.int .u32])]⟩
def AjZ:MFn:=AU [] 212
def Ajf:Hnt:=⟨[(200,(.ls,[])),(243,(.ls,[])),(244,(.ls,[]))],[],[]⟩
def Hg:List (Nat × MFn):=[(200,XR),(202,AjY),(184,AjU),(201,XS),(197,XO),(198,XP),(243,QF),(212,AjZ)]
variable (A:Ar) (D:Orc)
theorem ApZ(x0:Rw):BY A D At TV .n 200 XR [Ψ x0] [] =
 Af D (ArW 200 0) [Ψ x0,iv ↑(Al x0)] [] [.t,.C,.x,.X,.Y] λc l o=>
 br (Bo 1 c)
 (dk [.L,.I,.N,.E] [.l l,.o o] λxs n=>
 unI n λi=>
 br (IJ 0 i (Al xs)) (br (CU 1 xs) (Θ ((Ψ (AP (AS xs i) 0),[]))) Ξ) Ξ)
 (Ξ):=by kernel_rfl
theorem Abt(t0:Rw)(t3:Int):Dy A D At TV .n 200 0 (AZ XR 0).fst (AZ XR 0).snd [Ψ t0,iv t3] [] =
 br (A.lt 0 t3)
 (unI (A.sub θ t3 1) λi=>
 BH t0 i λcs=>
 dk [.J .u32,.N] [.l cs] λn=>
 br (A.eq n 0)
 (AF D (ArW 200 0) [Ψ t0,iv (A.sub θ t3 1)] [] λr o=>
 AW 0 [] (AH.mk [] 0 Ξ) [] r o)
 (Θ ((ι [iv 0,Ψ t0,iv t3],[]))))
 (Θ ((ι [iv 0,Ψ t0,iv t3],[]))):=by kernel_rfl
theorem Ap1(x0:Rw):BY A D At Aje .n 202 AjY [Ψ x0] [] =
 Af D (ψ 200) [Ψ x0] [] [.l,.E] λxs=>
 Af D (ψ 236) [Ψ xs] [] [.q 0 1,.R,.X,.E] λn cs=>
 br ((0+n*1).ble cs.length) (Θ ((Ψ (Be n 1 (ArQ (n*1) cs)),[]))) Ξ:=by kernel_rfl
theorem ApR(x0:Int):BY A D At Aja .n 184 AjU [ArZ (Value.int Ω x0)] [] =
 br (A.lt 32 0)
 (Ξ)
 (Af D (ψ 202) [Ψ [[ArZ (Value.int ζ (A.conv ζ x0))],[ArZ (Value.int ζ (A.conv ζ (A.shr Ω x0 32)))]]] [] [.l,.E] λxs=>
 Θ ((Ψ xs,[]))):=by kernel_rfl
theorem Ap0(x0 x1:Rw):BY A D At TW .n 201 XS [Ψ x0,Ψ x1] [] =
 Af D (ψ 200) [Ψ x0] [] [.l,.E] λxs=>
 Af D (ψ 200) [Ψ x1] [] [.l,.E] λxs1=>
 br (A.lt ↑(Al xs) ↑(Al xs1))
 (Θ ((iv (-1),[])))
 (br (A.lt ↑(Al xs1) ↑(Al xs))
 (Θ ((iv 1,[])))
 (Af D (ArW 201 0) [Ψ xs,Ψ xs1,iv (A.sub θ (↑(Al xs)) 1)] [] [.t,.C,.x,.X,.Y] λc l o2=>
 br (Bo 0 c)
 (dk [.I,.N,.E] [.l l,.o o2] λn=>
 Θ ((iv n,[])))
 (br (Bo 2 c)
 (Fr l<|
 DE o2<|
 Θ ((iv 0,[])))
 (Ξ)))):=by kernel_rfl
theorem Abu(t0 t1:Rw)(t5:Int):Dy A D At TW .n 201 0 (AZ XS 0).fst (AZ XS 0).snd [Ψ t0,Ψ t1,iv t5] [] =
 br (A.le 0 t5)
 (unI t5 λi=>
 BH t0 i λcs=>
 dk [.J .u32,.N] [.l cs] λn=>
 unI t5 λi1=>
 BH t1 i1 λcs1=>
 dk [.J .u32,.N] [.l cs1] λn1=>
 br (A.lt n n1)
 (Θ ((ι [bv Δ,iv (-1)],[])))
 (unI t5 λi2=>
 BH t0 i2 λcs2=>
 dk [.J .u32,.N] [.l cs2] λn2=>
 unI t5 λi3=>
 BH t1 i3 λcs3=>
 dk [.J .u32,.N] [.l cs3] λn3=>
 br (A.lt n3 n2)
 (Θ ((ι [bv Δ,iv 1],[])))
 (AF D (ArW 201 0) [Ψ t0,Ψ t1,iv (A.sub θ t5 1)] [] λr o=>
 AW 0 [] (AH.mk [] 0 Ξ) [] r o)))
 (Θ ((ι [iv 1],[]))):=by kernel_rfl
theorem ApW(x0 x1:Rw):BY A D At TT .n 197 XO [Ψ x0,Ψ x1] [] =
 Af D (ψ 200) [Ψ x0] [] [.l,.E] λxs=>
 Af D (ψ 200) [Ψ x1] [] [.l,.E] λxs1=>
 br (A.lt ↑(Al xs) ↑(Al xs1))
 (unI (A.add θ (↑(Al xs1)) 1) λi=>
 br (Bj i 4) (AF D (ArW 197 0) [Ψ xs,χ 0 0 0 1,ArZ (Value.int Ω 0),Ψ xs1,iv ↑(Al xs1),iv 0] [δ [] Δ Δ] λr2 o2=>
 dk [.t,.C,.x,.X] [.v r2] λc l=>
 br (Bo 1 c)
 (dk [.C,.q 1 1,.J .u64,.N,.D,.R,.X,.E] [.l l,.o o2] λn n1 cs1=>
 br (Bj (n+1) 4) (br ((0+n*1).ble cs1.length) (br ((0+(n+1)*1).ble (ArV 0 (ArQ (0+n*1) cs1)++[ArZ (Value.int ζ (A.conv ζ n1))]).length) (AF D (ψ 202) [Ψ (Be (n+1) 1 (ArQ ((n+1)*1) (ArV 0 (ArV 0 (ArQ (0+n*1) cs1)++[ArZ (Value.int ζ (A.conv ζ n1))]))))] [] λr3 o3=>
 dk [.l,.E] [.v r3,.o o3] λxs2=>
 Θ ((Ψ xs2,[]))) Ξ) Ξ) Ξ)
 (Ξ)) Ξ)
 (unI (A.add θ (↑(Al xs)) 1) λi=>
 br (Bj i 4) (AF D (ArW 197 0) [Ψ xs1,χ 0 0 0 1,ArZ (Value.int Ω 0),Ψ xs,iv ↑(Al xs),iv 0] [δ [] Δ Δ] λr2 o2=>
 dk [.t,.C,.x,.X] [.v r2] λc l=>
 br (Bo 1 c)
 (dk [.C,.q 1 1,.J .u64,.N,.D,.R,.X,.E] [.l l,.o o2] λn n1 cs1=>
 br (Bj (n+1) 4) (br ((0+n*1).ble cs1.length) (br ((0+(n+1)*1).ble (ArV 0 (ArQ (0+n*1) cs1)++[ArZ (Value.int ζ (A.conv ζ n1))]).length) (AF D (ψ 202) [Ψ (Be (n+1) 1 (ArQ ((n+1)*1) (ArV 0 (ArV 0 (ArQ (0+n*1) cs1)++[ArZ (Value.int ζ (A.conv ζ n1))]))))] [] λr3 o3=>
 dk [.l,.E] [.v r3,.o o3] λxs2=>
 Θ ((Ψ xs2,[]))) Ξ) Ξ) Ξ)
 (Ξ)) Ξ):=by kernel_rfl
theorem Abr(t1:Rw)(n5:Nat)(c5:List AV)(t6:Int)(t25:Rw)(t26 t27:Int):Dy A D At TT .n 197 0 (AZ XO 0).fst (AZ XO 0).snd [Ψ t1,χ 0 0 n5 1,ArZ (Value.int Ω t6),Ψ t25,iv t26,iv t27] [{ cells:=c5,st:=Δ,ex:=Δ }] =
 br (A.lt t27 t26)
 (unI t27 λi=>
 BH t25 i λcs=>
 dk [.J .u32,.N] [.l cs] λn=>
 br (A.lt t27 ↑(Al t1))
 (unI t27 λi1=>
 BH t1 i1 λcs1=>
 dk [.J .u32,.N] [.l cs1] λn1=>
 br (Bj (n5+1) 4) (br ((0+n5*1).ble c5.length) (br (A.lt 32 0)
 (Ξ)
 (AF D (ArW 197 0) [Ψ t1,χ 0 0 (n5+1) 1,ArZ (Value.int Ω (A.shr Ω (A.add Ω (A.add Ω (A.conv Ω n) t6) (A.conv Ω n1)) 32)),Ψ t25,iv t26,iv (A.add θ t27 1)] [δ (ArV 0 (ArQ (0+n5*1) c5)++[ArZ (Value.int ζ (A.conv ζ (A.add Ω (A.add Ω (A.conv Ω n) t6) (A.conv Ω n1))))]) Δ Δ] λr o=>
 AW 1 [2] (AH.mk [(2,δ (ArV 0 (ArQ (0+n5*1) c5)++[ArZ (Value.int ζ (A.conv ζ (A.add Ω (A.add Ω (A.conv Ω n) t6) (A.conv Ω n1))))]) Δ Δ),(1,δ [ArZ (Value.int ζ (A.conv ζ (A.add Ω (A.add Ω (A.conv Ω n) t6) (A.conv Ω n1))))] Δ Δ)] 3 Ξ) [0] r o)) Ξ) Ξ)
 (br (Bj (n5+1) 4) (br ((0+n5*1).ble c5.length) (br (A.lt 32 0)
 (Ξ)
 (AF D (ArW 197 0) [Ψ t1,χ 0 0 (n5+1) 1,ArZ (Value.int Ω (A.shr Ω (A.add Ω (A.conv Ω n) t6) 32)),Ψ t25,iv t26,iv (A.add θ t27 1)] [δ (ArV 0 (ArQ (0+n5*1) c5)++[ArZ (Value.int ζ (A.conv ζ (A.add Ω (A.conv Ω n) t6)))]) Δ Δ] λr o=>
 AW 1 [2] (AH.mk [(2,δ (ArV 0 (ArQ (0+n5*1) c5)++[ArZ (Value.int ζ (A.conv ζ (A.add Ω (A.conv Ω n) t6)))]) Δ Δ),(1,δ [ArZ (Value.int ζ (A.conv ζ (A.add Ω (A.conv Ω n) t6)))] Δ Δ)] 3 Ξ) [0] r o)) Ξ) Ξ))
 (Θ ((ι [iv 0,χ 1 0 n5 1,ArZ (Value.int Ω t6)],[BO.del,ArU (δ c5 Δ Δ)]))):=by kernel_rfl
theorem ApX(x0 x1:Rw):BY A D At TU .n 198 XP [Ψ x0,Ψ x1] [] =
 Af D (ψ 200) [Ψ x0] [] [.l,.E] λxs=>
 Af D (ψ 200) [Ψ x1] [] [.l,.E] λxs1=>
 Af D (ψ 201) [Ψ xs,Ψ xs1] [] [.i,.E] λn=>
 br (A.lt n 0)
 (Θ ((ι [Ψ [],bv false],[])))
 (br (Bj (Al xs) 4) (AF D (ArW 198 0) [Ψ xs1,χ 0 0 0 1,ArZ (Value.int Ω 0),Ψ xs,iv ↑(Al xs),iv 0] [δ [] Δ Δ] λr3 o3=>
 dk [.t,.C,.x,.X] [.v r3] λc l=>
 br (Bo 1 c)
 (dk [.C,.q 1 1,.N,.D,.R,.X,.E] [.l l,.o o3] λn1 cs1=>
 br ((0+n1*1).ble cs1.length) (AF D (ψ 202) [Ψ (Be n1 1 (ArQ (n1*1) cs1))] [] λr4 o4=>
 Mb r4 λxs2=>
 DE o4<|
 Θ ((ι [Ψ xs2,bv Δ],[]))) Ξ)
 (Ξ)) Ξ):=by kernel_rfl
theorem Abs(t1:Rw)(n6:Nat)(c6:List AV)(t7:Int)(t23:Rw)(t24 t25:Int):Dy A D At TU .n 198 0 (AZ XP 0).fst (AZ XP 0).snd [Ψ t1,χ 0 0 n6 1,ArZ (Value.int Ω t7),Ψ t23,iv t24,iv t25] [{ cells:=c6,st:=Δ,ex:=Δ }] =
 br (A.lt t25 t24)
 (unI t25 λi=>
 BH t23 i λcs=>
 dk [.J .u32,.N] [.l cs] λn=>
 br (A.lt t25 ↑(Al t1))
 (unI t25 λi1=>
 BH t1 i1 λcs1=>
 dk [.J .u32,.N] [.l cs1] λn1=>
 br (A.lt (A.conv Ω n) (A.add Ω t7 (A.conv Ω n1)))
 (br (Bj (n6+1) 4) (br ((0+n6*1).ble c6.length) (AF D (ArW 198 0) [Ψ t1,χ 0 0 (n6+1) 1,ArZ (Value.int Ω 1),Ψ t23,iv t24,iv (A.add θ t25 1)] [δ (ArV 0 (ArQ (0+n6*1) c6)++[ArZ (Value.int ζ (A.conv ζ (A.sub Ω (A.add Ω (A.conv Ω n) 4294967296) (A.add Ω t7 (A.conv Ω n1)))))]) Δ Δ] λr o=>
 AW 1 [2] (AH.mk [(2,δ (ArV 0 (ArQ (0+n6*1) c6)++[ArZ (Value.int ζ (A.conv ζ (A.sub Ω (A.add Ω (A.conv Ω n) 4294967296) (A.add Ω t7 (A.conv Ω n1)))))]) Δ Δ),(1,δ [ArZ (Value.int ζ (A.conv ζ (A.sub Ω (A.add Ω (A.conv Ω n) 4294967296) (A.add Ω t7 (A.conv Ω n1)))))] Δ Δ)] 3 Ξ) [0] r o) Ξ) Ξ)
 (br (Bj (n6+1) 4) (br ((0+n6*1).ble c6.length) (AF D (ArW 198 0) [Ψ t1,χ 0 0 (n6+1) 1,ArZ (Value.int Ω 0),Ψ t23,iv t24,iv (A.add θ t25 1)] [δ (ArV 0 (ArQ (0+n6*1) c6)++[ArZ (Value.int ζ (A.conv ζ (A.sub Ω (A.conv Ω n) (A.add Ω t7 (A.conv Ω n1)))))]) Δ Δ] λr o=>
 AW 1 [2] (AH.mk [(2,δ (ArV 0 (ArQ (0+n6*1) c6)++[ArZ (Value.int ζ (A.conv ζ (A.sub Ω (A.conv Ω n) (A.add Ω t7 (A.conv Ω n1)))))]) Δ Δ),(1,δ [ArZ (Value.int ζ (A.conv ζ (A.sub Ω (A.conv Ω n) (A.add Ω t7 (A.conv Ω n1)))))] Δ Δ)] 3 Ξ) [0] r o) Ξ) Ξ))
 (br (A.lt (A.conv Ω n) t7)
 (br (Bj (n6+1) 4) (br ((0+n6*1).ble c6.length) (AF D (ArW 198 0) [Ψ t1,χ 0 0 (n6+1) 1,ArZ (Value.int Ω 1),Ψ t23,iv t24,iv (A.add θ t25 1)] [δ (ArV 0 (ArQ (0+n6*1) c6)++[ArZ (Value.int ζ (A.conv ζ (A.sub Ω (A.add Ω (A.conv Ω n) 4294967296) t7)))]) Δ Δ] λr o=>
 AW 1 [2] (AH.mk [(2,δ (ArV 0 (ArQ (0+n6*1) c6)++[ArZ (Value.int ζ (A.conv ζ (A.sub Ω (A.add Ω (A.conv Ω n) 4294967296) t7)))]) Δ Δ),(1,δ [ArZ (Value.int ζ (A.conv ζ (A.sub Ω (A.add Ω (A.conv Ω n) 4294967296) t7)))] Δ Δ)] 3 Ξ) [0] r o) Ξ) Ξ)
 (br (Bj (n6+1) 4) (br ((0+n6*1).ble c6.length) (AF D (ArW 198 0) [Ψ t1,χ 0 0 (n6+1) 1,ArZ (Value.int Ω 0),Ψ t23,iv t24,iv (A.add θ t25 1)] [δ (ArV 0 (ArQ (0+n6*1) c6)++[ArZ (Value.int ζ (A.conv ζ (A.sub Ω (A.conv Ω n) t7)))]) Δ Δ] λr o=>
 AW 1 [2] (AH.mk [(2,δ (ArV 0 (ArQ (0+n6*1) c6)++[ArZ (Value.int ζ (A.conv ζ (A.sub Ω (A.conv Ω n) t7)))]) Δ Δ),(1,δ [ArZ (Value.int ζ (A.conv ζ (A.sub Ω (A.conv Ω n) t7)))] Δ Δ)] 3 Ξ) [0] r o) Ξ) Ξ)))
 (Θ ((ι [iv 0,χ 1 0 n6 1],[BO.del,ArU (δ c6 Δ Δ)]))):=by kernel_rfl
theorem Ap9(x0 x1:Rw):BY A D At Mp .n 243 QF [Ψ x0,Ψ x1] [] =
 unI (A.add θ ↑(Al x0) ↑(Al x1)) λi=>
 unI (A.add θ ↑(Al x0) ↑(Al x1)) λi1=>
 br (i.ble i1) (br (Bj i1 4) (AF D (ArW 243 0) [Ψ x1,χ 0 0 i 1,Ψ x0,iv ↑(Al x0),iv 0] [δ (BQ [ArZ (Value.int ζ 0)] (i*1)) Δ Δ] λr o=>
 dk [.t,.C,.x,.X] [.v r] λc l=>
 br (Bo 1 c)
 (dk [.C,.q 1 1,.N,.D,.R,.X,.E] [.l l,.o o] λn cs1=>
 br ((0+n*1).ble cs1.length) (AF D (ψ 202) [Ψ (Be n 1 (ArQ (n*1) cs1))] [] λr1 o1=>
 Mb r1 λxs=>
 DE o1<|
 Θ ((Ψ xs,[]))) Ξ)
 (Ξ)) Ξ) Ξ:=by kernel_rfl
theorem AbC(t1:Rw)(n5:Nat)(c5:List AV)(t18:Rw)(t19 t20:Int):Dy A D At Mp .n 243 0 (AZ QF 0).fst (AZ QF 0).snd [Ψ t1,χ 0 0 n5 1,Ψ t18,iv t19,iv t20] [{ cells:=c5,st:=Δ,ex:=Δ }] =
 br (A.lt t20 t19)
 (unI t20 λi=>
 BH t18 i λcs=>
 dk [.J .u32,.N] [.l cs] λn=>
 Af D (ArW 243 1) [Ψ t1,χ 0 0 n5 1,iv t20,ArZ (Value.int ζ n),ArZ (Value.int Ω 0),Ψ t18,iv t19,iv t20,Ψ t1,iv ↑(Al t1),iv 0] [δ c5 Δ Δ] [.t,.C,.x,.X,.Y] λc l1 o=>
 br (Bo 3 c)
 (dk [.L,.C,.q 1 1,.I,.J .u64,.L,.I,.I,.N,.D,.R,.X,.E] [.l l1,.o o] λxs n1 n2 n3 xs1 n4 n6 cs2=>
 unI (A.add θ n2 ↑(Al xs)) λi1=>
 br (i1.blt n1) (br ((0+i1*1+1).ble cs2.length) (AF D (ArW 243 0) [Ψ xs,χ 0 0 n1 1,Ψ xs1,iv n4,iv (A.add θ n6 1)] [δ (AD cs2 (0+i1*1) [ArZ (Value.int ζ (A.conv ζ n3))]) Δ Δ] λr1 o1=>
 AW 1 [1] (AH.mk [(1,δ (AD cs2 (0+i1*1) [ArZ (Value.int ζ (A.conv ζ n3))]) Δ Δ)] 2 Ξ) [0] r1 o1) Ξ) Ξ)
 (Ξ))
 (Θ ((ι [iv 0,χ 1 0 n5 1],[BO.del,ArU (δ c5 Δ Δ)]))):=by kernel_rfl
theorem AbD(t1:Rw)(n5:Nat)(c5:List AV)(t6 t7 t8:Int)(t18:Rw)(t19 t20:Int)(t25:Rw)(t26 t27:Int):Dy A D At Mp .n 243 1 (AZ QF 1).fst (AZ QF 1).snd [Ψ t1,χ 0 0 n5 1,iv t6,ArZ (Value.int ζ t7),ArZ (Value.int Ω t8),Ψ t18,iv t19,iv t20,Ψ t25,iv t26,iv t27] [{ cells:=c5,st:=Δ,ex:=Δ }] =
 br (A.lt t27 t26)
 (unI t27 λi=>
 BH t25 i λcs=>
 dk [.J .u32,.N] [.l cs] λn=>
 unI (A.add θ t6 t27) λi1=>
 br (i1.blt n5) (EX c5 (0+i1*1) 1 λcs1=>
 dk [.J .u32,.N] [.l cs1] λn1=>
 unI (A.add θ t6 t27) λi2=>
 br (i2.blt n5) (br ((0+i2*1+1).ble c5.length) (br (A.lt 32 0)
 (Ξ)
 (AF D (ArW 243 1) [Ψ t1,χ 0 0 n5 1,iv t6,ArZ (Value.int ζ t7),ArZ (Value.int Ω (A.shr Ω (A.add Ω (A.add Ω (A.mul Ω (A.conv Ω t7) (A.conv Ω n)) (A.conv Ω n1)) t8) 32)),Ψ t18,iv t19,iv t20,Ψ t25,iv t26,iv (A.add θ t27 1)] [δ (AD c5 (0+i2*1) [ArZ (Value.int ζ (A.conv ζ (A.add Ω (A.add Ω (A.mul Ω (A.conv Ω t7) (A.conv Ω n)) (A.conv Ω n1)) t8)))]) Δ Δ] λr o=>
 AW 1 [0] (AH.mk [(0,δ (AD c5 (0+i2*1) [ArZ (Value.int ζ (A.conv ζ (A.add Ω (A.add Ω (A.mul Ω (A.conv Ω t7) (A.conv Ω n)) (A.conv Ω n1)) t8)))]) Δ Δ)] 1 Ξ) [0] r o)) Ξ) Ξ) Ξ)
 (Θ ((ι [iv 2,Ψ t1,χ 1 0 n5 1,iv t6,ArZ (Value.int Ω t8),Ψ t18,iv t19,iv t20],[BO.del,ArU (δ c5 Δ Δ)]))):=by kernel_rfl
theorem Ap4(x0 x1:Rw):BY A D At Ajf .n 212 AjZ [Ψ x0,Ψ x1] [] =
 Af D (ψ 200) [Ψ x0] [] [.l,.E] λxs=>
 Af D (ψ 200) [Ψ x1] [] [.l,.E] λxs1=>
 br (A.lt (↑(Al xs)) 24)
 (Af D (ψ 243) [Ψ xs,Ψ xs1] [] [.l,.E] λxs2=>
 Θ ((Ψ xs2,[])))
 (br (A.lt (↑(Al xs1)) 24)
 (Af D (ψ 243) [Ψ xs,Ψ xs1] [] [.l,.E] λxs2=>
 Θ ((Ψ xs2,[])))
 (Af D (ψ 244) [Ψ xs,Ψ xs1] [] [.l,.E] λxs2=>
 Θ ((Ψ xs2,[])))):=by kernel_rfl
end
theorem Vo{B:Nat}{W w:World}(h:Below B W w):Below B W w.drew:=h.drew
theorem GJ{w w':World}(h:Below w.drew.heap.size w.drew w'):Below w.heap.size w w':=⟨h.os,h.tape,h.output,h.size,h.block⟩
theorem Ce{W w w':World}(h:Below W.heap.size W w)(hb:Below w.heap.size w w'):Below W.heap.size W w':=h.trans (hb.mono h.size)
theorem Bb(w:World)(o:Obj):Below w.heap.size w (w.alloc o):=(Below.refl _ _).alloc (κ _) o
def Blk(w:World)(g:Nat)(t:TypeId)(cs:Array Value):Prop:=w.heap[g]? = Θ (.cells cs t (0,0))
section
variable {w w':World} {g:Nat} {t:TypeId} {cs:Array Value}
theorem Blk.lt(h:Blk w g t cs):g<w.heap.size:=by
 rcases Asu g w.heap.size with hlt|hge
 .exact hlt
 .unfold Blk at h;rw[Array.getElem?_eq_none hge]at h;cases h
theorem Blk.cell(h:Blk w g t cs)(i:Nat):w.cell? ⟨g,i,Ξ⟩=cs[i]?:=cell_of_row w g i cs t (0,0) h
theorem Blk.frozen(h:Blk w g t cs)(i:Nat):w.frozen? ⟨g,i,Ξ⟩=false:=by
 unfold Blk at h;simp[World.frozen?,h]
theorem Blk.new(w:World)(t:TypeId)(cs:Array Value):Blk (w.alloc (.cells cs t)) w.heap.size t cs:=heap_alloc_new w _
theorem Blk.drew(h:Blk w g t cs):Blk w.drew g t cs:=h
theorem Blk.alloc(h:Blk w g t cs)(o:Obj):Blk (w.alloc o) g t cs:=(Below.heap_alloc w o g h.lt).trans h
theorem Blk.set_(h:Blk w g t cs)(i:Nat)(u:Value):Blk (w.setCell ⟨g,i,Ξ⟩ u) g t (cs.setIfInBounds i u):=by
 unfold Blk at h ⊢;simp[World.setCell,Array.getElem?_modify,h]
theorem Blk.far(h:Blk w g t cs){p:Addr}(hp:g≠p.block)(u:Value):Blk (w.setCell p u) g t cs:=(Below.heap_setCell w p u g hp).trans h
theorem Blk.below{B:Nat}(h:Blk w g t cs)(hb:Below B w w')(hg:g<B):Blk w' g t cs:=(hb.block g hg).trans h
theorem Blk.call(h:Blk w g t cs)(hb:Below w.heap.size w w'):Blk w' g t cs:=h.below hb h.lt
end
def Own(w:World)(B g:Nat)(t:TypeId)(v:Value)(cs:Array Value):Prop:=B<=g/\v=.pointer (Θ ⟨g,0,Ξ⟩)/\Blk w g t cs
section
variable {w w':World} {B g:Nat} {t:TypeId} {v:Value} {cs:Array Value}
theorem Own.call(h:Own w B g t v cs)(hb:Below w.heap.size w w'):Own w' B g t v cs:=⟨h.1,h.2.1,h.2.2.call hb⟩
end
def pick{α:Type}(d:Bool)(x y:α):α:=match d with|true=>x|false=>y
section
variable {w w':World} {base base' e size n:Nat} {v:Value} {xs:List Value}
theorem Oj{row:Option Nat}(hb:Below w.heap.size w w'):w.grownBy w' row:=⟨hb.os,hb.tape,hb.output,hb.size,λk hk _=>hb.block k hk⟩
theorem Uz(h:w.ownsRow base e size v n xs)(hb:Below w.heap.size w w'):w'.ownsRow base e size v n xs:=h.kept (row:=Ξ) (Oj hb) (by cases hv:v.ownBlock<;>simp)
theorem Gq(h:w.ownsRow base e size v n xs):∃ A c,v=.slice A n c:=by
 rcases h.2 with⟨h1,h0⟩|⟨g,cap,cur,h1,_⟩
 .exact⟨Ξ,0,by rw[h1,h0]⟩
 .exact⟨_,_,h1⟩
end
