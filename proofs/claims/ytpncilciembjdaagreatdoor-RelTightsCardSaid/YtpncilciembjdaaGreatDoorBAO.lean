/- Seats of D: contracts fr -/
import Derived.Test.YtpncilciembjdaaGreatDoorBAN
import Derived.Test.YtpncilciembjdaaGreatDoorChecked
import Derived.WalkKit
import Derived.WalkSpells
import Derived.WalkLawsBesides
import Derived.Deep.Draws
import Derived.Lib.Hide
set_option linter.all false
open List renaming all_eq_true->Apd,drop->ι,getElem?_cons_succ->Apu,headD_cons->Aqp,length_cons->π,length_eq_zero_iff->Ar5,mem_cons->Aph,tail_cons->AqF,take->κ,take_of_length_le->ApZ,take_succ_cons->AqI
open Nat renaming add_mul->ApA,add_zero->ApJ,beq->ApE,div_add_mod->ArH,le_of_eq->As0,le_refl->φ,lt_or_ge->Apw,mod_eq_of_lt->Ap1,mod_lt->ApI,mul_add->ApW,mul_assoc->Apo,mul_comm->ApD,mul_le_mul_left->AqC,mul_le_mul_right->Apj,mul_zero->Arl,one_mul->Aqi,pow_le_pow_right->Aqf,pow_succ->ApU,strongRecOn->Aqv,zero_le->ApM
namespace Go.Proofs.YtpncilciembjdaaGreatDoor
noncomputable section
open ABlk renaming mk->Ξ
open AV renaming ls->Δ,sl->ζ,tup->ν,v->Apc
open BO renaming set->ο
open IntKind renaming i64->Φ,u32->ξ,u64->Θ
open Key renaming fn->θ,lp->γ
open Go.RowKit
def Amd:List AV->Option AV
 |[.v (.string s)]=>if s.size<=9223372036854775807 then some (bv (AlF s.data.toList)) else none
 |_=>none
def Aa5(res:List AV->Option AV):DF:=λargs bs=>match bs with
 |[]=>(res args).map λr=>(r,[])
 |_=>none
def BI(P:Program)(ents:Nat):List (Nat × MFn)->Prop
 |[]=>True
 |p::r=>(∃ hs a b,p.2=P6 P ents hs a b p.1)/\YJ P p.1=true/\BI P ents r
theorem Dm{P:Program}{ents:Nat}:∀{L:List (Nat × MFn)},BI P ents L->∀ f mf,(f,mf)∈L->FnOk P ents f mf
 |p::r,⟨⟨hs,a,b,h1⟩,h2,h3⟩,f,mf,hm=>by
  rcases Aph.1 hm with rfl|hm
  .have h1:mf=_:=h1
   rw[h1];exact Aa8 h2
  .exact Dm h3 f mf hm
theorem Bn{P:Program}{ents:Nat}:∀{L L':List (Nat × MFn)},BI P ents L->BI P ents L'->BI P ents (L++L')
 |[],_,_,h=>h
 |_::_,_,⟨h1,h2,h3⟩,h=>⟨h1,h2,Bn h3 h⟩
def XG(P:Program)(ents n:Nat):Bool:=Nat.blt ents (2 ^ n)&&(List.range n).all λg=>!ents.testBit g||Fo P g
theorem ED{P:Program}{ents n:Nat}(h:XG P ents n=true):Ex P ents:=by
 unfold XG at h;rw[Bool.and_eq_true]at h;intro g hg;have hn:ents<2 ^ n:=Nat.blt_eq.mp h.1
 by_cases hgn:g<n
 .have:=Apd.1 h.2 g (List.mem_range.2 hgn)
  rw[hg]at this;simpa using this
 .have:ents<2 ^ g:=Nat.lt_of_lt_of_le hn (Aqf (by decide) (by omega))
  rw[Nat.testBit_lt_two_pow this]at hg
  cases hg
theorem Md{α:Type}{f:Nat}:∀{A B:List (Nat × α)},Cp f (A++B)=match Cp f A with
  |some a=>some a
  |none=>Cp f B
 |[],_=>rfl
 |(m,b)::r,B=>by
  have ih:=Md (f:=f) (A:=r) (B:=B)
  show (match ApE f m with
   |true=>some b
   |false=>Cp f (r++B))=match (match ApE f m with
   |true=>some b
   |false=>Cp f r) with
   |some a=>some a
   |none=>Cp f B
  cases ApE f m with
  |true=>rfl
  |false=>exact ih
def Ahi(A B:List (Nat × MFn)):Bool:=B.all λp=>(Cp p.1 A).isNone
theorem Ac{A B:List (Nat × MFn)}(h:Ahi A B=true){f:Nat}{mf:MFn}(hf:Cp f B=some mf):Cp f (A++B)=some mf:=by
 have:=Apd.1 h _ (BN hf);have h0:Cp f A=none:=Option.isNone_iff_eq_none.1 this;rw[Md,h0];exact hf
theorem Br{A B:List (Nat × MFn)}{f:Nat}{mf:MFn}(hf:Cp f A=some mf):Cp f (A++B)=some mf:=by
 rw[Md,hf]
def Ad:List Nat->Nat
 |[]=>0
 |x::r=>x+4294967296*Ad r
def Limbs(l:List Nat):Prop:=∀ x∈l,x<4294967296
def Ah(n:Nat):List Nat:=if n=0 then [] else(n % 4294967296)::Ah (n / 4294967296)
termination_by n
decreasing_by omega
theorem Cb:Ah 0=[]:=by rw[Ah];rfl
theorem Da{n:Nat}(h:n≠0):Ah n=(n % 4294967296)::Ah (n / 4294967296):=by rw[Ah,if_neg h]
theorem Al:∀(n:Nat),Limbs (Ah n):=by
 intro n
 induction n using Aqv with
 |ind n ih=>
  by_cases h:n=0
  .subst h;rw[Cb];intro x hx;cases hx
  .rw[Da h]
   intro x hx;rcases Aph.1 hx with rfl|hx
   .exact ApI _ (by omega)
   .exact ih (n / 4294967296) (by omega) x hx
theorem Ax:∀(n:Nat),Ad (Ah n)=n:=by
 intro n
 induction n using Aqv with
 |ind n ih=>
  by_cases h:n=0
  .subst h;rw[Cb];rfl
  .rw[Da h,Ad,ih (n / 4294967296) (by omega)]
   omega
theorem Q8{n:Nat}:Ah n=[] ↔ n=0:=by
 constructor
 .intro h
  have:=Ax n;rw[h]at this;exact this.symm
 .rintro rfl;exact Cb
def Cm:List Nat->Nat
 |[]=>0
 |x::r=>if Cm r=0/\x=0 then 0 else Cm r+1
theorem BZ:∀ l:List Nat,Cm l<=l.length
 |[]=>φ _
 |x::r=>by
  have:=BZ r;unfold Cm;rw[π];split<;>omega
theorem Limbs.cons{x:Nat}{r:List Nat}(h:Limbs (x::r)):x<4294967296/\Limbs r:=⟨h x (List.mem_cons_self ..),λy hy=>h y (List.mem_cons_of_mem _ hy)⟩
theorem Bz:Limbs []:=λ_ h=>by cases h
theorem A5{x:Nat}{r:List Nat}(h:x<4294967296)(h2:Limbs r):Limbs (x::r):=λy hy=>by
 rcases Aph.1 hy with rfl|hy
 .exact h
 .exact h2 y hy
theorem Cr{a b:List Nat}(h:Limbs a)(h2:Limbs b):Limbs (a++b):=λx hx=>by
 rcases List.mem_append.1 hx with hx|hx
 .exact h x hx
 .exact h2 x hx
theorem Limbs.take{l:List Nat}(h:Limbs l)(n:Nat):Limbs (l.take n):=λx hx=>h x (List.mem_of_mem_take hx)
theorem Limbs.drop{l:List Nat}(h:Limbs l)(n:Nat):Limbs (l.drop n):=λx hx=>h x (List.mem_of_mem_drop hx)
theorem Limbs.get{l:List Nat}(h:Limbs l){i:Nat}(hi:i<l.length):l[i]<4294967296:=h _ (List.getElem_mem hi)
theorem ZP:∀{l:List Nat},Cm l=0->Ad l=0
 |[],_=>rfl
 |x::r,h=>by
  unfold Cm at h;split at h
  .rename_i h2
   rw[Ad,ZP h2.1,h2.2]
  .omega
theorem ZV:∀{l:List Nat},Ad l=0->Cm l=0
 |[],_=>rfl
 |x::r,h=>by
  rw[Ad]at h;unfold Cm;rw[if_pos ⟨ZV (by omega),by omega⟩]
theorem GV:∀{l:List Nat},Limbs l->l.take (Cm l)=Ah (Ad l)
 |[],_=>by rw[Ad,Cb];rfl
 |x::r,h=>by
  obtain⟨h1,h2⟩:=h.cons;have ih:=GV h2;unfold Cm;split
  .rename_i h3
   rw[List.take_zero,Ad,ZP h3.1,h3.2,Cb]
  .rename_i h3
   have h0:Ad (x::r)≠0:=by
    intro h0;rw[Ad]at h0;exact h3 ⟨ZV (by omega),by omega⟩
   rw[AqI,Da h0,Ad];have e1:(x+4294967296*Ad r) % 4294967296=x:=by omega
   have e2:(x+4294967296*Ad r) / 4294967296=Ad r:=by omega
   rw[e1,e2,ih]
theorem Bw:∀(a b:List Nat),Ad (a++b)=Ad a+4294967296 ^ a.length*Ad b
 |[],b=>by simp[Ad]
 |x::r,b=>by
  rw[List.cons_append,Ad,Bw r b,Ad,π,ApU,ApW,←Apo,ApD 4294967296 (4294967296 ^ r.length)];omega
theorem Bm:∀{l:List Nat},Limbs l->Ad l<4294967296 ^ l.length
 |[],_=>by simp[Ad]
 |x::r,h=>by
  obtain⟨h1,h2⟩:=h.cons;have:=Bm h2;rw[Ad,π,ApU];omega
theorem Cs(l:List Nat)(h:Limbs l):(Ah (Ad l)).length=Cm l:=by
 rw[←GV h,List.length_take];have:=BZ l;omega
theorem A1{n k:Nat}(h:n<4294967296 ^ k):(Ah n).length<=k:=by
 induction k generalizing n with
 |zero=>
  have:n=0:=by simpa using h
  subst this;rw[Cb];exact φ _
 |succ k ih=>
  by_cases h0:n=0
  .subst h0;rw[Cb];exact ApM _
  .rw[Da h0,π]
   have:n / 4294967296<4294967296 ^ k:=by
    rw[Nat.div_lt_iff_lt_mul (by omega)];rw[ApU]at h;exact h
   have:=ih this;omega
theorem GD{n k:Nat}(h:4294967296 ^ k<=n):k<(Ah n).length:=by
 by_cases h2:k<(Ah n).length
 .exact h2
 .have h3:=Bm (Al n)
  rw[Ax]at h3;have h4:4294967296 ^ (Ah n).length<=4294967296 ^ k:=Aqf (by omega) (by omega);omega
theorem Oz:∀{l:List Nat},0<Cm l->∃ x,l[Cm l-1]? = some x/\x≠0
 |[],h=>by simp[Cm]at h
 |y::r,h=>by
  by_cases h1:Cm r=0
  .have h2:y≠0:=by
    intro h2;unfold Cm at h;rw[if_pos ⟨h1,h2⟩]at h;omega
   refine⟨y,?_,h2⟩;unfold Cm;rw[if_neg (λe=>h2 e.2),h1];rfl
  .obtain⟨x,h3,h4⟩:=Oz (l:=r) (by omega)
   refine⟨x,?_,h4⟩;unfold Cm;rw[if_neg (λe=>h1 e.1)];have:Cm r+1-1=(Cm r-1)+1:=by omega
   rw[this,Apu,h3]
theorem Lv:∀{l:List Nat} {i x:Nat},l[i]? = some x->x≠0->i<Cm l
 |[],i,x,h,_=>by simp at h
 |y::r,0,x,h,h2=>by
  have h:y=x:=by simpa using h
  unfold Cm;rw[if_neg (λe=>h2 (by rw[←h];exact e.2))];omega
 |y::r,i+1,x,h,h2=>by
  rw[Apu]at h;have:=Lv h h2;unfold Cm;rw[if_neg (λe=>by omega)];omega
theorem JO{l:List Nat}{n:Nat}(h:Cm l<=n+1)(h2:l[n]? = some 0):Cm l<=n:=by
 by_cases h3:Cm l=n+1
 .obtain⟨x,h4,h5⟩:=Oz (l:=l) (by omega)
  rw[h3,Nat.add_sub_cancel,h2]at h4;injection h4 with h4
  exact absurd h4.symm h5
 .omega
def eL(n:Nat):List AV:=[.v (.int .u32 (n:Int))]
def eN(l:List Nat):AV:=.ls (l.map eL)
theorem AA(x:Nat):(eL x).length=1:=rfl
def Ji:Nat->List Nat->List Nat->List Nat
 |c,[],_=>[c]
 |c,x::a,b=>((x+b.headD 0+c) % 4294967296)::Ji ((x+b.headD 0+c) / 4294967296) a b.tail
theorem DB{b:List Nat}(h:Limbs b):b.headD 0<4294967296:=by
 cases b with
 |nil=>simp
 |cons y b=>exact h.cons.1
theorem Limbs.tail{b:List Nat}(h:Limbs b):Limbs b.tail:=by
 cases b with
 |nil=>exact h
 |cons y b=>exact h.cons.2
theorem F5(b:List Nat):Ad b=b.headD 0+4294967296*Ad b.tail:=by
 cases b<;>rfl
theorem JS:∀(a b:List Nat) (c:Nat),b.length<=a.length->Ad (Ji c a b)=c+Ad a+Ad b
 |[],b,c,h=>by
  obtain rfl:b=[]:=Ar5.1 (by simpa using h);simp[Ji,Ad]
 |x::a,b,c,h=>by
  have ih:=JS a b.tail ((x+b.headD 0+c) / 4294967296) (by simp at h ⊢;omega);rw[Ji,Ad,ih,Ad,F5 b];omega
theorem HI:∀(a b:List Nat) (c:Nat),Limbs a->Limbs b->c<=1->Limbs (Ji c a b)
 |[],b,c,_,_,hc=>A5 (by omega) Bz
 |x::a,b,c,ha,hb,hc=>by
  have h1:=DB hb;have h2:=ha.cons;exact A5 (ApI _ (by omega)) (HI a b.tail _ h2.2 hb.tail (by omega))
def KX:Nat->Nat->List Nat->List Nat->List Nat
 |0,_,_,_=>[]
 |k+1,c,a,b=>((a.headD 0+b.headD 0+c) % 4294967296)::KX k ((a.headD 0+b.headD 0+c) / 4294967296) a.tail b.tail
theorem OE:∀(k c:Nat) (a b:List Nat),Ad (KX k c a b)=(c+Ad a+Ad b) % 4294967296 ^ k
 |0,c,a,b=>by simp[KX,Ad,Nat.mod_one]
 |k+1,c,a,b=>by
  have ih:=OE k ((a.headD 0+b.headD 0+c) / 4294967296) a.tail b.tail;rw[KX,Ad,ih,F5 a,F5 b,ApU,ApD (4294967296 ^ k) 4294967296,Nat.mod_mul];have e1:(c+(a.headD 0+4294967296*Ad a.tail)+(b.headD 0+4294967296*Ad b.tail)) % 4294967296=(a.headD 0+b.headD 0+c) % 4294967296:=by omega
  have e2:(c+(a.headD 0+4294967296*Ad a.tail)+(b.headD 0+4294967296*Ad b.tail)) / 4294967296=(a.headD 0+b.headD 0+c) / 4294967296+Ad a.tail+Ad b.tail:=by omega
  rw[e1,e2]
theorem LA:∀(k c:Nat) (a b:List Nat),Limbs (KX k c a b)
 |0,_,_,_=>Bz
 |k+1,c,a,b=>A5 (ApI _ (by omega)) (LA k _ _ _)
def FV:Nat->List Nat->List Nat->List Nat
 |_,[],_=>[]
 |c,x::a,b=>(if x<b.headD 0+c then x+4294967296-(b.headD 0+c) else x-(b.headD 0+c))::FV (if x<b.headD 0+c then 1 else 0) a b.tail
def PU:Nat->List Nat->List Nat->Nat
 |c,[],_=>c
 |c,x::a,b=>PU (if x<b.headD 0+c then 1 else 0) a b.tail
theorem UI:∀(a b:List Nat) (c:Nat),c<=1->PU c a b<=1
 |[],_,_,h=>h
 |x::a,b,c,h=>UI a b.tail _ (by split<;>omega)
theorem OH:∀(a b:List Nat) (c:Nat),Limbs a->Limbs b->c<=1->b.length<=a.length->Ad (FV c a b)+Ad b+c=Ad a+4294967296 ^ a.length*PU c a b
 |[],b,c,_,_,_,h=>by
  obtain rfl:b=[]:=Ar5.1 (by simpa using h);simp[FV,PU,Ad]
 |x::a,b,c,ha,hb,hc,h=>by
  have h1:=DB hb;have h2:=ha.cons;rw[FV,PU,Ad,Ad,F5 b,π,ApU];have ih:=OH a b.tail (if x<b.headD 0+c then 1 else 0) h2.2 hb.tail (by split<;>omega) (by simp at h ⊢;omega);rw[ApD (4294967296 ^ a.length) 4294967296,Apo];revert ih;generalize 4294967296 ^ a.length*PU (if x<b.headD 0+c then 1 else 0) a b.tail=z;generalize Ad (FV (if x<b.headD 0+c then 1 else 0) a b.tail)=s;intro ih;split at ih
  .rename_i h3
   rw[if_pos h3];omega
  .rename_i h3
   rw[if_neg h3];omega
theorem FW:∀(a b:List Nat) (c:Nat),Limbs a->Limbs b->c<=1->Limbs (FV c a b)
 |[],_,_,_,_,_=>Bz
 |x::a,b,c,ha,hb,hc=>by
  have h1:=DB hb;have h2:=ha.cons;refine A5 ?_ (FW a b.tail _ h2.2 hb.tail (by split<;>omega));split<;>omega
theorem Ja:∀(a b:List Nat) (c:Nat),(FV c a b).length=a.length
 |[],_,_=>rfl
 |x::a,b,c=>by rw[FV,π,Ja a,π]
theorem RU{a b:List Nat}(ha:Limbs a)(hb:Limbs b)(h:b.length<=a.length)(hv:Ad b<=Ad a):Ad (FV 0 a b)=Ad a-Ad b:=by
 have h1:=OH a b 0 ha hb (by omega) h;have h2:=Bm (FW a b 0 ha hb (by omega));rw[Ja]at h2;have h3:=UI a b 0 (by omega);have h4:=Bm ha;rcases Apw (PU 0 a b) 1 with h5|h5
 .rw[show PU 0 a b=0 by omega]at h1
  omega
 .rw[show PU 0 a b=1 by omega]at h1
  omega
def MJ:Nat->Nat->List Nat->List Nat->List Nat
 |_,c,[],o=>c::o.tail
 |x,c,y::b,o=>((x*y+o.headD 0+c) % 4294967296)::MJ x ((x*y+o.headD 0+c) / 4294967296) b o.tail
theorem OG:∀(x:Nat) (b o:List Nat) (c:Nat),(o.drop b.length).headD 0=0->Ad (MJ x c b o)=x*Ad b+Ad o+c
 |x,[],o,c,h=>by
  have h:o.headD 0=0:=h;rw[MJ,Ad,Ad,F5 o,h];omega
 |x,y::b,o,c,h=>by
  have h2:(o.tail.drop b.length).headD 0=0:=by
   rw[π]at h
   cases o with
   |nil=>simp
   |cons z o=>exact h
  have ih:=OG x b o.tail ((x*y+o.headD 0+c) / 4294967296) h2;have e:x*(y+4294967296*Ad b)=x*y+4294967296*(x*Ad b):=by
   rw[ApW,←Apo,ApD x 4294967296,Apo]
  rw[MJ,Ad,ih,Ad,F5 o,e];omega
theorem Ih{x y:Nat}(hx:x<4294967296)(hy:y<4294967296):x*y<=18446744065119617025:=by
 have:=Nat.mul_le_mul (show x<=4294967295 by omega) (show y<=4294967295 by omega);omega
theorem MK:∀(x:Nat) (b o:List Nat) (c:Nat),x<4294967296->Limbs b->Limbs o->c<4294967296->Limbs (MJ x c b o)
 |x,[],o,c,_,_,ho,hc=>A5 hc ho.tail
 |x,y::b,o,c,hx,hb,ho,hc=>by
  have h1:=DB ho;have h2:=hb.cons;have h3:=Ih hx h2.1;exact A5 (ApI _ (by omega)) (MK x b o.tail _ hx h2.2 ho.tail (by omega))
def Dk:Nat->Nat->List Nat->List Nat
 |_,c,[]=>[c]
 |m,c,x::a=>((x*m+c) % 4294967296)::Dk m ((x*m+c) / 4294967296) a
theorem GW:∀(m:Nat) (a:List Nat) (c:Nat),Ad (Dk m c a)=Ad a*m+c
 |m,[],c=>by simp[Dk,Ad]
 |m,x::a,c=>by
  rw[Dk,Ad,GW m a,Ad,ApA,Apo];omega
theorem FT:∀(m:Nat) (a:List Nat) (c:Nat),m<4294967296->Limbs a->c<4294967296->Limbs (Dk m c a)
 |m,[],c,_,_,hc=>A5 hc Bz
 |m,x::a,c,hm,ha,hc=>by
  have h2:=ha.cons;have h3:=Ih h2.1 hm;exact A5 (ApI _ (by omega)) (FT m a _ hm h2.2 (by omega))
def Cx(a b:Nat):Int:=if a<b then -1 else if b<a then 1 else 0
theorem LW{a b:List Nat}(ha:Limbs a)(hb:Limbs b)(h:a.length=b.length)(x y:Nat):Cx (Ad (a++[x])) (Ad (b++[y]))=if x<y then -1 else if y<x then 1 else Cx (Ad a) (Ad b):=by
 rw[Bw,Bw,←h];have h1:=Bm ha;have h2:=Bm hb;rw[←h]at h2;simp only[Ad,Arl,ApJ];revert h1 h2;generalize 4294967296 ^ a.length=k;generalize Ad a=p;generalize Ad b=q;intro h1 h2
 by_cases h3:x<y
 .rw[if_pos h3]
  have:k*(x+1)<=k*y:=AqC _ h3;rw[ApW]at this;unfold Cx;rw[if_pos (by omega)]
 .rw[if_neg h3]
  by_cases h4:y<x
  .rw[if_pos h4]
   have:k*(y+1)<=k*x:=AqC _ h4;rw[ApW]at this;unfold Cx;rw[if_neg (by omega),if_pos (by omega)]
  .rw[if_neg h4]
   obtain rfl:x=y:=by omega
   unfold Cx
   by_cases h5:p<q
   .rw[if_pos (by omega),if_pos h5]
   .rw[if_neg (by omega),if_neg h5]
    by_cases h6:q<p
    .rw[if_pos (by omega),if_pos h6]
    .rw[if_neg (by omega),if_neg h6]
theorem XW{P V2 vl U3 ul g:Nat}(hvl:vl<P)(hV2:4294967296<=V2)(hg:g<=4294967296)(h:g*V2<=U3):g*(V2*P+vl)<(U3*P+ul)+(V2*P+vl):=by
 have h1:g*V2*P<=U3*P:=Apj _ h;have h2:g*vl<=4294967296*vl:=Apj _ hg;have h3:4294967296*P<=V2*P:=Apj _ hV2;rw[ApW,←Apo];omega
theorem XX{P V2 vl U3 ul g:Nat}(hul:ul<P)(h:U3<g*V2):U3*P+ul<g*(V2*P+vl):=by
 have h1:(U3+1)*P<=g*V2*P:=Apj _ h;rw[ApA,Aqi]at h1;rw[ApW,←Apo];omega
theorem Abb{Q f dl T ul:Nat}(hul:ul<Q)(hf:0<f):T*Q+ul<(T / f+1)*(f*Q+dl):=by
 have h1:T+1<=(T / f+1)*f:=by
  have:=ArH T f;have:=ApI T hf;rw[ApA,Aqi,ApD];omega
 have h2:(T+1)*Q<=(T / f+1)*f*Q:=Apj _ h1;rw[ApA,Aqi]at h2;rw[ApW,←Apo];omega
def C8:Nat->Nat->Nat->List Nat->List Nat->List Nat
 |_,_,_,_,[]=>[]
 |m,c,w,u,x::d=>(if u.headD 0<(m*x+c) % 4294967296+w then u.headD 0+4294967296-((m*x+c) % 4294967296+w) else u.headD 0-((m*x+c) % 4294967296+w))::C8 m ((m*x+c) / 4294967296) (if u.headD 0<(m*x+c) % 4294967296+w then 1 else 0) u.tail d
def Do:Nat->Nat->List Nat->Nat
 |_,c,[]=>c
 |m,c,x::d=>Do m ((m*x+c) / 4294967296) d
def CL:Nat->Nat->Nat->List Nat->List Nat->Nat
 |_,_,w,_,[]=>w
 |m,c,w,u,x::d=>CL m ((m*x+c) / 4294967296) (if u.headD 0<(m*x+c) % 4294967296+w then 1 else 0) u.tail d
theorem Fj:∀(m c w:Nat) (u d:List Nat),(C8 m c w u d).length=d.length
 |_,_,_,_,[]=>rfl
 |m,c,w,u,x::d=>by rw[C8,π,Fj,π]
theorem LJ:∀(m c w:Nat) (u d:List Nat),w<=1->CL m c w u d<=1
 |_,_,_,_,[],h=>h
 |m,c,w,u,x::d,h=>LJ m _ _ _ d (by split<;>omega)
theorem LH:∀(m c:Nat) (d:List Nat),m<4294967296->Limbs d->c<4294967296->Do m c d<4294967296
 |_,_,[],_,_,h=>h
 |m,c,x::d,hm,hd,hc=>by
  have h:=hd.cons;have:=Ih hm h.1;exact LH m _ d hm h.2 (by omega)
theorem Gm:∀(m c w:Nat) (u d:List Nat),Limbs u->w<=1->Limbs (C8 m c w u d)
 |_,_,_,_,[],_,_=>Bz
 |m,c,w,u,x::d,hu,hw=>by
  have h1:=DB hu;have h2:=ApI (m*x+c) (show 0<4294967296 by omega);exact A5 (by split<;>omega) (Gm m _ _ _ d hu.tail (by split<;>omega))
theorem Ni:∀(m c w:Nat) (u d:List Nat),Limbs u->w<=1->d.length<=u.length->
  Ad (C8 m c w u d)+m*Ad d+c+w=Ad (u.take d.length)+4294967296 ^ d.length*(Do m c d+CL m c w u d)
 |m,c,w,u,[],_,_,_=>by simp[C8,Do,CL,Ad]
 |m,c,w,u,x::d,hu,hw,hl=>by
  cases u with
  |nil=>simp at hl
  |cons y u=>
   have h1:=hu.cons;have h2:=ApI (m*x+c) (show 0<4294967296 by omega);have ih:=Ni m ((m*x+c) / 4294967296) (if y<(m*x+c) % 4294967296+w then 1 else 0) u d h1.2 (by split<;>omega) (by simpa using hl);rw[C8,Do,CL,Ad,π,AqI,Ad,Ad,ApU,ApD (4294967296 ^ d.length) 4294967296,Apo,Aqp,AqF];have e:m*(x+4294967296*Ad d)=m*x+4294967296*(m*Ad d):=by
    rw[ApW,←Apo,ApD m 4294967296,Apo]
   rw[e];revert ih;generalize 4294967296 ^ d.length*(Do m ((m*x+c) / 4294967296) d+CL m ((m*x+c) / 4294967296) (if y<(m*x+c) % 4294967296+w then 1 else 0) u d)=z;generalize Ad (C8 m ((m*x+c) / 4294967296) (if y<(m*x+c) % 4294967296+w then 1 else 0) u d)=s;generalize m*x=mx at *;generalize m*Ad d=md;intro ih;split
   .rename_i h3
    rw[if_pos h3]at ih;omega
   .rename_i h3
    rw[if_neg h3]at ih;omega
def CM:Nat->List Nat->List Nat->List Nat
 |_,_,[]=>[]
 |c,u,x::d=>((u.headD 0+x+c) % 4294967296)::CM ((u.headD 0+x+c) / 4294967296) u.tail d
def Cy:Nat->List Nat->List Nat->Nat
 |c,_,[]=>c
 |c,u,x::d=>Cy ((u.headD 0+x+c) / 4294967296) u.tail d
theorem DT:∀(c:Nat) (u d:List Nat),(CM c u d).length=d.length
 |_,_,[]=>rfl
 |c,u,x::d=>by rw[CM,π,DT,π]
theorem Gn:∀(c:Nat) (u d:List Nat),Limbs (CM c u d)
 |_,_,[]=>Bz
 |c,u,x::d=>A5 (ApI _ (by omega)) (Gn _ _ d)
theorem LL:∀(c:Nat) (u d:List Nat),Limbs u->Limbs d->c<=1->Cy c u d<=1
 |_,_,[],_,_,h=>h
 |c,u,x::d,hu,hd,hc=>by
  have h1:=DB hu;have h2:=hd.cons;exact LL _ u.tail d hu.tail h2.2 (by omega)
theorem Nj:∀(c:Nat) (u d:List Nat),d.length<=u.length->Ad (CM c u d)+4294967296 ^ d.length*Cy c u d=c+Ad (u.take d.length)+Ad d
 |c,u,[],_=>by simp[CM,Cy,Ad]
 |c,u,x::d,hl=>by
  cases u with
  |nil=>simp at hl
  |cons y u=>
   have ih:=Nj ((y+x+c) / 4294967296) u d (by simpa using hl);rw[CM,Cy,Ad,π,AqI,Ad,Ad,ApU,ApD (4294967296 ^ d.length) 4294967296,Apo,Aqp,AqF];revert ih;generalize 4294967296 ^ d.length*Cy ((y+x+c) / 4294967296) u d=z;generalize Ad (CM ((y+x+c) / 4294967296) u d)=s;intro ih;omega
theorem UZ{p s mv u ul t B:Nat}(ht:t<=B)(hul:ul<B)(h1:s+mv=u+p*t):s+p*((ul+B-t) % B)+mv=u+p*ul+(if ul<t then p*B else 0):=by
 by_cases h:ul<t
 .rw[if_pos h,Ap1 (by omega)]
  have e:p*(ul+B-t)+p*t=p*ul+p*B:=by
   rw[←ApW,show ul+B-t+t=ul+B by omega,ApW]
  omega
 .have e0:(ul+B-t) % B=ul-t:=by
   rw[show ul+B-t=(ul-t)+B by omega,Nat.add_mod_right,Ap1 (by omega)]
  rw[if_neg h,e0];have e:p*(ul-t)+p*t=p*ul:=by rw[←ApW,show ul-t+t=ul by omega]
  omega
theorem WO{u d:List Nat}{m ul:Nat}(hu:Limbs u)(hd:Limbs d)(hl:u.length=d.length)(hm:m<4294967296)(hul:ul<4294967296) :
  Ad (C8 m 0 0 u d++[(ul+4294967296-(Do m 0 d+CL m 0 0 u d)) % 4294967296])+m*Ad d=Ad (u++[ul])+(if ul<Do m 0 d+CL m 0 0 u d then 4294967296 ^ (d.length+1) else 0):=by
 have h1:=Ni m 0 0 u d hu (ApM _) (As0 hl.symm);have h2:=LH m 0 d hm hd (by decide);have h3:=LJ m 0 0 u d (ApM _);have ht:Do m 0 d+CL m 0 0 u d<=4294967296:=by omega
 rw[ApZ (As0 hl)]at h1;rw[Bw,Bw,Fj,hl,ApU];have e:∀ x,Ad [x]=x:=λx=>by simp[Ad]
 rw[e,e];exact UZ ht hul h1
theorem WT{u d:List Nat}{ul:Nat}(hu:Limbs u)(hd:Limbs d)(hl:u.length=d.length)(hul:ul<4294967296) :
  Ad (CM 0 u d++[(ul+Cy 0 u d) % 4294967296])=(Ad (u++[ul])+Ad d) % 4294967296 ^ (d.length+1):=by
 have h1:=Nj 0 u d (by omega);have h2:=LL 0 u d hu hd (by omega);have h3:=Bm (Cr (Gn 0 u d) (A5 (ApI (ul+Cy 0 u d) (show 0<4294967296 by omega)) Bz));rw[List.length_append,DT,List.length_singleton]at h3;rw[ApZ (by omega)]at h1;rw[Bw,DT]at h3;rw[Bw,Bw,DT];simp only[Ad,Arl,ApJ,Nat.zero_add]at h1 h3 ⊢;rw[hl];have e:=ArH (ul+Cy 0 u d) 4294967296;have e2:Ad u+4294967296 ^ d.length*ul+Ad d=Ad (CM 0 u d)+4294967296 ^ d.length*((ul+Cy 0 u d) % 4294967296)+4294967296 ^ (d.length+1)*((ul+Cy 0 u d) / 4294967296):=by
  have:4294967296 ^ d.length*(ul+Cy 0 u d)=4294967296 ^ d.length*((ul+Cy 0 u d) % 4294967296)+4294967296 ^ (d.length+1)*((ul+Cy 0 u d) / 4294967296):=by
   rw[ApU,Apo,←ApW]
   congr 1
   omega
  rw[ApW]at this;omega
 rw[e2,Nat.add_mul_mod_self_left,Ap1 h3]
theorem Gp{a b:Int}(h:a=b){x y:KR}:br (Ag.eq a b) x y=x:=by rw[AlQ,decide_eq_true h];rfl
theorem Bi{a b:Int}{x y z:KR}(h: a=b)(g:x=z):br (Ag.eq a b) x y=z:=(Gp h).trans g
theorem FI{a b:Int}(h:¬ a=b){x y:KR}:br (Ag.eq a b) x y=y:=by rw[AlQ,decide_eq_false h];rfl
theorem AK{a b:Int}{x y z:KR}(h:¬ a=b)(g:y=z):br (Ag.eq a b) x y=z:=(FI h).trans g
theorem AaP{a b:ByteArray}(h:a=b){x y:KR}:br (Ag.seq a b) x y=x:=by rw[AlT,decide_eq_true h];rfl
theorem AeF{a b:ByteArray}{x y z:KR}(h: a=b)(g:x=z):br (Ag.seq a b) x y=z:=(AaP h).trans g
theorem Jk{a b:Int}(h:a<b){x y:KR}:br (Ag.lt a b) x y=x:=by rw[AlS,decide_eq_true h];rfl
theorem Aq{a b:Int}{x y z:KR}(h: a<b)(g:x=z):br (Ag.lt a b) x y=z:=(Jk h).trans g
theorem CA{a b:Int}(h:¬ a<b){x y:KR}:br (Ag.lt a b) x y=y:=by rw[AlS,decide_eq_false h];rfl
theorem Ak{a b:Int}{x y z:KR}(h:¬ a<b)(g:y=z):br (Ag.lt a b) x y=z:=(CA h).trans g
theorem OT{a b:Int}(h:a<=b){x y:KR}:br (Ag.le a b) x y=x:=by rw[AlR,decide_eq_true h];rfl
theorem BW{a b:Int}{x y z:KR}(h: a≤b)(g:x=z):br (Ag.le a b) x y=z:=(OT h).trans g
theorem OS{a b:Int}(h:¬ a<=b){x y:KR}:br (Ag.le a b) x y=y:=by rw[AlR,decide_eq_false h];rfl
theorem Ca{a b:Int}{x y z:KR}(h:¬ a≤b)(g:y=z):br (Ag.le a b) x y=z:=(OS h).trans g
def Bb:Nat:=1042962668542029374677668987337996011341198353761632795856419847799597962473998426758556155900
abbrev AS(h:AB)(n:Nat):MFn:=P6 Tryz.prog Bb h false false n
def As:List (Nat × Nat):=[(262,0),(240,0),(241,0),(136,0),(196,0),(234,0),(235,0),(265,0),(275,0),(140,0),(199,0)]
section
open Go.RowKit
def Akx:AB:=[⟨21,[true,false,false,true],[],[],[(1,([true,false,false,true],([],[])))]⟩]
def Uc:MFn:=AS Akx 200
def QK:Hnt:=⟨[],[(0,[(1,([.ls,.int .i64],[]))])],[(12,[.int .u32]),(13,[.int .u32])]⟩
def AgT:MFn:=AS [] 202
def Af9:Hnt:=⟨[(200,(.ls,[])),(236,(.sl 0 1,[.row true]))],[],[]⟩
def AgP:MFn:=AS [] 184
def Af5:Hnt:=⟨[(202,(.ls,[]))],[],[]⟩
def Aky:AB:=[⟨49,[true,true,false,false,false,true],[],[],[(0,([false,false,false,false,true],([],[]))),(2,([],([],[])))]⟩]
def Ud:MFn:=AS Aky 201
def QL:Hnt:=⟨[(200,(.ls,[]))],[(0,[(0,([.int .i64],[])),(2,([],[]))])],[(32,[.int .u32]),(33,[.int .u32]),(36,[.int .u32]),(37,[.int .u32]),(42,[.int .u32]),(43,[.int .u32]),(46,[.int .u32]),(47,[.int .u32])]⟩
def Aku:AB:=[⟨61,[false,true,false,false,false,true,true,false,false,false,false,false,false,false,false,false,false,false,false,false,false,false,false,false,false,true,true,true],[(5,1)],[],[(1,([false,false,false,false,false,true,true],([],[])))]⟩]
def T9:MFn:=AS Aku 197
def QI:Hnt:=⟨[(200,(.ls,[])),(202,(.ls,[]))],[(0,[(1,([.sl 1 1,.int .u64],[.del,.row true]))])],[(30,[.int .u32]),(31,[.int .u32]),(43,[.int .u32]),(44,[.int .u32])]⟩
def Akv:AB:=[⟨59,[false,true,false,false,false,false,true,true,false,false,false,false,false,false,false,false,false,false,false,false,false,false,false,true,true,true],[(6,1)],[],[(1,([false,false,false,false,false,false,true],([],[])))]⟩]
def Ua:MFn:=AS Akv 198
def QJ:Hnt:=⟨[(200,(.ls,[])),(201,(.int .i64,[])),(202,(.ls,[]))],[(0,[(1,([.sl 1 1],[.del,.row true]))])],[(28,[.int .u32]),(29,[.int .u32]),(38,[.int .u32]),(39,[.int .u32])]⟩
def AkK:AB:=[⟨68,[false,true,false,false,false,true,false,false,false,false,false,false,false,false,false,false,false,false,true,true,true],[],[],[(1,([false,false,false,false,false,true],([],[])))]⟩,⟨68,[false,true,false,false,false,true,true,true,true,false,false,false,false,false,false,false,false,false,true,true,true,false,false,false,false,true,true,true],[],[],[(3,([false,true,false,false,false,true,true,false,true,false,false,false,false,false,false,false,false,false,true,true,true],([],[])))]⟩]
def Ob:MFn:=AS AkK 243
def Kg:Hnt:=⟨[(202,(.ls,[]))],[(0,[(1,([.sl 1 1],[.del,.row true]))]),(1,[(3,([.ls,.sl 1 1,.int .i64,.int .u64,.ls,.int .i64,.int .i64],[.del,.row true]))])],[(23,[.int .u32]),(24,[.int .u32]),(30,[.int .u32]),(31,[.int .u32]),(41,[.int .u32]),(42,[.int .u32]),(53,[.int .u32]),(64,[.int .u32])]⟩
def AgV:MFn:=AS [] 212
def Agb:Hnt:=⟨[(200,(.ls,[])),(243,(.ls,[])),(244,(.ls,[]))],[],[]⟩
def Gb:List (Nat × MFn):=[(200,Uc),(202,AgT),(184,AgP),(201,Ud),(197,T9),(198,Ua),(243,Ob),(212,AgV)]
variable (A:Ar) (D:Orc)
theorem Am3(x0:Rw):BP A D As QK .n 200 Uc [Δ x0] [] =
 Af D (γ 200 0) [Δ x0,iv ↑(AF x0)] [] [.t,.C,.x,.X,.Y] λc l o=>
 br (Bo 1 c)
 (dk [.L,.I,.N,.E] [.l l,.o o] λxs n=>
 unI n λi=>
 br (IK 0 i (AF xs)) (br (FF 1 xs) (some ((Δ (Hq (Hz xs i) 0),[]))) none) none)
 (none):=by kernel_rfl
theorem Xm(t0:Rw)(t3:Int):CO A D As QK .n 200 0 (AN Uc 0).fst (AN Uc 0).snd [Δ t0,iv t3] [] =
 br (A.lt 0 t3)
 (unI (A.sub Φ t3 1) λi=>
 Bl t0 i λcs=>
 dk [.J .u32,.N] [.l cs] λn=>
 br (A.eq n 0)
 (AI D (γ 200 0) [Δ t0,iv (A.sub Φ t3 1)] [] λr o=>
 AE 0 [] (AH.mk [] 0 none) [] r o)
 (some ((ν [iv 0,Δ t0,iv t3],[]))))
 (some ((ν [iv 0,Δ t0,iv t3],[]))):=by kernel_rfl
theorem Am5(x0:Rw):BP A D As Af9 .n 202 AgT [Δ x0] [] =
 Af D (θ 200) [Δ x0] [] [.l,.E] λxs=>
 Af D (θ 236) [Δ xs] [] [.q 0 1,.R,.X,.E] λn cs=>
 br ((0+n*1).ble cs.length) (some ((Δ (Bh n 1 (κ (n*1) cs)),[]))) none:=by kernel_rfl
theorem AmV(x0:Int):BP A D As Af5 .n 184 AgP [Apc (Value.int Θ x0)] [] =
 br (A.lt 32 0)
 (none)
 (Af D (θ 202) [Δ [[Apc (Value.int ξ (A.conv ξ x0))],[Apc (Value.int ξ (A.conv ξ (A.shr Θ x0 32)))]]] [] [.l,.E] λxs=>
 some ((Δ xs,[]))):=by kernel_rfl
theorem Am4(x0 x1:Rw):BP A D As QL .n 201 Ud [Δ x0,Δ x1] [] =
 Af D (θ 200) [Δ x0] [] [.l,.E] λxs=>
 Af D (θ 200) [Δ x1] [] [.l,.E] λxs1=>
 br (A.lt ↑(AF xs) ↑(AF xs1))
 (some ((iv (-1),[])))
 (br (A.lt ↑(AF xs1) ↑(AF xs))
 (some ((iv 1,[])))
 (Af D (γ 201 0) [Δ xs,Δ xs1,iv (A.sub Φ (↑(AF xs)) 1)] [] [.t,.C,.x,.X,.Y] λc l o2=>
 br (Bo 0 c)
 (dk [.I,.N,.E] [.l l,.o o2] λn=>
 some ((iv n,[])))
 (br (Bo 2 c)
 (EM l<|
 Dd o2<|
 some ((iv 0,[])))
 (none)))):=by kernel_rfl
theorem Xn(t0 t1:Rw)(t5:Int):CO A D As QL .n 201 0 (AN Ud 0).fst (AN Ud 0).snd [Δ t0,Δ t1,iv t5] [] =
 br (A.le 0 t5)
 (unI t5 λi=>
 Bl t0 i λcs=>
 dk [.J .u32,.N] [.l cs] λn=>
 unI t5 λi1=>
 Bl t1 i1 λcs1=>
 dk [.J .u32,.N] [.l cs1] λn1=>
 br (A.lt n n1)
 (some ((ν [bv true,iv (-1)],[])))
 (unI t5 λi2=>
 Bl t0 i2 λcs2=>
 dk [.J .u32,.N] [.l cs2] λn2=>
 unI t5 λi3=>
 Bl t1 i3 λcs3=>
 dk [.J .u32,.N] [.l cs3] λn3=>
 br (A.lt n3 n2)
 (some ((ν [bv true,iv 1],[])))
 (AI D (γ 201 0) [Δ t0,Δ t1,iv (A.sub Φ t5 1)] [] λr o=>
 AE 0 [] (AH.mk [] 0 none) [] r o)))
 (some ((ν [iv 1],[]))):=by kernel_rfl
theorem Am0(x0 x1:Rw):BP A D As QI .n 197 T9 [Δ x0,Δ x1] [] =
 Af D (θ 200) [Δ x0] [] [.l,.E] λxs=>
 Af D (θ 200) [Δ x1] [] [.l,.E] λxs1=>
 br (A.lt ↑(AF xs) ↑(AF xs1))
 (unI (A.add Φ (↑(AF xs1)) 1) λi=>
 br (Be i 4) (AI D (γ 197 0) [Δ xs,ζ 0 0 0 1,Apc (Value.int Θ 0),Δ xs1,iv ↑(AF xs1),iv 0] [Ξ [] true true] λr2 o2=>
 dk [.t,.C,.x,.X] [.v r2] λc l=>
 br (Bo 1 c)
 (dk [.C,.q 1 1,.J .u64,.N,.D,.R,.X,.E] [.l l,.o o2] λn n1 cs1=>
 br (Be (n+1) 4) (br ((0+n*1).ble cs1.length) (br ((0+(n+1)*1).ble (ι 0 (κ (0+n*1) cs1)++[Apc (Value.int ξ (A.conv ξ n1))]).length) (AI D (θ 202) [Δ (Bh (n+1) 1 (κ ((n+1)*1) (ι 0 (ι 0 (κ (0+n*1) cs1)++[Apc (Value.int ξ (A.conv ξ n1))]))))] [] λr3 o3=>
 dk [.l,.E] [.v r3,.o o3] λxs2=>
 some ((Δ xs2,[]))) none) none) none)
 (none)) none)
 (unI (A.add Φ (↑(AF xs)) 1) λi=>
 br (Be i 4) (AI D (γ 197 0) [Δ xs1,ζ 0 0 0 1,Apc (Value.int Θ 0),Δ xs,iv ↑(AF xs),iv 0] [Ξ [] true true] λr2 o2=>
 dk [.t,.C,.x,.X] [.v r2] λc l=>
 br (Bo 1 c)
 (dk [.C,.q 1 1,.J .u64,.N,.D,.R,.X,.E] [.l l,.o o2] λn n1 cs1=>
 br (Be (n+1) 4) (br ((0+n*1).ble cs1.length) (br ((0+(n+1)*1).ble (ι 0 (κ (0+n*1) cs1)++[Apc (Value.int ξ (A.conv ξ n1))]).length) (AI D (θ 202) [Δ (Bh (n+1) 1 (κ ((n+1)*1) (ι 0 (ι 0 (κ (0+n*1) cs1)++[Apc (Value.int ξ (A.conv ξ n1))]))))] [] λr3 o3=>
 dk [.l,.E] [.v r3,.o o3] λxs2=>
 some ((Δ xs2,[]))) none) none) none)
 (none)) none):=by kernel_rfl
theorem Xk(t1:Rw)(n5:Nat)(c5:List AV)(t6:Int)(t25:Rw)(t26 t27:Int):CO A D As QI .n 197 0 (AN T9 0).fst (AN T9 0).snd [Δ t1,ζ 0 0 n5 1,Apc (Value.int Θ t6),Δ t25,iv t26,iv t27] [{ cells:=c5,st:=true,ex:=true }] =
 br (A.lt t27 t26)
 (unI t27 λi=>
 Bl t25 i λcs=>
 dk [.J .u32,.N] [.l cs] λn=>
 br (A.lt t27 ↑(AF t1))
 (unI t27 λi1=>
 Bl t1 i1 λcs1=>
 dk [.J .u32,.N] [.l cs1] λn1=>
 br (Be (n5+1) 4) (br ((0+n5*1).ble c5.length) (br (A.lt 32 0)
 (none)
 (AI D (γ 197 0) [Δ t1,ζ 0 0 (n5+1) 1,Apc (Value.int Θ (A.shr Θ (A.add Θ (A.add Θ (A.conv Θ n) t6) (A.conv Θ n1)) 32)),Δ t25,iv t26,iv (A.add Φ t27 1)] [Ξ (ι 0 (κ (0+n5*1) c5)++[Apc (Value.int ξ (A.conv ξ (A.add Θ (A.add Θ (A.conv Θ n) t6) (A.conv Θ n1))))]) true true] λr o=>
 AE 1 [2] (AH.mk [(2,Ξ (ι 0 (κ (0+n5*1) c5)++[Apc (Value.int ξ (A.conv ξ (A.add Θ (A.add Θ (A.conv Θ n) t6) (A.conv Θ n1))))]) true true),(1,Ξ [Apc (Value.int ξ (A.conv ξ (A.add Θ (A.add Θ (A.conv Θ n) t6) (A.conv Θ n1))))] true true)] 3 none) [0] r o)) none) none)
 (br (Be (n5+1) 4) (br ((0+n5*1).ble c5.length) (br (A.lt 32 0)
 (none)
 (AI D (γ 197 0) [Δ t1,ζ 0 0 (n5+1) 1,Apc (Value.int Θ (A.shr Θ (A.add Θ (A.conv Θ n) t6) 32)),Δ t25,iv t26,iv (A.add Φ t27 1)] [Ξ (ι 0 (κ (0+n5*1) c5)++[Apc (Value.int ξ (A.conv ξ (A.add Θ (A.conv Θ n) t6)))]) true true] λr o=>
 AE 1 [2] (AH.mk [(2,Ξ (ι 0 (κ (0+n5*1) c5)++[Apc (Value.int ξ (A.conv ξ (A.add Θ (A.conv Θ n) t6)))]) true true),(1,Ξ [Apc (Value.int ξ (A.conv ξ (A.add Θ (A.conv Θ n) t6)))] true true)] 3 none) [0] r o)) none) none))
 (some ((ν [iv 0,ζ 1 0 n5 1,Apc (Value.int Θ t6)],[BO.del,ο (Ξ c5 true true)]))):=by kernel_rfl
theorem Am1(x0 x1:Rw):BP A D As QJ .n 198 Ua [Δ x0,Δ x1] [] =
 Af D (θ 200) [Δ x0] [] [.l,.E] λxs=>
 Af D (θ 200) [Δ x1] [] [.l,.E] λxs1=>
 Af D (θ 201) [Δ xs,Δ xs1] [] [.i,.E] λn=>
 br (A.lt n 0)
 (some ((ν [Δ [],bv false],[])))
 (br (Be (AF xs) 4) (AI D (γ 198 0) [Δ xs1,ζ 0 0 0 1,Apc (Value.int Θ 0),Δ xs,iv ↑(AF xs),iv 0] [Ξ [] true true] λr3 o3=>
 dk [.t,.C,.x,.X] [.v r3] λc l=>
 br (Bo 1 c)
 (dk [.C,.q 1 1,.N,.D,.R,.X,.E] [.l l,.o o3] λn1 cs1=>
 br ((0+n1*1).ble cs1.length) (AI D (θ 202) [Δ (Bh n1 1 (κ (n1*1) cs1))] [] λr4 o4=>
 JR r4 λxs2=>
 Dd o4<|
 some ((ν [Δ xs2,bv true],[]))) none)
 (none)) none):=by kernel_rfl
theorem Xl(t1:Rw)(n6:Nat)(c6:List AV)(t7:Int)(t23:Rw)(t24 t25:Int):CO A D As QJ .n 198 0 (AN Ua 0).fst (AN Ua 0).snd [Δ t1,ζ 0 0 n6 1,Apc (Value.int Θ t7),Δ t23,iv t24,iv t25] [{ cells:=c6,st:=true,ex:=true }] =
 br (A.lt t25 t24)
 (unI t25 λi=>
 Bl t23 i λcs=>
 dk [.J .u32,.N] [.l cs] λn=>
 br (A.lt t25 ↑(AF t1))
 (unI t25 λi1=>
 Bl t1 i1 λcs1=>
 dk [.J .u32,.N] [.l cs1] λn1=>
 br (A.lt (A.conv Θ n) (A.add Θ t7 (A.conv Θ n1)))
 (br (Be (n6+1) 4) (br ((0+n6*1).ble c6.length) (AI D (γ 198 0) [Δ t1,ζ 0 0 (n6+1) 1,Apc (Value.int Θ 1),Δ t23,iv t24,iv (A.add Φ t25 1)] [Ξ (ι 0 (κ (0+n6*1) c6)++[Apc (Value.int ξ (A.conv ξ (A.sub Θ (A.add Θ (A.conv Θ n) 4294967296) (A.add Θ t7 (A.conv Θ n1)))))]) true true] λr o=>
 AE 1 [2] (AH.mk [(2,Ξ (ι 0 (κ (0+n6*1) c6)++[Apc (Value.int ξ (A.conv ξ (A.sub Θ (A.add Θ (A.conv Θ n) 4294967296) (A.add Θ t7 (A.conv Θ n1)))))]) true true),(1,Ξ [Apc (Value.int ξ (A.conv ξ (A.sub Θ (A.add Θ (A.conv Θ n) 4294967296) (A.add Θ t7 (A.conv Θ n1)))))] true true)] 3 none) [0] r o) none) none)
 (br (Be (n6+1) 4) (br ((0+n6*1).ble c6.length) (AI D (γ 198 0) [Δ t1,ζ 0 0 (n6+1) 1,Apc (Value.int Θ 0),Δ t23,iv t24,iv (A.add Φ t25 1)] [Ξ (ι 0 (κ (0+n6*1) c6)++[Apc (Value.int ξ (A.conv ξ (A.sub Θ (A.conv Θ n) (A.add Θ t7 (A.conv Θ n1)))))]) true true] λr o=>
 AE 1 [2] (AH.mk [(2,Ξ (ι 0 (κ (0+n6*1) c6)++[Apc (Value.int ξ (A.conv ξ (A.sub Θ (A.conv Θ n) (A.add Θ t7 (A.conv Θ n1)))))]) true true),(1,Ξ [Apc (Value.int ξ (A.conv ξ (A.sub Θ (A.conv Θ n) (A.add Θ t7 (A.conv Θ n1)))))] true true)] 3 none) [0] r o) none) none))
 (br (A.lt (A.conv Θ n) t7)
 (br (Be (n6+1) 4) (br ((0+n6*1).ble c6.length) (AI D (γ 198 0) [Δ t1,ζ 0 0 (n6+1) 1,Apc (Value.int Θ 1),Δ t23,iv t24,iv (A.add Φ t25 1)] [Ξ (ι 0 (κ (0+n6*1) c6)++[Apc (Value.int ξ (A.conv ξ (A.sub Θ (A.add Θ (A.conv Θ n) 4294967296) t7)))]) true true] λr o=>
 AE 1 [2] (AH.mk [(2,Ξ (ι 0 (κ (0+n6*1) c6)++[Apc (Value.int ξ (A.conv ξ (A.sub Θ (A.add Θ (A.conv Θ n) 4294967296) t7)))]) true true),(1,Ξ [Apc (Value.int ξ (A.conv ξ (A.sub Θ (A.add Θ (A.conv Θ n) 4294967296) t7)))] true true)] 3 none) [0] r o) none) none)
 (br (Be (n6+1) 4) (br ((0+n6*1).ble c6.length) (AI D (γ 198 0) [Δ t1,ζ 0 0 (n6+1) 1,Apc (Value.int Θ 0),Δ t23,iv t24,iv (A.add Φ t25 1)] [Ξ (ι 0 (κ (0+n6*1) c6)++[Apc (Value.int ξ (A.conv ξ (A.sub Θ (A.conv Θ n) t7)))]) true true] λr o=>
 AE 1 [2] (AH.mk [(2,Ξ (ι 0 (κ (0+n6*1) c6)++[Apc (Value.int ξ (A.conv ξ (A.sub Θ (A.conv Θ n) t7)))]) true true),(1,Ξ [Apc (Value.int ξ (A.conv ξ (A.sub Θ (A.conv Θ n) t7)))] true true)] 3 none) [0] r o) none) none)))
 (some ((ν [iv 0,ζ 1 0 n6 1],[BO.del,ο (Ξ c6 true true)]))):=by kernel_rfl
theorem Anh(x0 x1:Rw):BP A D As Kg .n 243 Ob [Δ x0,Δ x1] [] =
 unI (A.add Φ ↑(AF x0) ↑(AF x1)) λi=>
 unI (A.add Φ ↑(AF x0) ↑(AF x1)) λi1=>
 br (i.ble i1) (br (Be i1 4) (AI D (γ 243 0) [Δ x1,ζ 0 0 i 1,Δ x0,iv ↑(AF x0),iv 0] [Ξ (BM [Apc (Value.int ξ 0)] (i*1)) true true] λr o=>
 dk [.t,.C,.x,.X] [.v r] λc l=>
 br (Bo 1 c)
 (dk [.C,.q 1 1,.N,.D,.R,.X,.E] [.l l,.o o] λn cs1=>
 br ((0+n*1).ble cs1.length) (AI D (θ 202) [Δ (Bh n 1 (κ (n*1) cs1))] [] λr1 o1=>
 JR r1 λxs=>
 Dd o1<|
 some ((Δ xs,[]))) none)
 (none)) none) none:=by kernel_rfl
theorem Xx(t1:Rw)(n5:Nat)(c5:List AV)(t18:Rw)(t19 t20:Int):CO A D As Kg .n 243 0 (AN Ob 0).fst (AN Ob 0).snd [Δ t1,ζ 0 0 n5 1,Δ t18,iv t19,iv t20] [{ cells:=c5,st:=true,ex:=true }] =
 br (A.lt t20 t19)
 (unI t20 λi=>
 Bl t18 i λcs=>
 dk [.J .u32,.N] [.l cs] λn=>
 Af D (γ 243 1) [Δ t1,ζ 0 0 n5 1,iv t20,Apc (Value.int ξ n),Apc (Value.int Θ 0),Δ t18,iv t19,iv t20,Δ t1,iv ↑(AF t1),iv 0] [Ξ c5 true true] [.t,.C,.x,.X,.Y] λc l1 o=>
 br (Bo 3 c)
 (dk [.L,.C,.q 1 1,.I,.J .u64,.L,.I,.I,.N,.D,.R,.X,.E] [.l l1,.o o] λxs n1 n2 n3 xs1 n4 n6 cs2=>
 unI (A.add Φ n2 ↑(AF xs)) λi1=>
 br (i1.blt n1) (br ((0+i1*1+1).ble cs2.length) (AI D (γ 243 0) [Δ xs,ζ 0 0 n1 1,Δ xs1,iv n4,iv (A.add Φ n6 1)] [Ξ (AG cs2 (0+i1*1) [Apc (Value.int ξ (A.conv ξ n3))]) true true] λr1 o1=>
 AE 1 [1] (AH.mk [(1,Ξ (AG cs2 (0+i1*1) [Apc (Value.int ξ (A.conv ξ n3))]) true true)] 2 none) [0] r1 o1) none) none)
 (none))
 (some ((ν [iv 0,ζ 1 0 n5 1],[BO.del,ο (Ξ c5 true true)]))):=by kernel_rfl
theorem Xy(t1:Rw)(n5:Nat)(c5:List AV)(t6 t7 t8:Int)(t18:Rw)(t19 t20:Int)(t25:Rw)(t26 t27:Int):CO A D As Kg .n 243 1 (AN Ob 1).fst (AN Ob 1).snd [Δ t1,ζ 0 0 n5 1,iv t6,Apc (Value.int ξ t7),Apc (Value.int Θ t8),Δ t18,iv t19,iv t20,Δ t25,iv t26,iv t27] [{ cells:=c5,st:=true,ex:=true }] =
 br (A.lt t27 t26)
 (unI t27 λi=>
 Bl t25 i λcs=>
 dk [.J .u32,.N] [.l cs] λn=>
 unI (A.add Φ t6 t27) λi1=>
 br (i1.blt n5) (EQ c5 (0+i1*1) 1 λcs1=>
 dk [.J .u32,.N] [.l cs1] λn1=>
 unI (A.add Φ t6 t27) λi2=>
 br (i2.blt n5) (br ((0+i2*1+1).ble c5.length) (br (A.lt 32 0)
 (none)
 (AI D (γ 243 1) [Δ t1,ζ 0 0 n5 1,iv t6,Apc (Value.int ξ t7),Apc (Value.int Θ (A.shr Θ (A.add Θ (A.add Θ (A.mul Θ (A.conv Θ t7) (A.conv Θ n)) (A.conv Θ n1)) t8) 32)),Δ t18,iv t19,iv t20,Δ t25,iv t26,iv (A.add Φ t27 1)] [Ξ (AG c5 (0+i2*1) [Apc (Value.int ξ (A.conv ξ (A.add Θ (A.add Θ (A.mul Θ (A.conv Θ t7) (A.conv Θ n)) (A.conv Θ n1)) t8)))]) true true] λr o=>
 AE 1 [0] (AH.mk [(0,Ξ (AG c5 (0+i2*1) [Apc (Value.int ξ (A.conv ξ (A.add Θ (A.add Θ (A.mul Θ (A.conv Θ t7) (A.conv Θ n)) (A.conv Θ n1)) t8)))]) true true)] 1 none) [0] r o)) none) none) none)
 (some ((ν [iv 2,Δ t1,ζ 1 0 n5 1,iv t6,Apc (Value.int Θ t8),Δ t18,iv t19,iv t20],[BO.del,ο (Ξ c5 true true)]))):=by kernel_rfl
theorem Anc(x0 x1:Rw):BP A D As Agb .n 212 AgV [Δ x0,Δ x1] [] =
 Af D (θ 200) [Δ x0] [] [.l,.E] λxs=>
 Af D (θ 200) [Δ x1] [] [.l,.E] λxs1=>
 br (A.lt (↑(AF xs)) 24)
 (Af D (θ 243) [Δ xs,Δ xs1] [] [.l,.E] λxs2=>
 some ((Δ xs2,[])))
 (br (A.lt (↑(AF xs1)) 24)
 (Af D (θ 243) [Δ xs,Δ xs1] [] [.l,.E] λxs2=>
 some ((Δ xs2,[])))
 (Af D (θ 244) [Δ xs,Δ xs1] [] [.l,.E] λxs2=>
 some ((Δ xs2,[])))):=by kernel_rfl
end
theorem R7{B:Nat}{W w:World}(h:Below B W w):Below B W w.drew:=h.drew
theorem FH{w w':World}(h:Below w.drew.heap.size w.drew w'):Below w.heap.size w w':=⟨h.os,h.tape,h.output,h.size,h.block⟩
theorem B4{W w w':World}(h:Below W.heap.size W w)(hb:Below w.heap.size w w'):Below W.heap.size W w':=h.trans (hb.mono h.size)
theorem BV(w:World)(o:Obj):Below w.heap.size w (w.alloc o):=(Below.refl _ _).alloc (φ _) o
def Blk(w:World)(g:Nat)(t:TypeId)(cs:Array Value):Prop:=w.heap[g]? = some (.cells cs t (0,0))
section
variable {w w':World} {g:Nat} {t:TypeId} {cs:Array Value}
theorem Blk.lt(h:Blk w g t cs):g<w.heap.size:=by
 rcases Apw g w.heap.size with hlt|hge
 .exact hlt
 .unfold Blk at h;rw[Array.getElem?_eq_none hge]at h;cases h
theorem Blk.cell(h:Blk w g t cs)(i:Nat):w.cell? ⟨g,i,none⟩=cs[i]?:=cell_of_row w g i cs t (0,0) h
theorem Blk.frozen(h:Blk w g t cs)(i:Nat):w.frozen? ⟨g,i,none⟩=false:=by
 unfold Blk at h;simp[World.frozen?,h]
theorem Blk.new(w:World)(t:TypeId)(cs:Array Value):Blk (w.alloc (.cells cs t)) w.heap.size t cs:=heap_alloc_new w _
theorem Blk.drew(h:Blk w g t cs):Blk w.drew g t cs:=h
theorem Blk.alloc(h:Blk w g t cs)(o:Obj):Blk (w.alloc o) g t cs:=(Below.heap_alloc w o g h.lt).trans h
theorem Blk.set_(h:Blk w g t cs)(i:Nat)(u:Value):Blk (w.setCell ⟨g,i,none⟩ u) g t (cs.setIfInBounds i u):=by
 unfold Blk at h ⊢;simp[World.setCell,Array.getElem?_modify,h]
theorem Blk.below{B:Nat}(h:Blk w g t cs)(hb:Below B w w')(hg:g<B):Blk w' g t cs:=(hb.block g hg).trans h
theorem Blk.call(h:Blk w g t cs)(hb:Below w.heap.size w w'):Blk w' g t cs:=h.below hb h.lt
end
def Own(w:World)(B g:Nat)(t:TypeId)(v:Value)(cs:Array Value):Prop:=B<=g/\v=.pointer (some ⟨g,0,none⟩)/\Blk w g t cs
section
variable {w w':World} {B g:Nat} {t:TypeId} {v:Value} {cs:Array Value}
theorem Own.call(h:Own w B g t v cs)(hb:Below w.heap.size w w'):Own w' B g t v cs:=⟨h.1,h.2.1,h.2.2.call hb⟩
end
def pick{α:Type}(d:Bool)(x y:α):α:=match d with|true=>x|false=>y
section
variable {w w':World} {base base' e size n:Nat} {v:Value} {xs:List Value}
theorem Mk{row:Option Nat}(hb:Below w.heap.size w w'):w.grownBy w' row:=⟨hb.os,hb.tape,hb.output,hb.size,λk hk _=>hb.block k hk⟩
theorem Rg(h:w.ownsRow base e size v n xs)(hb:Below w.heap.size w w'):w'.ownsRow base e size v n xs:=h.kept (row:=none) (Mk hb) (by cases hv:v.ownBlock<;>simp)
end
end
end Go.Proofs.YtpncilciembjdaaGreatDoor
