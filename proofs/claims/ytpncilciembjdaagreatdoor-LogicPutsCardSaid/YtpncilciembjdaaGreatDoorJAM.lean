/- Seats of D: contracts fr -/
import Derived.Test.YtpncilciembjdaaGreatDoorJAL
import Derived.Test.YtpncilciembjdaaGreatDoorChecked
import Derived.WalkKit
import Derived.WalkSpells
import Derived.WalkLawsBesides
import Derived.Deep.Draws
import Derived.Lib.Hide
set_option linter.all false
open Bool renaming false->Ξ,true->U,and_eq_true->Atk
open Int renaming natAbs_neg->Au4
open List renaming all_eq_true->Atr,append_assoc->Atp,cons_append->AuM,drop_append->Av1,drop_eq_getElem_cons->χ,drop_zero->ι,filter_cons->AuN,findIdx_cons->AvY,flatten_cons->Aug,getElem?_cons_succ->Atv,getElem?_eq_getElem->δ,getElem?_eq_none->Aum,getElem?_set_ne->Aua,getElem?_set_self->Aul,getElem_mem->Ats,length_append->γ,length_cons->Ate,length_eq_zero_iff->AvE,length_set->AtL,length_take->AtN,mem_cons->Atd,mem_cons_of_mem->Atj,mem_cons_self->Atq,mem_of_mem_drop->At6,take_append->Av3,take_left'->AuS,take_of_length_le->Auv,take_succ_cons->Au9
open Nat renaming add_mul->At2,add_sub_cancel->Au0,beq->AtK,ble->Atl,ble_eq_true_of_le->At0,le_refl->η,lt_or_ge->AtR,mod_lt->AuP,mul_add->Avq,mul_assoc->Avf,mul_comm->AvV,mul_le_mul_left->Avo,pow_le_pow_right->Aus,pow_pos->Awm,pow_succ->Auy,strongRecOn->Aun,zero_add->Ato,zero_le->AtI
open Option renaming none->Θ,some->Δ
namespace Go.Proofs.YtpncilciembjdaaGreatDoor
noncomputable section
open ABlk renaming mk->Ψ
open AV renaming agg->ξ,fn->Att,ls->Φ,sl->π,tup->Ath
open BO renaming set->Atb
open IntKind renaming i64->Ω,u64->φ
open Key renaming fn->ω,lp->ο
open Tryz renaming prog->ζ
open Go.RowKit
def Ap5:Aa->Option AV
 |[.v (.string s)]=>if s.size<=9223372036854775807 then Δ (bv (Api s.data.toList)) else Θ
 |_=>Θ
def CS(res:Aa->Option AV):DF:=λargs bs=>match bs with
 |[]=>(res args).map λr=>(r,[])
 |_=>Θ
def MR(P:Program)(ents:Nat):List (Nat × MFn)->Prop
 |[]=>True
 |p::r=>(∃ hs a b,p.2=JP P ents hs a b p.1)/\AbF P p.1=U/\MR P ents r
theorem KD{P:Program}{ents:Nat}:∀{L:List (Nat × MFn)},MR P ents L->∀ f mf,(f,mf)∈L->FnOk P ents f mf
 |p::r,⟨⟨hs,a,b,h1⟩,h2,h3⟩,f,mf,hm=>by
  rcases Atd.1 hm with rfl|hm
  .have h1:mf=_:=h1
   rw[h1];exact AdT h2
  .exact KD h3 f mf hm
theorem O0{P:Program}{ents:Nat}:∀{L L':List (Nat × MFn)},MR P ents L->MR P ents L'->MR P ents (L++L')
 |[],_,_,h=>h
 |_::_,_,⟨h1,h2,h3⟩,h=>⟨h1,h2,O0 h3 h⟩
def Aan(P:Program)(ents n:Nat):Bool:=Nat.blt ents (2 ^ n)&&(List.range n).all λg=>!ents.testBit g||FI P g
theorem Aao{P:Program}{ents n:Nat}(h:Aan P ents n=U):Ix P ents:=by
 unfold Aan at h;rw[Atk]at h;intro g hg;have hn:ents<2 ^ n:=Nat.blt_eq.mp h.1
 by_cases hgn:g<n
 .have:=Atr.1 h.2 g (List.mem_range.2 hgn)
  rw[hg]at this;simpa using this
 .have:ents<2 ^ g:=Nat.lt_of_lt_of_le hn (Aus (by decide) (by omega))
  rw[Nat.testBit_lt_two_pow this]at hg
  cases hg
theorem Nm{α:Type}{f:Nat}:∀{A B:List (Nat × α)},BG f (A++B)=match BG f A with
  |some a=>Δ a
  |none=>BG f B
 |[],_=>rfl
 |(m,b)::r,B=>by
  have ih:=Nm (f:=f) (A:=r) (B:=B)
  show (match AtK f m with
   |true=>Δ b
   |false=>BG f (r++B))=match (match AtK f m with
   |true=>Δ b
   |false=>BG f r) with
   |some a=>Δ a
   |none=>BG f B
  cases AtK f m with
  |true=>rfl
  |false=>exact ih
def Zn(A B:List (Nat × MFn)):Bool:=B.all λp=>(BG p.1 A).isNone
theorem UE{A B:List (Nat × MFn)}(h:Zn A B=U){f:Nat}{mf:MFn}(hf:BG f B=Δ mf):BG f (A++B)=Δ mf:=by
 have:=Atr.1 h _ (D6 hf);have h0:BG f A=Θ:=Option.isNone_iff_eq_none.1 this;rw[Nm,h0];exact hf
theorem Xv{A B:List (Nat × MFn)}{f:Nat}{mf:MFn}(hf:BG f A=Δ mf):BG f (A++B)=Δ mf:=by
 rw[Nm,hf]
def Dr(P:Program):List (Nat × DF)->Prop
 |[]=>True
 |p::r=>A1 (Bi P p.1) p.2/\Dr P r
theorem Pr{P:Program}:∀{L:List (Nat × DF)},Dr P L->∀ f d,(f,d)∈L->A1 (Bi P f) d
 |p::r,⟨h1,h2⟩,f,d,hm=>by
  rcases Atd.1 hm with rfl|hm
  .exact h1
  .exact Pr h2 f d hm
def Dp(P:Program)(ents:Nat):List (List (Nat × MFn))->Prop
 |[]=>True
 |T::r=>MR P ents T/\Dp P ents r
theorem MU{P:Program}{ents:Nat}:∀{L:List (List (Nat × MFn))},Dp P ents L->MR P ents L.flatten
 |[],_=>trivial
 |T::r,⟨h1,h2⟩=>by
  rw[Aug];exact O0 h1 (MU h2)
theorem Cx{P:Program}{ents:Nat}{own:List (Nat × Nat)}{L:List (List (Nat × MFn))}{X:List (Nat × DF)}(m:P.follows .mixedOrders=U)(e:Ix P ents)(a:Dp P ents L)(g:Dr P X):SeatOk P ents (CU own L.flatten X) where
 mixed:=m
 ent:=e
 fns f mf h:=KD (MU a) f mf (D6 h)
 ext f d h:=Pr g f d (D6 h)
def Da:List (List (Nat × MFn))->Bool
 |[]=>U
 |T::r=>Zn T r.flatten&&Da r
theorem Qu{f:Nat}{mf:MFn}:∀{L:List (List (Nat × MFn))} {i:Nat} {T:List (Nat × MFn)},Da L=U->L[i]? = Δ T->BG f T=Δ mf->BG f L.flatten=Δ mf
 |A::r,0,T,_,hi,h=>by
  injection hi with hi
  subst hi;rw[Aug];exact Xv h
 |A::r,i+1,T,ha,hi,h=>by
  unfold Da at ha;rw[Atk]at ha;rw[Aug];exact UE ha.1 (Qu ha.2 hi h)
theorem Abj:∀{L:List (List (Nat × MFn))} {i:Nat} {T:List (Nat × MFn)},L[i]? = Δ T->∀ p∈T,p∈L.flatten
 |A::r,0,T,hi,p,hp=>by
  injection hi with hi
  subst hi;rw[Aug];exact List.mem_append_left _ hp
 |A::r,i+1,T,hi,p,hp=>by
  rw[Aug];exact List.mem_append_right _ (Abj (L:=r) hi p hp)
theorem BD{own:List (Nat × Nat)}{L:List (List (Nat × MFn))}{X:List (Nat × DF)}(h:(Da L&&Fk L.flatten X)=U){i:Nat}{T:List (Nat × MFn)}(hi:L[i]? = Δ T):Knows own T (AB Ah (CU own L.flatten X)):=by
 rw[Atk]at h;refine Aa4 (λf mf hf=>Qu h.1 hi hf) (Atr.2 λp hp=>Atr.1 h.2 p (Abj hi p hp))
def Bn:Nat:=1042962668542029374677668987337996011341198353761632795856419847799597962473998426758556155900
abbrev AE(h:Jm)(n:Nat):MFn:=JP ζ Bn h Ξ Ξ n
def mBg:Nat->Nat->List Bool
 | 0,_=>[]
 | k+1,n=>(match AtK n 0 with
  | true=>[]
  | false=>AtK (Nat.mod n 2) 1::mBg k (Nat.div n 2))
def mB(n:Nat):List Bool:=mBg 400 n
abbrev AL:List Sh:=[.int .i64,.ls,.bool,.ls,.bool,.ls]
abbrev Bv:List Sh:=[.bool,.ls]
abbrev Bx:List Sh:=[.ls,.bool,.ls]
abbrev Bz:List Sh:=[.int .i64,.bool,.ls]
abbrev Er:List Sh:=[.ls,.bool,.ls,.bool]
def Aq:List (Nat × Nat):=[(262,0),(240,0),(241,0),(136,0),(196,0),(234,0),(235,0),(265,0),(275,0),(140,0),(199,0)]
theorem GW:Tryz.prog.follows .mixedOrders=U:=by kernel_rfl
set_option maxRecDepth 100000 in
theorem Cv:Ix ζ Bn:=Aao (n:=600) (by kernel_rfl)
section
variable {α:Type} (key:α->Int)
def kf(l:List α)(p:Nat):Int:=match l[p]? with
 |some x=>key x
 |none=>0
theorem Fy{l:List α}{p:Nat}(h:p<l.length):kf key l p=key l[p]:=by
 unfold kf;rw[δ h]
def Dg(l:List α)(i j:Nat):List α:=match l[i]?,l[j]? with
 |some x,Δ y=>(l.set i y).set j x
 |_,_=>l
theorem DY{l:List α}{i j:Nat}(hi:i<l.length)(hj:j<l.length):Dg l i j=(l.set i l[j]).set j l[i]:=by
 unfold Dg;rw[δ hi,δ hj]
theorem Im(l:List α)(i j:Nat):(Dg l i j).length=l.length:=by
 unfold Dg;split<;>simp
theorem Wb{l:List α}{i j:Nat}(hi:i<l.length)(hj:j<l.length)(p:Nat):kf key (Dg l i j) p=if p=j then kf key l i else if p=i then kf key l j else kf key l p:=by
 rw[DY hi hj];unfold kf
 by_cases h1:p=j
 .subst h1
  rw[Ac rfl,Aul (by simpa using hj),δ hi]
 .rw[Ad h1,Aua (λe=>h1 e.symm)]
  by_cases h2:p=i
  .subst h2
   rw[Ac rfl,Aul hi,δ hj]
  .rw[Ad h2,Aua (λe=>h2 e.symm)]
theorem GH(l:List α)(i j:Nat):(Dg l i j).Perm l:=by
 by_cases hi:i<l.length
 .by_cases hj:j<l.length
  .rw[DY hi hj]
   have:=Array.swap_perm (xs:=l.toArray) (i:=i) (j:=j) (by simpa using hi) (by simpa using hj);have h2:=this.toList;simpa[Array.swap]using h2
  .unfold Dg
   rw[Aum (show l.length<=j by omega)];split
   .rename_i h;cases h
   .exact List.Perm.refl _
 .unfold Dg
  rw[Aum (show l.length<=i by omega)]
theorem YN{l:List α}{i j p:Nat}(h1:p≠i)(h2:p≠j):(Dg l i j)[p]? = l[p]?:=by
 unfold Dg;split
 .rw[Aua (λe=>h2 e.symm),Aua (λe=>h1 e.symm)]
 .rfl
def Srt(l:List α)(a b:Nat):Prop:=∀ p q,a<=p->p<q->q<b->kf key l p<=kf key l q
def W3(l:List α)(a i j:Nat):Prop:=∀ p q,a<=p->p<q->q<=i->q≠j->kf key l p<=kf key l q
def Same0(l r:List α)(a b:Nat):Prop:=∀ p,(p<a\/b<=p)->r[p]? = l[p]?
theorem Df(l:List α)(a b:Nat):Same0 l l a b:=λ_ _=>rfl
theorem Same0.trans{l r s:List α}{a b:Nat}(h1:Same0 l r a b)(h2:Same0 r s a b):Same0 l s a b:=λp hp=>(h2 p hp).trans (h1 p hp)
theorem Same0.wide{l r:List α}{a b c d:Nat}(h1:Same0 l r a b)(hc:c<=a)(hd:b<=d):Same0 l r c d:=λp hp=>h1 p (by omega)
theorem Same0.kf{l r:List α}{a b p:Nat}(h:Same0 l r a b)(hp:p<a\/b<=p):kf key r p=kf key l p:=by
 unfold Go.Proofs.YtpncilciembjdaaGreatDoor.kf;rw[h p hp]
theorem YO{l:List α}{i j a b:Nat}(h1:a<=i)(h2:i<b)(h3:a<=j)(h4:j<b):Same0 l (Dg l i j) a b:=λp hp=>YN (by omega) (by omega)
theorem YK{l:List α}{a i j:Nat}(hi:i<l.length)(ha:a<j)(hj:j<=i)(h:W3 key l a i j)(hlt:kf key l j<kf key l (j-1)):W3 key (Dg l j (j-1)) a i (j-1):=by
 intro p q h1 h2 h3 h4;rw[Wb key (by omega) (by omega),Wb key (by omega) (by omega)]
 by_cases q1:q=j
 .subst q1
  rw[Ad (show ¬ q=q-1 by omega),Ac rfl]
  by_cases p1:p=q-1
  .rw[Ac p1];omega
  .rw[Ad p1,Ad (by omega)]
   exact h p (q-1) h1 (by omega) (by omega) (by omega)
 .rw[Ad h4,Ad q1]
  by_cases p1:p=j-1
  .rw[Ac p1]
   exact h j q (by omega) (by omega) h3 q1
  .rw[Ad p1]
   by_cases p2:p=j
   .rw[Ac p2]
    exact h (j-1) q (by omega) (by omega) h3 q1
   .rw[Ad p2]
    exact h p q h1 h2 h3 q1
theorem Tw{l:List α}{a i j:Nat}(hj:j<=i)(h:W3 key l a i j)(he:j=a\/kf key l (j-1)<=kf key l j):Srt key l a (i+1):=by
 intro p q h1 h2 h3
 by_cases hq:q=j
 .subst hq
  rcases he with he|he
  .omega
  .by_cases hp:p=q-1
   .rw[hp];exact he
   .have:=h p (q-1) h1 (by omega) (by omega) (by omega)
    omega
 .exact h p q h1 h2 (by omega) hq
theorem Vz{l:List α}{a i:Nat}(h:Srt key l a i):W3 key l a i i:=λp q h1 h2 h3 h4=>h p q h1 h2 (by omega)
theorem Kd{l:List α}(h:Srt key l 0 l.length):l.Pairwise λx y=>key x<=key y:=by
 rw[List.pairwise_iff_getElem];intro i j hi hj hij;have:=h i j (by omega) hij hj
 rwa [Fy key hi,Fy key hj]at this
theorem Aio(l:List α)(a:Nat):Srt key l a (a+1):=λp q h1 h2 h3=>by omega
theorem Ain(l:List α)(a:Nat):Srt key l a a:=λp q h1 h2 h3=>by omega
end
def Ak:Ae->Nat
 |[]=>0
 |x::r=>x+4294967296*Ak r
def Limbs(l:Ae):Prop:=∀ x∈l,x<4294967296
def Bf(n:Nat):Ae:=if n=0 then [] else(n % 4294967296)::Bf (n / 4294967296)
termination_by n
decreasing_by omega
theorem EV:Bf 0=[]:=by rw[Bf];rfl
theorem Ho{n:Nat}(h:n≠0):Bf n=(n % 4294967296)::Bf (n / 4294967296):=by rw[Bf,Ad h]
theorem AK:∀(n:Nat),Limbs (Bf n):=by
 intro n
 induction n using Aun with
 |ind n ih=>
  by_cases h:n=0
  .subst h;rw[EV];intro x hx;cases hx
  .rw[Ho h]
   intro x hx;rcases Atd.1 hx with rfl|hx
   .exact AuP _ (by omega)
   .exact ih (n / 4294967296) (by omega) x hx
theorem Bm:∀(n:Nat),Ak (Bf n)=n:=by
 intro n
 induction n using Aun with
 |ind n ih=>
  by_cases h:n=0
  .subst h;rw[EV];rfl
  .rw[Ho h,Ak,ih (n / 4294967296) (by omega)]
   omega
def C5:Ae->Nat
 |[]=>0
 |x::r=>if C5 r=0/\x=0 then 0 else C5 r+1
theorem DZ:∀ l:Ae,C5 l<=l.length
 |[]=>η _
 |x::r=>by
  have:=DZ r;unfold C5;rw[Ate];split<;>omega
theorem Limbs.cons{x:Nat}{r:Ae}(h:Limbs (x::r)):x<4294967296/\Limbs r:=⟨h x (Atq ..),λy hy=>h y (Atj _ hy)⟩
theorem CH:Limbs []:=λ_ h=>by cases h
theorem BM{x:Nat}{r:Ae}(h:x<4294967296)(h2:Limbs r):Limbs (x::r):=λy hy=>by
 rcases Atd.1 hy with rfl|hy
 .exact h
 .exact h2 y hy
theorem Px{a b:Ae}(h:Limbs a)(h2:Limbs b):Limbs (a++b):=λx hx=>by
 rcases List.mem_append.1 hx with hx|hx
 .exact h x hx
 .exact h2 x hx
theorem Limbs.take{l:Ae}(h:Limbs l)(n:Nat):Limbs (l.take n):=λx hx=>h x (List.mem_of_mem_take hx)
theorem Limbs.drop{l:Ae}(h:Limbs l)(n:Nat):Limbs (l.drop n):=λx hx=>h x (At6 hx)
theorem Limbs.get{l:Ae}(h:Limbs l){i:Nat}(hi:i<l.length):l[i]<4294967296:=h _ (Ats hi)
theorem AcW:∀{l:Ae},C5 l=0->Ak l=0
 |[],_=>rfl
 |x::r,h=>by
  unfold C5 at h;split at h
  .rename_i h2
   rw[Ak,AcW h2.1,h2.2]
  .omega
theorem Ac5:∀{l:Ae},Ak l=0->C5 l=0
 |[],_=>rfl
 |x::r,h=>by
  rw[Ak]at h;unfold C5;rw[Ac ⟨Ac5 (by omega),by omega⟩]
theorem Kl:∀{l:Ae},Limbs l->l.take (C5 l)=Bf (Ak l)
 |[],_=>by rw[Ak,EV];rfl
 |x::r,h=>by
  obtain⟨h1,h2⟩:=h.cons;have ih:=Kl h2;unfold C5;split
  .rename_i h3
   rw[List.take_zero,Ak,AcW h3.1,h3.2,EV]
  .rename_i h3
   have h0:Ak (x::r)≠0:=by
    intro h0;rw[Ak]at h0;exact h3 ⟨Ac5 (by omega),by omega⟩
   rw[Au9,Ho h0,Ak];have e1:(x+4294967296*Ak r) % 4294967296=x:=by omega
   have e2:(x+4294967296*Ak r) / 4294967296=Ak r:=by omega
   rw[e1,e2,ih]
theorem F8:∀(a b:Ae),Ak (a++b)=Ak a+4294967296 ^ a.length*Ak b
 |[],b=>by simp[Ak]
 |x::r,b=>by
  rw[AuM,Ak,F8 r b,Ak,Ate,Auy,Avq,←Avf,AvV 4294967296 (4294967296 ^ r.length)];omega
theorem CR:∀{l:Ae},Limbs l->Ak l<4294967296 ^ l.length
 |[],_=>by simp[Ak]
 |x::r,h=>by
  obtain⟨h1,h2⟩:=h.cons;have:=CR h2;rw[Ak,Ate,Auy];omega
theorem Hm(l:Ae)(h:Limbs l):(Bf (Ak l)).length=C5 l:=by
 rw[←Kl h,AtN];have:=DZ l;omega
theorem Co{n k:Nat}(h:n<4294967296 ^ k):(Bf n).length<=k:=by
 induction k generalizing n with
 |zero=>
  have:n=0:=by simpa using h
  subst this;rw[EV];exact η _
 |succ k ih=>
  by_cases h0:n=0
  .subst h0;rw[EV];exact AtI _
  .rw[Ho h0,Ate]
   have:n / 4294967296<4294967296 ^ k:=by
    rw[Nat.div_lt_iff_lt_mul (by omega)];rw[Auy]at h;exact h
   have:=ih this;omega
theorem SM{n k:Nat}(h:4294967296 ^ k<=n):k<(Bf n).length:=by
 by_cases h2:k<(Bf n).length
 .exact h2
 .have h3:=CR (AK n)
  rw[Bm]at h3;have h4:4294967296 ^ (Bf n).length<=4294967296 ^ k:=Aus (by omega) (by omega);omega
theorem PZ:∀{l:Ae},0<C5 l->∃ x,l[C5 l-1]? = Δ x/\x≠0
 |[],h=>by simp[C5]at h
 |y::r,h=>by
  by_cases h1:C5 r=0
  .have h2:y≠0:=by
    intro h2;unfold C5 at h;rw[Ac ⟨h1,h2⟩]at h;omega
   refine⟨y,?_,h2⟩;unfold C5;rw[Ad (λe=>h2 e.2),h1];rfl
  .obtain⟨x,h3,h4⟩:=PZ (l:=r) (by omega)
   refine⟨x,?_,h4⟩;unfold C5;rw[Ad (λe=>h1 e.1)];have:C5 r+1-1=(C5 r-1)+1:=by omega
   rw[this,Atv,h3]
theorem Ru:∀{l:Ae} {i x:Nat},l[i]? = Δ x->x≠0->i<C5 l
 |[],i,x,h,_=>by simp at h
 |y::r,0,x,h,h2=>by
  have h:y=x:=by simpa using h
  unfold C5;rw[Ad (λe=>h2 (by rw[←h];exact e.2))];omega
 |y::r,i+1,x,h,h2=>by
  rw[Atv]at h;have:=Ru h h2;unfold C5;rw[Ad (λe=>by omega)];omega
theorem PY{l:Ae}{n:Nat}(h:C5 l<=n+1)(h2:l[n]? = Δ 0):C5 l<=n:=by
 by_cases h3:C5 l=n+1
 .obtain⟨x,h4,h5⟩:=PZ (l:=l) (by omega)
  rw[h3,Au0,h2]at h4;injection h4 with h4
  exact absurd h4.symm h5
 .omega
def eL(n:Nat):Aa:=[.v (.int .u32 (n:Int))]
def eN(l:Ae):AV:=.ls (l.map eL)
theorem Bp(x:Nat):(eL x).length=1:=rfl
def KC:Nat->Ae->Ae->Ae
 |c,[],_=>[c]
 |c,x::a,b=>((x+b.headD 0+c) % 4294967296)::KC ((x+b.headD 0+c) / 4294967296) a b.tail
theorem ES{b:Ae}(h:Limbs b):b.headD 0<4294967296:=by
 cases b with
 |nil=>simp
 |cons y b=>exact h.cons.1
theorem Limbs.tail{b:Ae}(h:Limbs b):Limbs b.tail:=by
 cases b with
 |nil=>exact h
 |cons y b=>exact h.cons.2
theorem Io(b:Ae):Ak b=b.headD 0+4294967296*Ak b.tail:=by
 cases b<;>rfl
theorem Lw:∀(a b:Ae) (c:Nat),b.length<=a.length->Ak (KC c a b)=c+Ak a+Ak b
 |[],b,c,h=>by
  obtain rfl:b=[]:=AvE.1 (by simpa using h);simp[KC,Ak]
 |x::a,b,c,h=>by
  have ih:=Lw a b.tail ((x+b.headD 0+c) / 4294967296) (by simp at h ⊢;omega);rw[KC,Ak,ih,Ak,Io b];omega
theorem IK:∀(a b:Ae) (c:Nat),Limbs a->Limbs b->c<=1->Limbs (KC c a b)
 |[],b,c,_,_,hc=>BM (by omega) CH
 |x::a,b,c,ha,hb,hc=>by
  have h1:=ES hb;have h2:=ha.cons;exact BM (AuP _ (by omega)) (IK a b.tail _ h2.2 hb.tail (by omega))
def Mj:Nat->Nat->Ae->Ae->Ae
 |0,_,_,_=>[]
 |k+1,c,a,b=>((a.headD 0+b.headD 0+c) % 4294967296)::Mj k ((a.headD 0+b.headD 0+c) / 4294967296) a.tail b.tail
theorem P4:∀(k c:Nat) (a b:Ae),Ak (Mj k c a b)=(c+Ak a+Ak b) % 4294967296 ^ k
 |0,c,a,b=>by simp[Mj,Ak,Nat.mod_one]
 |k+1,c,a,b=>by
  have ih:=P4 k ((a.headD 0+b.headD 0+c) / 4294967296) a.tail b.tail;rw[Mj,Ak,ih,Io a,Io b,Auy,AvV (4294967296 ^ k) 4294967296,Nat.mod_mul];have e1:(c+(a.headD 0+4294967296*Ak a.tail)+(b.headD 0+4294967296*Ak b.tail)) % 4294967296=(a.headD 0+b.headD 0+c) % 4294967296:=by omega
  have e2:(c+(a.headD 0+4294967296*Ak a.tail)+(b.headD 0+4294967296*Ak b.tail)) / 4294967296=(a.headD 0+b.headD 0+c) / 4294967296+Ak a.tail+Ak b.tail:=by omega
  rw[e1,e2]
theorem MT:∀(k c:Nat) (a b:Ae),Limbs (Mj k c a b)
 |0,_,_,_=>CH
 |k+1,c,a,b=>BM (AuP _ (by omega)) (MT k _ _ _)
def GD:Nat->Ae->Ae->Ae
 |_,[],_=>[]
 |c,x::a,b=>(if x<b.headD 0+c then x+4294967296-(b.headD 0+c) else x-(b.headD 0+c))::GD (if x<b.headD 0+c then 1 else 0) a b.tail
def VB:Nat->Ae->Ae->Nat
 |c,[],_=>c
 |c,x::a,b=>VB (if x<b.headD 0+c then 1 else 0) a b.tail
theorem WP:∀(a b:Ae) (c:Nat),c<=1->VB c a b<=1
 |[],_,_,h=>h
 |x::a,b,c,h=>WP a b.tail _ (by split<;>omega)
theorem P6:∀(a b:Ae) (c:Nat),Limbs a->Limbs b->c<=1->b.length<=a.length->Ak (GD c a b)+Ak b+c=Ak a+4294967296 ^ a.length*VB c a b
 |[],b,c,_,_,_,h=>by
  obtain rfl:b=[]:=AvE.1 (by simpa using h);simp[GD,VB,Ak]
 |x::a,b,c,ha,hb,hc,h=>by
  have h1:=ES hb;have h2:=ha.cons;rw[GD,VB,Ak,Ak,Io b,Ate,Auy];have ih:=P6 a b.tail (if x<b.headD 0+c then 1 else 0) h2.2 hb.tail (by split<;>omega) (by simp at h ⊢;omega);rw[AvV (4294967296 ^ a.length) 4294967296,Avf];revert ih;generalize 4294967296 ^ a.length*VB (if x<b.headD 0+c then 1 else 0) a b.tail=z;generalize Ak (GD (if x<b.headD 0+c then 1 else 0) a b.tail)=s;intro ih;split at ih
  .grind
  .grind
theorem GF:∀(a b:Ae) (c:Nat),Limbs a->Limbs b->c<=1->Limbs (GD c a b)
 |[],_,_,_,_,_=>CH
 |x::a,b,c,ha,hb,hc=>by
  have h1:=ES hb;have h2:=ha.cons;refine BM ?_ (GF a b.tail _ h2.2 hb.tail (by split<;>omega));split<;>omega
theorem Kj:∀(a b:Ae) (c:Nat),(GD c a b).length=a.length
 |[],_,_=>rfl
 |x::a,b,c=>by rw[GD,Ate,Kj a,Ate]
theorem TI{a b:Ae}(ha:Limbs a)(hb:Limbs b)(h:b.length<=a.length)(hv:Ak b<=Ak a):Ak (GD 0 a b)=Ak a-Ak b:=by
 have h1:=P6 a b 0 ha hb (by omega) h;have h2:=CR (GF a b 0 ha hb (by omega));rw[Kj]at h2;have h3:=WP a b 0 (by omega);have h4:=CR ha;rcases AtR (VB 0 a b) 1 with h5|h5
 .grind
 .grind
def NZ:Nat->Nat->Ae->Ae->Ae
 |_,c,[],o=>c::o.tail
 |x,c,y::b,o=>((x*y+o.headD 0+c) % 4294967296)::NZ x ((x*y+o.headD 0+c) / 4294967296) b o.tail
theorem P5:∀(x:Nat) (b o:Ae) (c:Nat),(o.drop b.length).headD 0=0->Ak (NZ x c b o)=x*Ak b+Ak o+c
 |x,[],o,c,h=>by
  grind [NZ,Ak,Io]
 |x,y::b,o,c,h=>by
  have h2:(o.tail.drop b.length).headD 0=0:=by
   simp_all
  have ih:=P5 x b o.tail ((x*y+o.headD 0+c) / 4294967296) h2;have e:x*(y+4294967296*Ak b)=x*y+4294967296*(x*Ak b):=by
   grind
  rw[NZ,Ak,ih,Ak,Io o,e];omega
theorem QL{x y:Nat}(hx:x<4294967296)(hy:y<4294967296):x*y<=18446744065119617025:=by
 have:=Nat.mul_le_mul (show x<=4294967295 by omega) (show y<=4294967295 by omega);omega
theorem N0:∀(x:Nat) (b o:Ae) (c:Nat),x<4294967296->Limbs b->Limbs o->c<4294967296->Limbs (NZ x c b o)
 |x,[],o,c,_,_,ho,hc=>BM hc ho.tail
 |x,y::b,o,c,hx,hb,ho,hc=>by
  have h1:=ES ho;have h2:=hb.cons;have h3:=QL hx h2.1;exact BM (AuP _ (by omega)) (N0 x b o.tail _ hx h2.2 ho.tail (by omega))
def FD:Nat->Nat->Ae->Ae
 |_,c,[]=>[c]
 |m,c,x::a=>((x*m+c) % 4294967296)::FD m ((x*m+c) / 4294967296) a
theorem Mf:∀(m:Nat) (a:Ae) (c:Nat),Ak (FD m c a)=Ak a*m+c
 |m,[],c=>by simp[FD,Ak]
 |m,x::a,c=>by
  rw[FD,Ak,Mf m a,Ak,At2,Avf];omega
theorem Ka:∀(m:Nat) (a:Ae) (c:Nat),m<4294967296->Limbs a->c<4294967296->Limbs (FD m c a)
 |m,[],c,_,_,hc=>BM hc CH
 |m,x::a,c,hm,ha,hc=>by
  have h2:=ha.cons;have h3:=QL h2.1 hm;exact BM (AuP _ (by omega)) (Ka m a _ hm h2.2 (by omega))
def DA(a b:Nat):Int:=if a<b then -1 else if b<a then 1 else 0
theorem RR{a b:Ae}(ha:Limbs a)(hb:Limbs b)(h:a.length=b.length)(x y:Nat):DA (Ak (a++[x])) (Ak (b++[y]))=if x<y then -1 else if y<x then 1 else DA (Ak a) (Ak b):=by
 rw[F8,F8,←h];have h1:=CR ha;have h2:=CR hb;rw[←h]at h2;simp only[Ak,Nat.mul_zero,Nat.add_zero];revert h1 h2;generalize 4294967296 ^ a.length=k;generalize Ak a=p;generalize Ak b=q;intro h1 h2
 by_cases h3:x<y
 .rw[Ac h3]
  have:k*(x+1)<=k*y:=Avo _ h3;rw[Avq]at this;unfold DA;rw[Ac (by omega)]
 .rw[Ad h3]
  by_cases h4:y<x
  .rw[Ac h4]
   have:k*(y+1)<=k*x:=Avo _ h4;rw[Avq]at this;unfold DA;rw[Ad (by omega),Ac (by omega)]
  .rw[Ad h4]
   obtain rfl:x=y:=by omega
   unfold DA
   by_cases h5:p<q
   .omega
   .omega
structure Zi where
 neg:Bool
 abs:Ae
def DX(neg:Bool)(n:Nat):Int:=if neg then -(n:Int) else n
def zv(z:Zi):Int:=DX z.neg (Ak z.abs)
def AY(n:Int):Zi:=⟨decide (n<0),Bf n.natAbs⟩
def eZ(z:Zi):Aa:=[bv z.neg,eN z.abs]
theorem Aij(n:Int):DX (decide (n<0)) n.natAbs=n:=by
 unfold DX
 by_cases h:n<0
 .rw[B3 h,Ac rfl];omega
 .rw[Cn h,Ad (by simp)];omega
theorem BY(n:Int):zv (AY n)=n:=by
 unfold zv AY;rw[Bm];exact Aij n
theorem W0(neg:Bool)(v:Nat):AY (DX neg v)=⟨neg&&decide (0<v),Bf v⟩:=by
 unfold AY DX
 cases neg with
 |false=>
  rw[Ad (by simp),Bool.false_and,Cn (by omega)];rfl
 |true=>
  rw[Ac rfl,Bool.true_and,Au4,Int.natAbs_natCast]
  congr 1
  by_cases h:0<v
  .rw[B3 h,B3 (by omega)]
  .rw[Cn h,Cn (by omega)]
theorem Ank:AY 0=⟨Ξ,[]⟩:=by
 unfold AY;rw[show (0:Int).natAbs=0 from rfl,EV];rfl
structure Lz (k:Nat) (z:Zi):Prop where
 lim:Limbs z.abs
 len:z.abs.length<=k
theorem Lz.mono{k m:Nat}{z:Zi}(h:Lz k z)(hm:k<=m):Lz m z:=⟨h.lim,by have:=h.len;omega⟩
def InB(k:Nat)(n:Int):Prop:=n.natAbs<4294967296 ^ k
theorem InB.lz{k:Nat}{n:Int}(h:InB k n):Lz k (AY n):=⟨AK _,Co h⟩
theorem Lz.inb{k:Nat}{z:Zi}(h:Lz k z):InB k (zv z):=by
 unfold InB zv;have h1:=CR h.lim;have h2:4294967296 ^ z.abs.length<=4294967296 ^ k:=Aus (by omega) h.len;have h3:(DX z.neg (Ak z.abs)).natAbs=Ak z.abs:=by
  unfold DX;split
  .rw[Au4];rfl
  .rfl
 omega
theorem InB.mono{k m:Nat}{n:Int}(h:InB k n)(hm:k<=m):InB m n:=by
 unfold InB at *;have h2:4294967296 ^ k<=4294967296 ^ m:=Aus (by omega) hm;omega
theorem InB.add{k:Nat}{a b:Int}(ha:InB k a)(hb:InB k b):InB (k+1) (a+b):=by
 unfold InB at *;have:=Int.natAbs_add_le a b;rw[Auy];omega
theorem InB.neg{k:Nat}{a:Int}(ha:InB k a):InB k (-a):=by
 unfold InB at *;rw[Au4];exact ha
theorem InB.mul{k m:Nat}{a b:Int}(ha:InB k a)(hb:InB m b):InB (k+m) (a*b):=by
 unfold InB at *;rw[Int.natAbs_mul,Nat.pow_add];have h1:a.natAbs*b.natAbs<=a.natAbs*4294967296 ^ m:=Avo _ (Nat.le_of_lt hb);have h2:a.natAbs*4294967296 ^ m<4294967296 ^ k*4294967296 ^ m:=Nat.mul_lt_mul_of_pos_right ha (Awm (by omega));omega
theorem InB.zero(k:Nat):InB k 0:=by
 unfold InB;exact Awm (by omega)
theorem InB.one{k:Nat}(h:1<=k):InB k 1:=by
 have:InB 1 1:=by unfold InB;decide
 exact this.mono h
def Iq(a b:Int):Int:=if a<b then -1 else if b<a then 1 else 0
def C4(n:Int):Int:=if n<0 then -1 else if 0<n then 1 else 0
theorem Ado(z:Zi):zv z<0 ↔ z.neg=U/\0<Ak z.abs:=by
 obtain⟨n,l⟩:=z
 cases n with
 |true=>
  show (-(Ak l:Int)<0) ↔ (U=U/\0<Ak l)
  exact⟨λh=>⟨rfl,by omega⟩,λh=>by have:=h.2;omega⟩
 |false=>
  show ((Ak l:Int)<0) ↔ (Ξ=U/\0<Ak l)
  exact⟨λh=>by omega,λh=>by cases h.1⟩
theorem W1(z:Zi):zv z=0 ↔ Ak z.abs=0:=by
 unfold zv DX;split<;>omega
theorem EC{n:Nat}:0<(Bf n).length ↔ 0<n:=by
 constructor
 .intro h
  by_cases h0:n=0
  .subst h0;rw[EV]at h;simp at h
  .omega
 .intro h
  rw[Ho (by omega)];simp
theorem CO{a b:Int}(h:a=b){x y:KR}:br (Ah.eq a b) x y=x:=by rw[Apu,B3 h];rfl
theorem Ba{a b:Int}{x y z:KR}(g:x=z)(h: a=b:=by omega):br (Ah.eq a b) x y=z:=(CO h).trans g
theorem BA{a b:Int}(h:¬ a=b){x y:KR}:br (Ah.eq a b) x y=y:=by rw[Apu,Cn h];rfl
theorem AO{a b:Int}{x y z:KR}(g:y=z)(h:¬ a=b:=by omega):br (Ah.eq a b) x y=z:=(BA h).trans g
theorem AdD{a b:ByteArray}(h:a=b){x y:KR}:br (Ah.seq a b) x y=x:=by rw[Apy,B3 h];rfl
theorem Aii{a b:ByteArray}{x y z:KR}(h: a=b)(g:x=z):br (Ah.seq a b) x y=z:=(AdD h).trans g
theorem Qi{a b:Int}(h:a<b){x y:KR}:br (Ah.lt a b) x y=x:=by rw[Apw,B3 h];rfl
theorem Au{a b:Int}{x y z:KR}(g:x=z)(h: a<b:=by omega):br (Ah.lt a b) x y=z:=(Qi h).trans g
theorem DO{a b:Int}(h:¬ a<b){x y:KR}:br (Ah.lt a b) x y=y:=by rw[Apw,Cn h];rfl
theorem At{a b:Int}{x y z:KR}(g:y=z)(h:¬ a<b:=by omega):br (Ah.lt a b) x y=z:=(DO h).trans g
theorem AkZ{a b:Int}(h:a<=b){x y:KR}:br (Ah.le a b) x y=x:=by rw[Apv,B3 h];rfl
theorem Cz{a b:Int}{x y z:KR}(g:x=z)(h: a≤b:=by omega):br (Ah.le a b) x y=z:=(AkZ h).trans g
theorem ZA{a b:Int}(h:¬ a<=b){x y:KR}:br (Ah.le a b) x y=y:=by rw[Apv,Cn h];rfl
theorem CQ{a b:Int}{x y z:KR}(g:y=z)(h:¬ a≤b:=by omega):br (Ah.le a b) x y=z:=(ZA h).trans g
section
open Go.RowKit
def Abq:MFn:=AE [] 157
def AjD:Hnt:=⟨[],[],[]⟩
def AlF:MFn:=AE [] 84
def AoG:Hnt:=⟨[(157,(.bool,[]))],[],[]⟩
def Abo:MFn:=AE [] 137
def Aju:Hnt:=⟨[(84,(.int .i64,[]))],[],[(6,[.int .i64]),(8,[.int .i64])]⟩
def Abp:MFn:=AE [] 141
def Ajx:Hnt:=⟨[(64,(.int .i64,[]))],[],[(4,Bv)]⟩
def Abn:MFn:=JP ζ Bn [] Ξ U 136
def Ajt:Hnt:=⟨[(137,(.int .i64,[])),(196,(.tup [],[.row U]))],[],[]⟩
def JO:MFn:=JP ζ Bn [⟨63,(mB 455),[],[],[(1,((mB 199),([],[1000000])))]⟩,⟨63,(mB 71),[],[],[(3,([U],([],[1000000])))]⟩,⟨63,(mB 455),[],[],[(5,((mB 199),([],[1000000])))]⟩] Ξ U 196
def GO:Hnt:=⟨[(137,(.int .i64,[])),(234,(.tup [],[.row U])),(235,(.tup [],[.row U]))],[(0,[(1,([.sl 0 3,.int .i64,.fnc 137,.int .i64,.int .i64],[.row U]))]),(1,[(3,([.sl 0 3],[.row U]))]),(2,[(5,([.sl 0 3,.int .i64,.fnc 137,.int .i64,.int .i64],[.row U]))])],[]⟩
def NV:MFn:=JP ζ Bn [⟨53,(mB 271),[],[],[(1,([U],([],[1000000])))]⟩,⟨53,(mB 783),[],[],[(3,((mB 271),([],[1000000])))]⟩] Ξ U 234
def Hd:Hnt:=⟨[(137,(.int .i64,[]))],[(0,[(1,([.sl 0 3],[.row U]))]),(1,[(3,([.sl 0 3,.int .i64,.int .i64,.fnc 137,.int .i64],[.row U]))])],[(25,Bz),(26,Bz),(30,Bz),(31,Bz),(45,Bz),(46,Bz),(49,Bz),(50,Bz),(51,Bz),(52,Bz)]⟩
def GQ:MFn:=JP ζ Bn [⟨220,(mB 3091),[],[],[(1,((mB 1027),([],[1000000])))]⟩,⟨220,(mB 9217),[],[],[(3,([U],([],[1000000])))]⟩,⟨220,(mB 49173),[],[],[(5,((mB 16389),([],[1000000])))]⟩,⟨220,(mB 147457),[],[],[(7,([U],([],[1000000])))]⟩,⟨220,(mB 8126495),[],[],[(9,((mB 1835039),([],[1000000])))]⟩] Ξ U 235
def CG:Hnt:=⟨[(137,(.int .i64,[])),(235,(.tup [],[.row U])),(265,(.tup [],[.row U]))],[(0,[(1,([.sl 0 3,.int .i64,.int .i64],[.row U]))]),(1,[(3,([.sl 0 3],[.row U]))]),(2,[(5,([.sl 0 3,.int .i64,.int .i64],[.row U]))]),(3,[(7,([.sl 0 3],[.row U]))]),(4,[(9,([.sl 0 3,.int .i64,.int .i64,.int .i64,.fnc 137,.int .i64,.int .i64,.int .i64],[.row U]))])],[(43,Bz),(44,Bz),(47,Bz),(48,Bz),(69,Bz),(70,Bz),(73,Bz),(74,Bz),(75,Bz),(76,Bz),(95,Bz),(96,Bz),(99,Bz),(100,Bz),(121,Bz),(122,Bz),(125,Bz),(126,Bz),(127,Bz),(128,Bz),(163,Bz),(164,Bz),(167,Bz),(168,Bz)]⟩
def Ww:MFn:=JP ζ Bn [⟨58,(mB 3093),[],[],[(1,((mB 1045),([],[1000000])))]⟩] Ξ U 265
def Ps:Hnt:=⟨[(137,(.int .i64,[])),(275,(.tup [],[.row U]))],[(0,[(1,([.sl 0 3,.int .i64,.fnc 137,.int .i64],[.row U]))])],[]⟩
def Wy:MFn:=JP ζ Bn [⟨38,(mB 1039),[],[],[(1,([U],([],[1000000])))]⟩] Ξ U 275
def Sz:Hnt:=⟨[(137,(.int .i64,[]))],[(0,[(1,([.sl 0 3],[.row U]))])],[(28,Bz),(29,Bz),(34,Bz),(35,Bz),(36,Bz),(37,Bz)]⟩
def SS:MFn:=JP ζ Bn [⟨42,(mB 99),[],[],[(1,((mB 33),([],[1000000])))]⟩] U U 140
def Ny:Hnt:=⟨[(141,(.bool,[])),(199,(.int .i64,[.row U]))],[(0,[(1,([.sl 0 3,.int .i64],[.row U]))])],[(24,Bz),(25,Bz),(27,Bz),(32,Bz),(33,Bz)]⟩
def SU:MFn:=JP ζ Bn [⟨19,(mB 387),[],[],[(0,((mB 17),([],[1000000]))),(1,([U],([],[1000000])))]⟩] Ξ U 199
def NA:Hnt:=⟨[(141,(.bool,[]))],[(0,[(0,([.sl 0 3,.int .i64],[.row U])),(1,([.sl 0 3],[.row U]))])],[(14,Bz),(15,Bz)]⟩
def Es:List (Nat × MFn):=[(157,Abq),(84,AlF),(137,Abo),(141,Abp),(136,Abn),(196,JO),(234,NV),(235,GQ),(265,Ww),(275,Wy),(140,SS),(199,SU)]
variable (A:Ar) (D:Orc)
theorem AqD(x0:Int):BZ A D Aq AjD .n 157 Abq [iv x0] [] =
 br (A.eq x0 x0)
 (Δ ((bv Ξ,[])))
 (Δ ((bv U,[]))):=by kernel_rfl
theorem e84(x0 x1:Int):BZ A D Aq AoG .n 84 AlF [iv x0,iv x1] [] =
 Ag D (ω 157) [iv x0] [] [.b,.E] λb=>
 br b
 (Ag D (ω 157) [iv x1] [] [.b,.E] λb1=>
 br b1
 (Δ ((iv 0,[])))
 (Δ ((iv (-1),[]))))
 (Ag D (ω 157) [iv x1] [] [.b,.E] λb1=>
 br b1
 (Δ ((iv 1,[])))
 (br (A.lt x0 x1)
 (Δ ((iv (-1),[])))
 (br (A.lt x1 x0)
 (Δ ((iv 1,[])))
 (Δ ((iv 0,[])))))):=by kernel_rfl
theorem Aqs(x0_0:Int)(x0_1:Bool)(x0_2:Rw)(x1_0:Int)(x1_1:Bool)(x1_2:Rw):BZ A D Aq Aju .n 137 Abo [ξ [iv x0_0,bv x0_1,Φ x0_2],ξ [iv x1_0,bv x1_1,Φ x1_2]] [] =
 Ag D (ω 84) [iv x0_0,iv x1_0] [] [.i,.E] λn=>
 Δ ((iv n,[])):=by kernel_rfl
theorem Aqv(x0_0:Int)(x0_1:Bool)(x0_2:Rw):BZ A D Aq Ajx .n 141 Abp [ξ [iv x0_0,bv x0_1,Φ x0_2]] [] =
 Ag D (ω 64) [ξ [bv x0_1,Φ x0_2]] [] [.i,.E] λn=>
 br (A.eq n 0)
 (Δ ((bv U,[])))
 (Δ ((bv Ξ,[]))):=by kernel_rfl
theorem Aqr(n0:Nat)(c0:Aa):BZ A D Aq Ajt .n 136 Abn [π 0 0 n0 3,Att (Fn.func 137) [] []] [{ cells:=c0,st:=U,ex:=U }] =
 Ag D (ω 196) [π 0 0 n0 3,iv ↑n0,Att (Fn.func 137) [] []] [Ψ c0 U U] [.t,.N,.R,.X,.E] λcs1=>
 Δ ((Ath [],[Atb (Ψ cs1 U U)])):=by kernel_rfl
theorem AqS(n0:Nat)(c0:Aa)(x1:Int):BZ A D Aq GO .n 196 JO [π 0 0 n0 3,iv x1,Att (Fn.func 137) [] []] [{ cells:=c0,st:=U,ex:=U }] =
 Ag D (ο 196 0) [π 0 0 n0 3,iv x1,Att (Fn.func 137) [] [],iv 20,iv 0,iv 20] [Ψ c0 U U] [.t,.C,.x,.X,.Y] λc l o=>
 br (Bg 1 c)
 (dk [.C,.q 0 3,.I,.C,.f 137,.I,.I,.N,.R,.X,.E] [.l l,.o o] λn n1 n2 n3 cs1=>
 Ag D (ω 234) [π 0 0 n 3,iv n3,iv n1,Att (Fn.func 137) [] []] [Ψ cs1 U U] [.t,.N,.R,.X,.E] λcs3=>
 Ag D (ο 196 1) [π 0 0 n 3,iv n1,Att (Fn.func 137) [] [],iv n2] [Ψ cs3 U U] [.t,.C,.x,.X,.Y] λc5 l8 o2=>
 br (Bg 3 c5)
 (dk [.C,.q 0 3,.N,.R,.X,.E] [.l l8,.o o2] λ_ cs5=>
 Δ ((Ath [],[Atb (Ψ cs5 U U)])))
 (Θ))
 (Θ):=by kernel_rfl
theorem Z2(n0:Nat)(c0:Aa)(t1 t6 t7 t8:Int):C2 A D Aq GO .n 196 0 (AN JO 0).fst (AN JO 0).snd [π 0 0 n0 3,iv t1,Att (Fn.func 137) [] [],iv t6,iv t7,iv t8] [{ cells:=c0,st:=U,ex:=U }] =
 br (A.le t8 t1)
 (Ag D (ω 234) [π 0 0 n0 3,iv t7,iv t8,Att (Fn.func 137) [] []] [Ψ c0 U U] [.t,.N,.R,.X,.E] λcs1=>
 AT D (ο 196 0) [π 0 0 n0 3,iv t1,Att (Fn.func 137) [] [],iv t6,iv t8,iv (A.add Ω t8 t6)] [Ψ cs1 U U] λr1 o1=>
 AI 1 [0] (AH.mk [(0,Ψ cs1 U U)] 1 Θ) [0] r1 o1)
 (Δ ((Ath [iv 0,π 0 0 n0 3,iv t1,Att (Fn.func 137) [] [],iv t6,iv t7],[Atb (Ψ c0 U U)]))):=by kernel_rfl
theorem Uj(n0:Nat)(c0:Aa)(t1 t6:Int):C2 A D Aq GO .n 196 1 (AN JO 1).fst (AN JO 1).snd [π 0 0 n0 3,iv t1,Att (Fn.func 137) [] [],iv t6] [{ cells:=c0,st:=U,ex:=U }] =
 br (A.lt t6 t1)
 (Ag D (ο 196 2) [π 0 0 n0 3,iv t1,Att (Fn.func 137) [] [],iv t6,iv 0,iv (A.mul Ω 2 t6)] [Ψ c0 U U] [.t,.C,.x,.X,.Y] λc l o=>
 br (Bg 5 c)
 (dk [.C,.q 0 3,.I,.C,.f 137,.I,.I,.N,.R,.X,.E] [.l l,.o o] λn n1 n2 n3 cs1=>
 br (A.lt (A.add Ω n3 n2) n1)
 (Ag D (ω 235) [π 0 0 n 3,iv n3,iv (A.add Ω n3 n2),iv n1,Att (Fn.func 137) [] []] [Ψ cs1 U U] [.t,.N,.R,.X,.E] λcs3=>
 AT D (ο 196 1) [π 0 0 n 3,iv n1,Att (Fn.func 137) [] [],iv (A.mul Ω n2 2)] [Ψ cs3 U U] λr2 o2=>
 AI 1 [0] (AH.mk [(0,Ψ cs3 U U)] 1 Θ) [0] r2 o2)
 (AT D (ο 196 1) [π 0 0 n 3,iv n1,Att (Fn.func 137) [] [],iv (A.mul Ω n2 2)] [Ψ cs1 U U] λr1 o1=>
 AI 1 [0] (AH.mk [(0,Ψ cs1 U U)] 1 Θ) [0] r1 o1))
 (Θ))
 (Δ ((Ath [iv 2,π 0 0 n0 3],[Atb (Ψ c0 U U)]))):=by kernel_rfl
theorem Z3(n0:Nat)(c0:Aa)(t1 t6 t7 t8:Int):C2 A D Aq GO .n 196 2 (AN JO 2).fst (AN JO 2).snd [π 0 0 n0 3,iv t1,Att (Fn.func 137) [] [],iv t6,iv t7,iv t8] [{ cells:=c0,st:=U,ex:=U }] =
 br (A.le t8 t1)
 (Ag D (ω 235) [π 0 0 n0 3,iv t7,iv (A.add Ω t7 t6),iv t8,Att (Fn.func 137) [] []] [Ψ c0 U U] [.t,.N,.R,.X,.E] λcs1=>
 AT D (ο 196 2) [π 0 0 n0 3,iv t1,Att (Fn.func 137) [] [],iv t6,iv t8,iv (A.add Ω t8 (A.mul Ω 2 t6))] [Ψ cs1 U U] λr1 o1=>
 AI 1 [0] (AH.mk [(0,Ψ cs1 U U)] 1 Θ) [0] r1 o1)
 (Δ ((Ath [iv 4,π 0 0 n0 3,iv t1,Att (Fn.func 137) [] [],iv t6,iv t7],[Atb (Ψ c0 U U)]))):=by kernel_rfl
theorem Aoe(n0:Nat)(c0:Aa)(x1 x2:Int):BZ A D Aq Hd .n 234 NV [π 0 0 n0 3,iv x1,iv x2,Att (Fn.func 137) [] []] [{ cells:=c0,st:=U,ex:=U }] =
 Ag D (ο 234 0) [π 0 0 n0 3,iv x1,iv x2,Att (Fn.func 137) [] [],iv (A.add Ω x1 1)] [Ψ c0 U U] [.t,.C,.x,.X,.Y] λc l o=>
 br (Bg 1 c)
 (dk [.C,.q 0 3,.N,.R,.X,.E] [.l l,.o o] λ_ cs1=>
 Δ ((Ath [],[Atb (Ψ cs1 U U)])))
 (Θ):=by kernel_rfl
theorem Uk(n0:Nat)(c0:Aa)(t1 t2 t8:Int):C2 A D Aq Hd .n 234 0 (AN NV 0).fst (AN NV 0).snd [π 0 0 n0 3,iv t1,iv t2,Att (Fn.func 137) [] [],iv t8] [{ cells:=c0,st:=U,ex:=U }] =
 br (A.lt t8 t2)
 (Ag D (ο 234 1) [π 0 0 n0 3,iv t1,iv t2,Att (Fn.func 137) [] [],iv t8,iv t8] [Ψ c0 U U] [.t,.C,.x,.X,.Y] λc l o=>
 br (Bg 3 c)
 (dk [.C,.q 0 3,.I,.I,.C,.f 137,.I,.N,.R,.X,.E] [.l l,.o o] λn n1 n2 n3 cs1=>
 AT D (ο 234 0) [π 0 0 n 3,iv n1,iv n2,Att (Fn.func 137) [] [],iv (A.add Ω n3 1)] [Ψ cs1 U U] λr1 o1=>
 AI 1 [0] (AH.mk [(0,Ψ cs1 U U)] 1 Θ) [0] r1 o1)
 (Θ))
 (Δ ((Ath [iv 0,π 0 0 n0 3],[Atb (Ψ c0 U U)]))):=by kernel_rfl
theorem Ul(n0:Nat)(c0:Aa)(t1 t2 t8 t9:Int):C2 A D Aq Hd .n 234 1 (AN NV 1).fst (AN NV 1).snd [π 0 0 n0 3,iv t1,iv t2,Att (Fn.func 137) [] [],iv t8,iv t9] [{ cells:=c0,st:=U,ex:=U }] =
 br (A.lt t1 t9)
 (unI t9 λi=>
 br (i.blt n0) (EX c0 (0+i*3) 3 λcs=>
 dk [.I,.B,.L,.N] [.l cs] λn b xs=>
 unI (A.sub Ω t9 1) λi1=>
 br (i1.blt n0) (EX c0 (0+i1*3) 3 λcs1=>
 dk [.I,.B,.L,.N] [.l cs1] λn1 b1 xs1=>
 Ag D (ω 137) [ξ [iv n,bv b,Φ xs],ξ [iv n1,bv b1,Φ xs1]] [] [.i,.E] λn2=>
 br (A.lt n2 0)
 (unI (A.sub Ω t9 1) λi2=>
 br (i2.blt n0) (EX c0 (0+i2*3) 3 λcs2=>
 dk [.I,.B,.L,.N] [.l cs2] λn3 b2 xs2=>
 unI t9 λi3=>
 br (i3.blt n0) (EX c0 (0+i3*3) 3 λcs3=>
 dk [.I,.B,.L,.N] [.l cs3] λn4 b3 xs3=>
 unI t9 λi4=>
 br (i4.blt n0) (br ((0+i4*3+3).ble c0.length) (unI (A.sub Ω t9 1) λi5=>
 br (i5.blt n0) (br ((0+i5*3+3).ble (AG c0 (0+i4*3) [iv n3,bv b2,Φ xs2]).length) (AT D (ο 234 1) [π 0 0 n0 3,iv t1,iv t2,Att (Fn.func 137) [] [],iv t8,iv (A.sub Ω t9 1)] [Ψ (AG (AG c0 (0+i4*3) [iv n3,bv b2,Φ xs2]) (0+i5*3) [iv n4,bv b3,Φ xs3]) U U] λr1 o1=>
 AI 1 [0] (AH.mk [(0,Ψ (AG (AG c0 (0+i4*3) [iv n3,bv b2,Φ xs2]) (0+i5*3) [iv n4,bv b3,Φ xs3]) U U)] 1 Θ) [0] r1 o1) Θ) Θ) Θ) Θ) Θ) Θ)
 (Δ ((Ath [iv 2,π 0 0 n0 3,iv t1,iv t2,Att (Fn.func 137) [] [],iv t8],[Atb (Ψ c0 U U)])))) Θ) Θ)
 (Δ ((Ath [iv 2,π 0 0 n0 3,iv t1,iv t2,Att (Fn.func 137) [] [],iv t8],[Atb (Ψ c0 U U)]))):=by kernel_rfl
theorem R1(n0:Nat)(c0:Aa)(x1 x2 x3:Int):BZ A D Aq CG .n 235 GQ [π 0 0 n0 3,iv x1,iv x2,iv x3,Att (Fn.func 137) [] []] [{ cells:=c0,st:=U,ex:=U }] =
 br (A.eq (A.sub Ω x2 x1) 1)
 (Ag D (ο 235 0) [π 0 0 n0 3,iv x1,Att (Fn.func 137) [] [],iv x2,iv x3] [Ψ c0 U U] [.t,.C,.x,.X,.Y] λc l o=>
 br (Bg 1 c)
 (dk [.C,.q 0 3,.I,.I,.N,.R,.X,.E] [.l l,.o o] λn n1 n2 cs1=>
 Ag D (ο 235 1) [π 0 0 n 3,iv n2,iv n1] [Ψ cs1 U U] [.t,.C,.x,.X,.Y] λc3 l5 o1=>
 br (Bg 3 c3)
 (dk [.C,.q 0 3,.N,.R,.X,.E] [.l l5,.o o1] λ_ cs3=>
 Δ ((Ath [],[Atb (Ψ cs3 U U)])))
 (Θ))
 (Θ))
 (br (A.eq (A.sub Ω x3 x2) 1)
 (Ag D (ο 235 2) [π 0 0 n0 3,iv x2,Att (Fn.func 137) [] [],iv x1,iv x2] [Ψ c0 U U] [.t,.C,.x,.X,.Y] λc l o=>
 br (Bg 5 c)
 (dk [.C,.q 0 3,.I,.I,.N,.R,.X,.E] [.l l,.o o] λn n1 n2 cs1=>
 Ag D (ο 235 3) [π 0 0 n 3,iv n2,iv n1] [Ψ cs1 U U] [.t,.C,.x,.X,.Y] λc3 l5 o1=>
 br (Bg 7 c3)
 (dk [.C,.q 0 3,.N,.R,.X,.E] [.l l5,.o o1] λ_ cs3=>
 Δ ((Ath [],[Atb (Ψ cs3 U U)])))
 (Θ))
 (Θ))
 (br (A.lt 1 0)
 (Θ)
 (br (A.lt (A.conv Ω (A.shr φ (A.conv φ (A.add Ω x1 x3)) 1)) x2)
 (Ag D (ο 235 4) [π 0 0 n0 3,iv x1,iv x2,iv x3,Att (Fn.func 137) [] [],iv (A.conv Ω (A.shr φ (A.conv φ (A.add Ω x1 x3)) 1)),iv (A.add Ω (A.conv Ω (A.shr φ (A.conv φ (A.add Ω x1 x3)) 1)) x2),iv (A.sub Ω (A.add Ω (A.conv Ω (A.shr φ (A.conv φ (A.add Ω x1 x3)) 1)) x2) x3),iv (A.conv Ω (A.shr φ (A.conv φ (A.add Ω x1 x3)) 1)),iv (A.sub Ω (A.add Ω (A.conv Ω (A.shr φ (A.conv φ (A.add Ω x1 x3)) 1)) x2) 1)] [Ψ c0 U U] [.t,.C,.x,.X,.Y] λc l o=>
 br (Bg 9 c)
 (dk [.C,.q 0 3,.I,.I,.I,.C,.f 137,.I,.I,.I,.N,.R,.X,.E] [.l l,.o o] λn n1 n2 n3 n4 n5 n6 cs1=>
 br (A.lt n6 n2)
 (br (A.lt n2 (A.sub Ω n5 n6))
 (Ag D (ω 265) [π 0 0 n 3,iv n6,iv n2,iv (A.sub Ω n5 n6),Att (Fn.func 137) [] []] [Ψ cs1 U U] [.t,.N,.R,.X,.E] λcs3=>
 br (A.lt n1 n6)
 (br (A.lt n6 n4)
 (Ag D (ω 235) [π 0 0 n 3,iv n1,iv n6,iv n4,Att (Fn.func 137) [] []] [Ψ cs3 U U] [.t,.N,.R,.X,.E] λcs5=>
 br (A.lt n4 (A.sub Ω n5 n6))
 (br (A.lt (A.sub Ω n5 n6) n3)
 (Ag D (ω 235) [π 0 0 n 3,iv n4,iv (A.sub Ω n5 n6),iv n3,Att (Fn.func 137) [] []] [Ψ cs5 U U] [.t,.N,.R,.X,.E] λcs7=>
 Δ ((Ath [],[Atb (Ψ cs7 U U)])))
 (Δ ((Ath [],[Atb (Ψ cs5 U U)]))))
 (Δ ((Ath [],[Atb (Ψ cs5 U U)]))))
 (br (A.lt n4 (A.sub Ω n5 n6))
 (br (A.lt (A.sub Ω n5 n6) n3)
 (Ag D (ω 235) [π 0 0 n 3,iv n4,iv (A.sub Ω n5 n6),iv n3,Att (Fn.func 137) [] []] [Ψ cs3 U U] [.t,.N,.R,.X,.E] λcs5=>
 Δ ((Ath [],[Atb (Ψ cs5 U U)])))
 (Δ ((Ath [],[Atb (Ψ cs3 U U)]))))
 (Δ ((Ath [],[Atb (Ψ cs3 U U)])))))
 (br (A.lt n4 (A.sub Ω n5 n6))
 (br (A.lt (A.sub Ω n5 n6) n3)
 (Ag D (ω 235) [π 0 0 n 3,iv n4,iv (A.sub Ω n5 n6),iv n3,Att (Fn.func 137) [] []] [Ψ cs3 U U] [.t,.N,.R,.X,.E] λcs5=>
 Δ ((Ath [],[Atb (Ψ cs5 U U)])))
 (Δ ((Ath [],[Atb (Ψ cs3 U U)]))))
 (Δ ((Ath [],[Atb (Ψ cs3 U U)])))))
 (br (A.lt n1 n6)
 (br (A.lt n6 n4)
 (Ag D (ω 235) [π 0 0 n 3,iv n1,iv n6,iv n4,Att (Fn.func 137) [] []] [Ψ cs1 U U] [.t,.N,.R,.X,.E] λcs3=>
 br (A.lt n4 (A.sub Ω n5 n6))
 (br (A.lt (A.sub Ω n5 n6) n3)
 (Ag D (ω 235) [π 0 0 n 3,iv n4,iv (A.sub Ω n5 n6),iv n3,Att (Fn.func 137) [] []] [Ψ cs3 U U] [.t,.N,.R,.X,.E] λcs5=>
 Δ ((Ath [],[Atb (Ψ cs5 U U)])))
 (Δ ((Ath [],[Atb (Ψ cs3 U U)]))))
 (Δ ((Ath [],[Atb (Ψ cs3 U U)]))))
 (br (A.lt n4 (A.sub Ω n5 n6))
 (br (A.lt (A.sub Ω n5 n6) n3)
 (Ag D (ω 235) [π 0 0 n 3,iv n4,iv (A.sub Ω n5 n6),iv n3,Att (Fn.func 137) [] []] [Ψ cs1 U U] [.t,.N,.R,.X,.E] λcs3=>
 Δ ((Ath [],[Atb (Ψ cs3 U U)])))
 (Δ ((Ath [],[Atb (Ψ cs1 U U)]))))
 (Δ ((Ath [],[Atb (Ψ cs1 U U)])))))
 (br (A.lt n4 (A.sub Ω n5 n6))
 (br (A.lt (A.sub Ω n5 n6) n3)
 (Ag D (ω 235) [π 0 0 n 3,iv n4,iv (A.sub Ω n5 n6),iv n3,Att (Fn.func 137) [] []] [Ψ cs1 U U] [.t,.N,.R,.X,.E] λcs3=>
 Δ ((Ath [],[Atb (Ψ cs3 U U)])))
 (Δ ((Ath [],[Atb (Ψ cs1 U U)]))))
 (Δ ((Ath [],[Atb (Ψ cs1 U U)]))))))
 (br (A.lt n1 n6)
 (br (A.lt n6 n4)
 (Ag D (ω 235) [π 0 0 n 3,iv n1,iv n6,iv n4,Att (Fn.func 137) [] []] [Ψ cs1 U U] [.t,.N,.R,.X,.E] λcs3=>
 br (A.lt n4 (A.sub Ω n5 n6))
 (br (A.lt (A.sub Ω n5 n6) n3)
 (Ag D (ω 235) [π 0 0 n 3,iv n4,iv (A.sub Ω n5 n6),iv n3,Att (Fn.func 137) [] []] [Ψ cs3 U U] [.t,.N,.R,.X,.E] λcs5=>
 Δ ((Ath [],[Atb (Ψ cs5 U U)])))
 (Δ ((Ath [],[Atb (Ψ cs3 U U)]))))
 (Δ ((Ath [],[Atb (Ψ cs3 U U)]))))
 (br (A.lt n4 (A.sub Ω n5 n6))
 (br (A.lt (A.sub Ω n5 n6) n3)
 (Ag D (ω 235) [π 0 0 n 3,iv n4,iv (A.sub Ω n5 n6),iv n3,Att (Fn.func 137) [] []] [Ψ cs1 U U] [.t,.N,.R,.X,.E] λcs3=>
 Δ ((Ath [],[Atb (Ψ cs3 U U)])))
 (Δ ((Ath [],[Atb (Ψ cs1 U U)]))))
 (Δ ((Ath [],[Atb (Ψ cs1 U U)])))))
 (br (A.lt n4 (A.sub Ω n5 n6))
 (br (A.lt (A.sub Ω n5 n6) n3)
 (Ag D (ω 235) [π 0 0 n 3,iv n4,iv (A.sub Ω n5 n6),iv n3,Att (Fn.func 137) [] []] [Ψ cs1 U U] [.t,.N,.R,.X,.E] λcs3=>
 Δ ((Ath [],[Atb (Ψ cs3 U U)])))
 (Δ ((Ath [],[Atb (Ψ cs1 U U)]))))
 (Δ ((Ath [],[Atb (Ψ cs1 U U)]))))))
 (Θ))
 (Ag D (ο 235 4) [π 0 0 n0 3,iv x1,iv x2,iv x3,Att (Fn.func 137) [] [],iv (A.conv Ω (A.shr φ (A.conv φ (A.add Ω x1 x3)) 1)),iv (A.add Ω (A.conv Ω (A.shr φ (A.conv φ (A.add Ω x1 x3)) 1)) x2),iv x1,iv x2,iv (A.sub Ω (A.add Ω (A.conv Ω (A.shr φ (A.conv φ (A.add Ω x1 x3)) 1)) x2) 1)] [Ψ c0 U U] [.t,.C,.x,.X,.Y] λc l o=>
 br (Bg 9 c)
 (dk [.C,.q 0 3,.I,.I,.I,.C,.f 137,.I,.I,.I,.N,.R,.X,.E] [.l l,.o o] λn n1 n2 n3 n4 n5 n6 cs1=>
 br (A.lt n6 n2)
 (br (A.lt n2 (A.sub Ω n5 n6))
 (Ag D (ω 265) [π 0 0 n 3,iv n6,iv n2,iv (A.sub Ω n5 n6),Att (Fn.func 137) [] []] [Ψ cs1 U U] [.t,.N,.R,.X,.E] λcs3=>
 br (A.lt n1 n6)
 (br (A.lt n6 n4)
 (Ag D (ω 235) [π 0 0 n 3,iv n1,iv n6,iv n4,Att (Fn.func 137) [] []] [Ψ cs3 U U] [.t,.N,.R,.X,.E] λcs5=>
 br (A.lt n4 (A.sub Ω n5 n6))
 (br (A.lt (A.sub Ω n5 n6) n3)
 (Ag D (ω 235) [π 0 0 n 3,iv n4,iv (A.sub Ω n5 n6),iv n3,Att (Fn.func 137) [] []] [Ψ cs5 U U] [.t,.N,.R,.X,.E] λcs7=>
 Δ ((Ath [],[Atb (Ψ cs7 U U)])))
 (Δ ((Ath [],[Atb (Ψ cs5 U U)]))))
 (Δ ((Ath [],[Atb (Ψ cs5 U U)]))))
 (br (A.lt n4 (A.sub Ω n5 n6))
 (br (A.lt (A.sub Ω n5 n6) n3)
 (Ag D (ω 235) [π 0 0 n 3,iv n4,iv (A.sub Ω n5 n6),iv n3,Att (Fn.func 137) [] []] [Ψ cs3 U U] [.t,.N,.R,.X,.E] λcs5=>
 Δ ((Ath [],[Atb (Ψ cs5 U U)])))
 (Δ ((Ath [],[Atb (Ψ cs3 U U)]))))
 (Δ ((Ath [],[Atb (Ψ cs3 U U)])))))
 (br (A.lt n4 (A.sub Ω n5 n6))
 (br (A.lt (A.sub Ω n5 n6) n3)
 (Ag D (ω 235) [π 0 0 n 3,iv n4,iv (A.sub Ω n5 n6),iv n3,Att (Fn.func 137) [] []] [Ψ cs3 U U] [.t,.N,.R,.X,.E] λcs5=>
 Δ ((Ath [],[Atb (Ψ cs5 U U)])))
 (Δ ((Ath [],[Atb (Ψ cs3 U U)]))))
 (Δ ((Ath [],[Atb (Ψ cs3 U U)])))))
 (br (A.lt n1 n6)
 (br (A.lt n6 n4)
 (Ag D (ω 235) [π 0 0 n 3,iv n1,iv n6,iv n4,Att (Fn.func 137) [] []] [Ψ cs1 U U] [.t,.N,.R,.X,.E] λcs3=>
 br (A.lt n4 (A.sub Ω n5 n6))
 (br (A.lt (A.sub Ω n5 n6) n3)
 (Ag D (ω 235) [π 0 0 n 3,iv n4,iv (A.sub Ω n5 n6),iv n3,Att (Fn.func 137) [] []] [Ψ cs3 U U] [.t,.N,.R,.X,.E] λcs5=>
 Δ ((Ath [],[Atb (Ψ cs5 U U)])))
 (Δ ((Ath [],[Atb (Ψ cs3 U U)]))))
 (Δ ((Ath [],[Atb (Ψ cs3 U U)]))))
 (br (A.lt n4 (A.sub Ω n5 n6))
 (br (A.lt (A.sub Ω n5 n6) n3)
 (Ag D (ω 235) [π 0 0 n 3,iv n4,iv (A.sub Ω n5 n6),iv n3,Att (Fn.func 137) [] []] [Ψ cs1 U U] [.t,.N,.R,.X,.E] λcs3=>
 Δ ((Ath [],[Atb (Ψ cs3 U U)])))
 (Δ ((Ath [],[Atb (Ψ cs1 U U)]))))
 (Δ ((Ath [],[Atb (Ψ cs1 U U)])))))
 (br (A.lt n4 (A.sub Ω n5 n6))
 (br (A.lt (A.sub Ω n5 n6) n3)
 (Ag D (ω 235) [π 0 0 n 3,iv n4,iv (A.sub Ω n5 n6),iv n3,Att (Fn.func 137) [] []] [Ψ cs1 U U] [.t,.N,.R,.X,.E] λcs3=>
 Δ ((Ath [],[Atb (Ψ cs3 U U)])))
 (Δ ((Ath [],[Atb (Ψ cs1 U U)]))))
 (Δ ((Ath [],[Atb (Ψ cs1 U U)]))))))
 (br (A.lt n1 n6)
 (br (A.lt n6 n4)
 (Ag D (ω 235) [π 0 0 n 3,iv n1,iv n6,iv n4,Att (Fn.func 137) [] []] [Ψ cs1 U U] [.t,.N,.R,.X,.E] λcs3=>
 br (A.lt n4 (A.sub Ω n5 n6))
 (br (A.lt (A.sub Ω n5 n6) n3)
 (Ag D (ω 235) [π 0 0 n 3,iv n4,iv (A.sub Ω n5 n6),iv n3,Att (Fn.func 137) [] []] [Ψ cs3 U U] [.t,.N,.R,.X,.E] λcs5=>
 Δ ((Ath [],[Atb (Ψ cs5 U U)])))
 (Δ ((Ath [],[Atb (Ψ cs3 U U)]))))
 (Δ ((Ath [],[Atb (Ψ cs3 U U)]))))
 (br (A.lt n4 (A.sub Ω n5 n6))
 (br (A.lt (A.sub Ω n5 n6) n3)
 (Ag D (ω 235) [π 0 0 n 3,iv n4,iv (A.sub Ω n5 n6),iv n3,Att (Fn.func 137) [] []] [Ψ cs1 U U] [.t,.N,.R,.X,.E] λcs3=>
 Δ ((Ath [],[Atb (Ψ cs3 U U)])))
 (Δ ((Ath [],[Atb (Ψ cs1 U U)]))))
 (Δ ((Ath [],[Atb (Ψ cs1 U U)])))))
 (br (A.lt n4 (A.sub Ω n5 n6))
 (br (A.lt (A.sub Ω n5 n6) n3)
 (Ag D (ω 235) [π 0 0 n 3,iv n4,iv (A.sub Ω n5 n6),iv n3,Att (Fn.func 137) [] []] [Ψ cs1 U U] [.t,.N,.R,.X,.E] λcs3=>
 Δ ((Ath [],[Atb (Ψ cs3 U U)])))
 (Δ ((Ath [],[Atb (Ψ cs1 U U)]))))
 (Δ ((Ath [],[Atb (Ψ cs1 U U)]))))))
 (Θ))))):=by kernel_rfl
theorem Um(n0:Nat)(c0:Aa)(t1 t10 t11:Int):C2 A D Aq CG .n 235 0 (AN GQ 0).fst (AN GQ 0).snd [π 0 0 n0 3,iv t1,Att (Fn.func 137) [] [],iv t10,iv t11] [{ cells:=c0,st:=U,ex:=U }] =
 br (A.lt t10 t11)
 (br (A.lt 1 0)
 (Θ)
 (unI (A.conv Ω (A.shr φ (A.conv φ (A.add Ω t10 t11)) 1)) λi=>
 br (i.blt n0) (EX c0 (0+i*3) 3 λcs=>
 dk [.I,.B,.L,.N] [.l cs] λn b xs=>
 unI t1 λi1=>
 br (i1.blt n0) (EX c0 (0+i1*3) 3 λcs1=>
 dk [.I,.B,.L,.N] [.l cs1] λn1 b1 xs1=>
 Ag D (ω 137) [ξ [iv n,bv b,Φ xs],ξ [iv n1,bv b1,Φ xs1]] [] [.i,.E] λn2=>
 br (A.lt n2 0)
 (AT D (ο 235 0) [π 0 0 n0 3,iv t1,Att (Fn.func 137) [] [],iv (A.add Ω (A.conv Ω (A.shr φ (A.conv φ (A.add Ω t10 t11)) 1)) 1),iv t11] [Ψ c0 U U] λr1 o1=>
 AI 1 [0] (AH.mk [(0,Ψ c0 U U)] 1 Θ) [] r1 o1)
 (AT D (ο 235 0) [π 0 0 n0 3,iv t1,Att (Fn.func 137) [] [],iv t10,iv (A.conv Ω (A.shr φ (A.conv φ (A.add Ω t10 t11)) 1))] [Ψ c0 U U] λr1 o1=>
 AI 1 [0] (AH.mk [(0,Ψ c0 U U)] 1 Θ) [] r1 o1)) Θ) Θ))
 (Δ ((Ath [iv 0,π 0 0 n0 3,iv t1,iv t10],[Atb (Ψ c0 U U)]))):=by kernel_rfl
theorem Aae(n0:Nat)(c0:Aa)(t10 t13:Int):C2 A D Aq CG .n 235 1 (AN GQ 1).fst (AN GQ 1).snd [π 0 0 n0 3,iv t10,iv t13] [{ cells:=c0,st:=U,ex:=U }] =
 br (A.lt t13 (A.sub Ω t10 1))
 (unI (A.add Ω t13 1) λi=>
 br (i.blt n0) (EX c0 (0+i*3) 3 λcs=>
 dk [.I,.B,.L,.N] [.l cs] λn b xs=>
 unI t13 λi1=>
 br (i1.blt n0) (EX c0 (0+i1*3) 3 λcs1=>
 dk [.I,.B,.L,.N] [.l cs1] λn1 b1 xs1=>
 unI t13 λi2=>
 br (i2.blt n0) (br ((0+i2*3+3).ble c0.length) (unI (A.add Ω t13 1) λi3=>
 br (i3.blt n0) (br ((0+i3*3+3).ble (AG c0 (0+i2*3) [iv n,bv b,Φ xs]).length) (AT D (ο 235 1) [π 0 0 n0 3,iv t10,iv (A.add Ω t13 1)] [Ψ (AG (AG c0 (0+i2*3) [iv n,bv b,Φ xs]) (0+i3*3) [iv n1,bv b1,Φ xs1]) U U] λr o=>
 AI 1 [0] (AH.mk [(0,Ψ (AG (AG c0 (0+i2*3) [iv n,bv b,Φ xs]) (0+i3*3) [iv n1,bv b1,Φ xs1]) U U)] 1 Θ) [0] r o) Θ) Θ) Θ) Θ) Θ) Θ)
 (Δ ((Ath [iv 2,π 0 0 n0 3],[Atb (Ψ c0 U U)]))):=by kernel_rfl
theorem Un(n0:Nat)(c0:Aa)(t2 t14 t15:Int):C2 A D Aq CG .n 235 2 (AN GQ 2).fst (AN GQ 2).snd [π 0 0 n0 3,iv t2,Att (Fn.func 137) [] [],iv t14,iv t15] [{ cells:=c0,st:=U,ex:=U }] =
 br (A.lt t14 t15)
 (br (A.lt 1 0)
 (Θ)
 (unI t2 λi=>
 br (i.blt n0) (EX c0 (0+i*3) 3 λcs=>
 dk [.I,.B,.L,.N] [.l cs] λn b xs=>
 unI (A.conv Ω (A.shr φ (A.conv φ (A.add Ω t14 t15)) 1)) λi1=>
 br (i1.blt n0) (EX c0 (0+i1*3) 3 λcs1=>
 dk [.I,.B,.L,.N] [.l cs1] λn1 b1 xs1=>
 Ag D (ω 137) [ξ [iv n,bv b,Φ xs],ξ [iv n1,bv b1,Φ xs1]] [] [.i,.E] λn2=>
 br (A.lt n2 0)
 (AT D (ο 235 2) [π 0 0 n0 3,iv t2,Att (Fn.func 137) [] [],iv t14,iv (A.conv Ω (A.shr φ (A.conv φ (A.add Ω t14 t15)) 1))] [Ψ c0 U U] λr1 o1=>
 AI 1 [0] (AH.mk [(0,Ψ c0 U U)] 1 Θ) [] r1 o1)
 (AT D (ο 235 2) [π 0 0 n0 3,iv t2,Att (Fn.func 137) [] [],iv (A.add Ω (A.conv Ω (A.shr φ (A.conv φ (A.add Ω t14 t15)) 1)) 1),iv t15] [Ψ c0 U U] λr1 o1=>
 AI 1 [0] (AH.mk [(0,Ψ c0 U U)] 1 Θ) [] r1 o1)) Θ) Θ))
 (Δ ((Ath [iv 4,π 0 0 n0 3,iv t2,iv t14],[Atb (Ψ c0 U U)]))):=by kernel_rfl
theorem Aaf(n0:Nat)(c0:Aa)(t14 t17:Int):C2 A D Aq CG .n 235 3 (AN GQ 3).fst (AN GQ 3).snd [π 0 0 n0 3,iv t14,iv t17] [{ cells:=c0,st:=U,ex:=U }] =
 br (A.lt t14 t17)
 (unI (A.sub Ω t17 1) λi=>
 br (i.blt n0) (EX c0 (0+i*3) 3 λcs=>
 dk [.I,.B,.L,.N] [.l cs] λn b xs=>
 unI t17 λi1=>
 br (i1.blt n0) (EX c0 (0+i1*3) 3 λcs1=>
 dk [.I,.B,.L,.N] [.l cs1] λn1 b1 xs1=>
 unI t17 λi2=>
 br (i2.blt n0) (br ((0+i2*3+3).ble c0.length) (unI (A.sub Ω t17 1) λi3=>
 br (i3.blt n0) (br ((0+i3*3+3).ble (AG c0 (0+i2*3) [iv n,bv b,Φ xs]).length) (AT D (ο 235 3) [π 0 0 n0 3,iv t14,iv (A.sub Ω t17 1)] [Ψ (AG (AG c0 (0+i2*3) [iv n,bv b,Φ xs]) (0+i3*3) [iv n1,bv b1,Φ xs1]) U U] λr o=>
 AI 1 [0] (AH.mk [(0,Ψ (AG (AG c0 (0+i2*3) [iv n,bv b,Φ xs]) (0+i3*3) [iv n1,bv b1,Φ xs1]) U U)] 1 Θ) [0] r o) Θ) Θ) Θ) Θ) Θ) Θ)
 (Δ ((Ath [iv 6,π 0 0 n0 3],[Atb (Ψ c0 U U)]))):=by kernel_rfl
theorem Uo(n0:Nat)(c0:Aa)(t1 t2 t3 t18 t19 t20 t21 t22:Int):C2 A D Aq CG .n 235 4 (AN GQ 4).fst (AN GQ 4).snd [π 0 0 n0 3,iv t1,iv t2,iv t3,Att (Fn.func 137) [] [],iv t18,iv t19,iv t20,iv t21,iv t22] [{ cells:=c0,st:=U,ex:=U }] =
 br (A.lt t20 t21)
 (br (A.lt 1 0)
 (Θ)
 (unI (A.sub Ω t22 (A.conv Ω (A.shr φ (A.conv φ (A.add Ω t20 t21)) 1))) λi=>
 br (i.blt n0) (EX c0 (0+i*3) 3 λcs=>
 dk [.I,.B,.L,.N] [.l cs] λn b xs=>
 unI (A.conv Ω (A.shr φ (A.conv φ (A.add Ω t20 t21)) 1)) λi1=>
 br (i1.blt n0) (EX c0 (0+i1*3) 3 λcs1=>
 dk [.I,.B,.L,.N] [.l cs1] λn1 b1 xs1=>
 Ag D (ω 137) [ξ [iv n,bv b,Φ xs],ξ [iv n1,bv b1,Φ xs1]] [] [.i,.E] λn2=>
 br (A.lt n2 0)
 (AT D (ο 235 4) [π 0 0 n0 3,iv t1,iv t2,iv t3,Att (Fn.func 137) [] [],iv t18,iv t19,iv t20,iv (A.conv Ω (A.shr φ (A.conv φ (A.add Ω t20 t21)) 1)),iv t22] [Ψ c0 U U] λr1 o1=>
 AI 1 [0] (AH.mk [(0,Ψ c0 U U)] 1 Θ) [] r1 o1)
 (AT D (ο 235 4) [π 0 0 n0 3,iv t1,iv t2,iv t3,Att (Fn.func 137) [] [],iv t18,iv t19,iv (A.add Ω (A.conv Ω (A.shr φ (A.conv φ (A.add Ω t20 t21)) 1)) 1),iv t21,iv t22] [Ψ c0 U U] λr1 o1=>
 AI 1 [0] (AH.mk [(0,Ψ c0 U U)] 1 Θ) [] r1 o1)) Θ) Θ))
 (Δ ((Ath [iv 8,π 0 0 n0 3,iv t1,iv t2,iv t3,Att (Fn.func 137) [] [],iv t18,iv t19,iv t20],[Atb (Ψ c0 U U)]))):=by kernel_rfl
theorem Aq6(n0:Nat)(c0:Aa)(x1 x2 x3:Int):BZ A D Aq Ps .n 265 Ww [π 0 0 n0 3,iv x1,iv x2,iv x3,Att (Fn.func 137) [] []] [{ cells:=c0,st:=U,ex:=U }] =
 Ag D (ο 265 0) [π 0 0 n0 3,iv x2,Att (Fn.func 137) [] [],iv (A.sub Ω x2 x1),iv (A.sub Ω x3 x2)] [Ψ c0 U U] [.t,.C,.x,.X,.Y] λc l o=>
 br (Bg 1 c)
 (dk [.C,.q 0 3,.I,.C,.f 137,.I,.N,.R,.X,.E] [.l l,.o o] λn n1 n2 cs1=>
 Ag D (ω 275) [π 0 0 n 3,iv (A.sub Ω n1 n2),iv n1,iv n2,Att (Fn.func 137) [] []] [Ψ cs1 U U] [.t,.N,.R,.X,.E] λcs3=>
 Δ ((Ath [],[Atb (Ψ cs3 U U)])))
 (Θ):=by kernel_rfl
theorem Up(n0:Nat)(c0:Aa)(t2 t10 t11:Int):C2 A D Aq Ps .n 265 0 (AN Ww 0).fst (AN Ww 0).snd [π 0 0 n0 3,iv t2,Att (Fn.func 137) [] [],iv t10,iv t11] [{ cells:=c0,st:=U,ex:=U }] =
 br (A.eq t10 t11)
 (Δ ((Ath [iv 0,π 0 0 n0 3,iv t2,Att (Fn.func 137) [] [],iv t10],[Atb (Ψ c0 U U)])))
 (br (A.lt t11 t10)
 (Ag D (ω 275) [π 0 0 n0 3,iv (A.sub Ω t2 t10),iv t2,iv t11,Att (Fn.func 137) [] []] [Ψ c0 U U] [.t,.N,.R,.X,.E] λcs1=>
 AT D (ο 265 0) [π 0 0 n0 3,iv t2,Att (Fn.func 137) [] [],iv (A.sub Ω t10 t11),iv t11] [Ψ cs1 U U] λr1 o1=>
 AI 1 [0] (AH.mk [(0,Ψ cs1 U U)] 1 Θ) [0] r1 o1)
 (Ag D (ω 275) [π 0 0 n0 3,iv (A.sub Ω t2 t10),iv (A.sub Ω (A.add Ω t2 t11) t10),iv t10,Att (Fn.func 137) [] []] [Ψ c0 U U] [.t,.N,.R,.X,.E] λcs1=>
 AT D (ο 265 0) [π 0 0 n0 3,iv t2,Att (Fn.func 137) [] [],iv t10,iv (A.sub Ω t11 t10)] [Ψ cs1 U U] λr1 o1=>
 AI 1 [0] (AH.mk [(0,Ψ cs1 U U)] 1 Θ) [0] r1 o1)):=by kernel_rfl
theorem Aq7(n0:Nat)(c0:Aa)(x1 x2 x3:Int):BZ A D Aq Sz .n 275 Wy [π 0 0 n0 3,iv x1,iv x2,iv x3,Att (Fn.func 137) [] []] [{ cells:=c0,st:=U,ex:=U }] =
 Ag D (ο 275 0) [π 0 0 n0 3,iv x1,iv x2,iv x3,iv 0] [Ψ c0 U U] [.t,.C,.x,.X,.Y] λc l o=>
 br (Bg 1 c)
 (dk [.C,.q 0 3,.N,.R,.X,.E] [.l l,.o o] λ_ cs1=>
 Δ ((Ath [],[Atb (Ψ cs1 U U)])))
 (Θ):=by kernel_rfl
theorem Aai(n0:Nat)(c0:Aa)(t1 t2 t3 t10:Int):C2 A D Aq Sz .n 275 0 (AN Wy 0).fst (AN Wy 0).snd [π 0 0 n0 3,iv t1,iv t2,iv t3,iv t10] [{ cells:=c0,st:=U,ex:=U }] =
 br (A.lt t10 t3)
 (unI (A.add Ω t2 t10) λi=>
 br (i.blt n0) (EX c0 (0+i*3) 3 λcs=>
 dk [.I,.B,.L,.N] [.l cs] λn b xs=>
 unI (A.add Ω t1 t10) λi1=>
 br (i1.blt n0) (EX c0 (0+i1*3) 3 λcs1=>
 dk [.I,.B,.L,.N] [.l cs1] λn1 b1 xs1=>
 unI (A.add Ω t1 t10) λi2=>
 br (i2.blt n0) (br ((0+i2*3+3).ble c0.length) (unI (A.add Ω t2 t10) λi3=>
 br (i3.blt n0) (br ((0+i3*3+3).ble (AG c0 (0+i2*3) [iv n,bv b,Φ xs]).length) (AT D (ο 275 0) [π 0 0 n0 3,iv t1,iv t2,iv t3,iv (A.add Ω t10 1)] [Ψ (AG (AG c0 (0+i2*3) [iv n,bv b,Φ xs]) (0+i3*3) [iv n1,bv b1,Φ xs1]) U U] λr o=>
 AI 1 [0] (AH.mk [(0,Ψ (AG (AG c0 (0+i2*3) [iv n,bv b,Φ xs]) (0+i3*3) [iv n1,bv b1,Φ xs1]) U U)] 1 Θ) [0] r o) Θ) Θ) Θ) Θ) Θ) Θ)
 (Δ ((Ath [iv 0,π 0 0 n0 3],[Atb (Ψ c0 U U)]))):=by kernel_rfl
theorem An9(n0:Nat)(c0:Aa):BZ A D Aq Ny .n 140 SS [π 0 0 n0 3,Att (Fn.func 141) [] []] [{ cells:=c0,st:=U,ex:=U }] =
 Ag D (ω 199) [π 0 0 n0 3,Att (Fn.func 141) [] []] [Ψ c0 U U] [.i,.R,.X,.E] λn cs=>
 br (A.eq n (-1))
 (Δ ((π 0 0 n0 3,[Atb (Ψ cs U U)])))
 (Ag D (ο 140 0) [π 0 0 n0 3,Att (Fn.func 141) [] [],iv n,iv (A.add Ω n 1)] [Ψ cs U U] [.t,.C,.x,.X,.Y] λc1 l1 o1=>
 br (Bg 1 c1)
 (dk [.C,.q 0 3,.I,.N,.R,.X,.E] [.l l1,.o o1] λn1 n2 cs2=>
 unI n2 λi=>
 br (I4 i n1 n1) (br ((0+i*3+(n1-i)*3).ble cs2.length) (unI n2 λi1=>
 br (I4 0 i1 n1) (Δ ((π 0 0 i1 3,[Atb (Ψ (AG cs2 (0+i*3) (B5 [iv 0,bv Ξ,AV.v (Value.slice Θ 0 0)] ((n1-i)*3))) U U)]))) Θ) Θ) Θ)
 (Θ)):=by kernel_rfl
theorem Ui(n0:Nat)(c0:Aa)(t5 t6:Int):C2 A D Aq Ny .n 140 0 (AN SS 0).fst (AN SS 0).snd [π 0 0 n0 3,Att (Fn.func 141) [] [],iv t5,iv t6] [{ cells:=c0,st:=U,ex:=U }] =
 br (A.lt t6 ↑n0)
 (unI t6 λi=>
 br (i.blt n0) (EX c0 (0+i*3) 3 λcs=>
 dk [.I,.B,.L,.N] [.l cs] λn b xs=>
 Ag D (ω 141) [ξ [iv n,bv b,Φ xs]] [] [.b,.E] λb1=>
 br b1
 (AT D (ο 140 0) [π 0 0 n0 3,Att (Fn.func 141) [] [],iv t5,iv (A.add Ω t6 1)] [Ψ c0 U U] λr1 o1=>
 AI 1 [0] (AH.mk [(1,bk [iv n,bv b,Φ xs]),(0,Ψ c0 U U)] 2 Θ) [] r1 o1)
 (unI t5 λi1=>
 br (i1.blt n0) (br ((0+i1*3+3).ble c0.length) (AT D (ο 140 0) [π 0 0 n0 3,Att (Fn.func 141) [] [],iv (A.add Ω t5 1),iv (A.add Ω t6 1)] [Ψ (AG c0 (0+i1*3) [iv n,bv b,Φ xs]) U U] λr1 o1=>
 AI 1 [0] (AH.mk [(0,Ψ (AG c0 (0+i1*3) [iv n,bv b,Φ xs]) U U),(1,bk [iv n,bv b,Φ xs])] 2 Θ) [0] r1 o1) Θ) Θ)) Θ)
 (Δ ((Ath [iv 0,π 0 0 n0 3,iv t5],[Atb (Ψ c0 U U)]))):=by kernel_rfl
theorem AqV(n0:Nat)(c0:Aa):BZ A D Aq NA .n 199 SU [π 0 0 n0 3,Att (Fn.func 141) [] []] [{ cells:=c0,st:=U,ex:=U }] =
 Ag D (ο 199 0) [π 0 0 n0 3,Att (Fn.func 141) [] [],iv ↑n0,iv 0] [Ψ c0 U U] [.t,.C,.x,.X,.Y] λc l o=>
 br (Bg 0 c)
 (dk [.C,.q 0 3,.I,.N,.R,.X,.E] [.l l,.o o] λ_ n1 cs1=>
 Δ ((iv n1,[Atb (Ψ cs1 U U)])))
 (br (Bg 1 c)
 (dk [.C,.q 0 3,.N,.R,.X,.E] [.l l,.o o] λ_ cs1=>
 Δ ((iv (-1),[Atb (Ψ cs1 U U)])))
 (Θ)):=by kernel_rfl
theorem Qq(n0:Nat)(c0:Aa)(t7 t8:Int):C2 A D Aq NA .n 199 0 (AN SU 0).fst (AN SU 0).snd [π 0 0 n0 3,Att (Fn.func 141) [] [],iv t7,iv t8] [{ cells:=c0,st:=U,ex:=U }] =
 br (A.lt t8 t7)
 (unI t8 λi=>
 br (i.blt n0) (EX c0 (0+i*3) 3 λcs=>
 dk [.I,.B,.L,.N] [.l cs] λn b xs=>
 Ag D (ω 141) [ξ [iv n,bv b,Φ xs]] [] [.b,.E] λb1=>
 br b1
 (Δ ((Ath [bv U,π 0 0 n0 3,iv t8],[Atb (Ψ c0 U U)])))
 (AT D (ο 199 0) [π 0 0 n0 3,Att (Fn.func 141) [] [],iv t7,iv (A.add Ω t8 1)] [Ψ c0 U U] λr1 o1=>
 AI 1 [0] (AH.mk [(0,Ψ c0 U U)] 1 Θ) [] r1 o1)) Θ)
 (Δ ((Ath [iv 0,π 0 0 n0 3],[Atb (Ψ c0 U U)]))):=by kernel_rfl
end
def Oz:List (Nat × MFn):=[(157,Abq),(84,AlF),(137,Abo),(141,Abp),(136,Abn),(196,JO),(234,NV),(140,SS),(199,SU)]
theorem FZ{D:Orc}(K:Knows Aq Es D):Knows Aq Oz D:=
 have h:∀ f mf,BG f Oz=Δ mf->BG f Es=Δ mf:=λf mf h=>by
  have hm:=D6 h;unfold Oz at hm;rcases Atd.1 hm with e|hm
  .cases e
   show BG _ Es=Δ _
   kernel_rfl
  rcases Atd.1 hm with e|hm
  .cases e
   show BG _ Es=Δ _
   kernel_rfl
  rcases Atd.1 hm with e|hm
  .cases e
   show BG _ Es=Δ _
   kernel_rfl
  rcases Atd.1 hm with e|hm
  .cases e
   show BG _ Es=Δ _
   kernel_rfl
  rcases Atd.1 hm with e|hm
  .cases e
   show BG _ Es=Δ _
   kernel_rfl
  rcases Atd.1 hm with e|hm
  .cases e
   show BG _ Es=Δ _
   kernel_rfl
  rcases Atd.1 hm with e|hm
  .cases e
   show BG _ Es=Δ _
   kernel_rfl
  rcases Atd.1 hm with e|hm
  .cases e
   show BG _ Es=Δ _
   kernel_rfl
  rcases Atd.1 hm with e|hm
  .cases e
   show BG _ Es=Δ _
   kernel_rfl
  cases hm
 ⟨λHn s f mf args bs r h1 h2=>K.fn Hn s f mf args bs r (h f mf h1) h2,λHn s f i mf q c args bs r h1 h2 h3=>K.lp Hn s f i mf q c args bs r (h f mf h1) h2 h3⟩
structure Pt where
 v:Int
 z:Zi
def eP(p:Pt):Aa:=[iv p.v,bv p.z.neg,eN p.z.abs]
theorem Av(p:Pt):(eP p).length=3:=rfl
section
variable {α:Type} {e:α->Aa} {w:Nat} (he:∀ x,(e x).length=w)
include he
theorem WM(l:List α):∀(i:Nat) (h:i<l.length),(Aj e l).drop (i*w)=e l[i]++(Aj e l).drop (i*w+w):=by
 induction l with
 |nil=>intro i h;cases h
 |cons x r ih=>
  intro i h;have hx:=he x
  cases i with
  |zero=>
   rw[Nat.zero_mul,ι,Ato]
   show e x++Aj e r=e x++(e x++Aj e r).drop w
   rw[←hx,List.drop_left]
  |succ i=>
   have:=ih i (by simpa using h);have e1:∀ n,(Aj e (x::r)).drop (w+n)=(Aj e r).drop n:=λn=>by
    show (e x++Aj e r).drop (w+n)=_
    rw[←hx,Av1];simp
   rw[show (i+1)*w=w+i*w by rw[At2];omega,e1,this,show w+i*w+w=w+(i*w+w) by omega,e1];rfl
theorem By(l:List α)(i:Nat)(h:i<l.length)(k:Aa->KR):EX (Aj e l) (0+i*w) w k=k (e l[i]):=by
 have hw:i*w+w<=l.length*w:=by
  rw[←Nat.succ_mul];exact Nat.mul_le_mul_right w h
 unfold EX;have:Atl (0+i*w+w) (Aj e l).length=U:=by rw[AR he];simp;omega
 rw[this]
 show k (((Aj e l).drop (0+i*w)).take w)=_
 rw[Ato,WM he l i h,AuS (he _)]
theorem BX(l:List α)(i:Nat)(h:i<l.length)(x:α):AG (Aj e l) (0+i*w) (e x)=Aj e (l.set i x):=by
 unfold AG;rw[he x,Ato];have e1:=WM he l i h;have e2:∀(l:List α) (i:Nat),i<=l.length->(Aj e l).take (i*w)=Aj e (l.take i):=λl=>by
  induction l with
  |nil=>intro i _;simp[Aj]
  |cons y r ih=>
   intro i hi
   cases i with
   |zero=>simp[Aj]
   |succ i=>
    rw[show (i+1)*w=w+i*w by rw[At2];omega]
    show (e y++Aj e r).take (w+i*w)=e y++Aj e (r.take i)
    rw[←he y,Av3,Auv (by omega),show (e y).length+i*(e y).length-(e y).length=i*(e y).length by omega,he y,ih i (by simpa using hi)]
 have e3:∀(l:List α) (i:Nat),i<=l.length->(Aj e l).drop (i*w)=Aj e (l.drop i):=λl=>by
  induction l with
  |nil=>intro i _;simp[Aj]
  |cons y r ih=>
   intro i hi
   cases i with
   |zero=>simp[Aj]
   |succ i=>
    rw[show (i+1)*w=w+i*w by rw[At2];omega]
    show (e y++Aj e r).drop (w+i*w)=Aj e (r.drop i)
    rw[←he y,Av1,List.drop_of_length_le (by omega),show (e y).length+i*(e y).length-(e y).length=i*(e y).length by omega,he y,ih i (by simpa using hi),List.nil_append]
 rw[e2 l i (by omega),show i*w+w=(i+1)*w by rw[At2];omega,e3 l (i+1) (by omega),List.set_eq_take_append_cons_drop,Ac h];simp[Aj]
end
theorem E9{a b:Int}:Iq a b<0 ↔ a<b:=by
 unfold Iq;split
 .omega
 .split<;>omega
theorem Ow{j:Nat}(h:j<4611686018427387904):Ah.sub .i64 ((j+1:Nat):Int) 1=(j:Int):=by
 rw[DL (by omega) (by omega)];omega
theorem AJ{a b:Nat}(h:a<b):Nat.blt a b=U:=by simpa using h
section
variable {D:Orc} (K:Knows Aq Oz D)
include K
theorem SG(x:Int):D.ask (.fn 157) [iv x] []=Δ (bv Ξ,[]):=by
 refine Az K AjD (AqD ..) ?_;exact Ba rfl rfl
theorem VS(x y:Int):D.ask (.fn 84) [iv x,iv y] []=Δ (iv (Iq x y),[]):=by
 refine Az K AoG (e84 ..) ?_;refine Ab (SG K x) ?_;simp only[Ai];refine Ab (SG K y) ?_;simp only[Ai];unfold Iq
 by_cases h:x<y
 .rw[Ac h]
  exact Au rfl h
 .rw[Ad h]
  refine At ?_ h
  by_cases h2:y<x
  .rw[Ac h2]
   exact Au rfl h2
  .rw[Ad h2]
   exact At rfl h2
theorem G8(p q:Pt):D.ask (.fn 137) [.agg (eP p),.agg (eP q)] []=Δ (iv (Iq p.v q.v),[]):=by
 refine Az K Aju (Aqs ..) ?_;refine Ab (VS K p.v q.v) ?_;rfl
def E5:AV:=.fn (.func 137) [] []
theorem Aly(a i:Nat)(b:Int):∀(m j:Nat) (l:List Pt),j-a=m->a<=j->j<=i->i<l.length->l.length<=1000000000->W3 Pt.v l a i j->
  ∃ r:List Pt,D.ask (.lp 234 1) [.sl 0 0 l.length 3,iv (a:Int),iv b,E5,iv (i:Int),iv (j:Int)] [Ψ (Aj eP l) U U]
   = Δ (.tup [iv 2,.sl 0 0 l.length 3,iv (a:Int),iv b,E5,iv (i:Int)],[.set (Ψ (Aj eP r) U U)])
   ∧ r.length=l.length/\r.Perm l/\Srt Pt.v r a (i+1)/\Same0 l r a (i+1):=by
 intro m
 induction m with
 |zero=>
  intro j l hm ha hj hi hl hs;obtain rfl:j=a:=by omega
  refine⟨l,?_,rfl,List.Perm.refl _,Tw Pt.v hj hs (.inl rfl),Df _ _ _⟩;refine Ax K Hd (Ul ..) ?_;exact At rfl
 |succ m ih=>
  intro j l hm ha hj hi hl hs;obtain⟨k,rfl⟩:∃ k,j=k+1:=⟨j-1,by omega⟩;have h1:k+1<l.length:=by omega
  have h0:k<l.length:=by omega
  have kf1:kf Pt.v l (k+1)=l[k+1].v:=Fy Pt.v h1;have kf0:kf Pt.v l k=l[k].v:=Fy Pt.v h0
  by_cases hlt:l[k+1].v<l[k].v
  .have hs2:W3 Pt.v (Dg l (k+1) k) a i k:=YK (j:=k+1) Pt.v hi (by omega) hj hs (by rw[Au0,kf1,kf0];exact hlt)
   have hlen:=Im l (k+1) k;obtain⟨r,g,hr,hp,ho,hsm⟩:=ih k (Dg l (k+1) k) (by omega) (by omega) (by omega) (by omega) (by omega) hs2;rw[hlen]at g hr;refine⟨r,?_,hr,hp.trans (GH _ _ _),ho,(YO (by omega) (by omega) (by omega) (by omega)).trans hsm⟩;refine Ax K Hd (Ul ..) ?_;refine Au ?_;rw[Ow (by omega),AC,AJ h1];refine Af ?_;refine(By Av l (k+1) h1 _).trans ?_;simp only[eP,eN,Ai];rw[AC,AJ h0];refine Af ?_;refine(By Av l k h0 _).trans ?_;simp only[eP,eN,Ai];refine Ab (G8 K l[k+1] l[k]) ?_;simp only[Ai];refine Au ?_ (E9.2 hlt);rw[AC,AJ h0];refine Af ?_;refine(By Av l k h0 _).trans ?_;simp only[eP,eN,Ai];rw[AC,AJ h1];refine Af ?_;refine(By Av l (k+1) h1 _).trans ?_;simp only[eP,eN,Ai];rw[AC,AJ h1];refine Af ?_;have s1:=BX Av l (k+1) h1 l[k];have s2:=BX Av (l.set (k+1) l[k]) k (by rw[AtL];exact h0) l[k+1];rw[←DY h1 h0]at s2;simp only[eP,eN]at s1 s2;rw[show Atl (0+(k+1)*3+3) (Aj eP l).length=U by rw[AR Av];simp;omega];refine Af ?_;rw[AC,AJ h0];refine Af ?_;rw[s1,s2];rw[show Atl (0+k*3+3) (Aj eP (l.set (k+1) l[k])).length=U by rw[AR Av,AtL];simp;omega];refine Af ?_;refine Ab g ?_;rfl
  .refine⟨l,?_,rfl,List.Perm.refl _,Tw Pt.v hj hs (.inr ?_),Df _ _ _⟩
   .skip
    refine Ax K Hd (Ul ..) ?_;refine Au ?_;rw[Ow (by omega),AC,AJ h1];refine Af ?_;refine(By Av l (k+1) h1 _).trans ?_;simp only[eP,eN,Ai];rw[AC,AJ h0];refine Af ?_;refine(By Av l k h0 _).trans ?_;simp only[eP,eN,Ai];refine Ab (G8 K l[k+1] l[k]) ?_;simp only[Ai];exact At rfl (λh=>hlt (E9.1 h))
   .rw[Au0,kf1,kf0]
    omega
theorem Ad2(a b:Nat):∀(m i:Nat) (l:List Pt),b-i=m->a<i->i<=b->b<=l.length->l.length<=1000000000->Srt Pt.v l a i->
  ∃ r:List Pt,D.ask (.lp 234 0) [.sl 0 0 l.length 3,iv (a:Int),iv (b:Int),E5,iv (i:Int)] [Ψ (Aj eP l) U U]
   = Δ (.tup [iv 0,.sl 0 0 l.length 3],[.set (Ψ (Aj eP r) U U)])
   ∧ r.length=l.length/\r.Perm l/\Srt Pt.v r a b/\Same0 l r a b:=by
 intro m
 induction m with
 |zero=>
  intro i l hm ha hi hb hl hs;obtain rfl:i=b:=by omega
  refine⟨l,?_,rfl,List.Perm.refl _,hs,Df _ _ _⟩;refine Ax K Hd (Uk ..) ?_;exact At rfl
 |succ m ih=>
  intro i l hm ha hi hb hl hs;obtain⟨r,g,hr,hp,ho,hsm⟩:=Aly K a i (b:Int) _ i l rfl (by omega) (η _) (by omega) hl (Vz Pt.v hs);obtain⟨r2,g2,hr2,hp2,ho2,hsm2⟩:=ih (i+1) r (by omega) (by omega) (by omega) (by omega) (by omega) ho;rw[hr]at g2;refine⟨r2,?_,by omega,hp2.trans hp,ho2,(hsm.wide (η _) (by omega)).trans hsm2⟩;refine Ax K Hd (Uk ..) ?_;refine Au ?_;refine Ab g ?_;simp only[E5,Ai];refine Af ?_;rw[BE (by omega)];refine Ab g2 ?_;rfl
theorem Aa0{a b:Nat}{l:List Pt}(hab:a<=b)(hb:b<=l.length)(hl:l.length<=1000000000) :
  ∃ r:List Pt,D.ask (.fn 234) [.sl 0 0 l.length 3,iv (a:Int),iv (b:Int),E5] [Ψ (Aj eP l) U U]=Δ (.tup [],[.set (Ψ (Aj eP r) U U)])
   ∧ r.length=l.length/\r.Perm l/\Srt Pt.v r a b/\Same0 l r a b:=by
 by_cases h:a<b
 .obtain⟨r,g,hr⟩:=Ad2 K a b _ (a+1) l rfl (by omega) (by omega) hb hl (Aio Pt.v l a)
  refine⟨r,?_,hr⟩;refine Az K Hd (Aoe ..) ?_;rw[BE (by omega)];refine Ab g ?_;rfl
 .obtain rfl:a=b:=by omega
  have g:D.ask (.lp 234 0) [.sl 0 0 l.length 3,iv (a:Int),iv (a:Int),E5,iv ((a+1:Nat):Int)] [Ψ (Aj eP l) U U]=Δ (.tup [iv 0,.sl 0 0 l.length 3],[.set (Ψ (Aj eP l) U U)]):=by
   refine Ax K Hd (Uk ..) ?_;exact At rfl
  refine⟨l,?_,rfl,List.Perm.refl _,Ain Pt.v l a,Df _ _ _⟩;refine Az K Hd (Aoe ..) ?_;rw[BE (by omega)];refine Ab g ?_;rfl
end
def fnZ:AV:=.fn (.func 141) [] []
section
variable {D:Orc} (K:Knows Aq Oz D)
include K
theorem Alw(P:Pt->Bool)(l:List Pt)(hl:l.length<=1000000000)(hP:∀ p∈l,D.ask (.fn 141) [.agg (eP p)] []=Δ (bv (P p),[])):∀(m i:Nat),l.length-i=m->i<=l.length->
  D.ask (.lp 199 0) [.sl 0 0 l.length 3,fnZ,iv (l.length:Int),iv (i:Int)] [Ψ (Aj eP l) U U]
   = if i+(l.drop i).findIdx P<l.length then Δ (.tup [bv U,.sl 0 0 l.length 3,iv ((i+(l.drop i).findIdx P:Nat):Int)],[.set (Ψ (Aj eP l) U U)]) else Δ (.tup [iv 0,.sl 0 0 l.length 3],[.set (Ψ (Aj eP l) U U)]):=by
 intro m
 induction m with
 |zero=>
  intro i hm hi;rw[Ad (by omega)];refine Ax K NA (Qq ..) ?_;exact At rfl
 |succ m ih=>
  intro i hm hi;have h1:i<l.length:=by omega
  have g:=hP l[i] (Ats h1);have ih':=ih (i+1) (by omega) (by omega);rw[χ h1,AvY]
  cases hp:P l[i]with
  |true=>
   rw[hp]at g;rw[Ac (by simpa using h1)];refine Ax K NA (Qq ..) ?_;refine Au ?_;rw[AC,AJ h1];refine Af ?_;refine(By Av l i h1 _).trans ?_;simp only[eP,eN,Ai];refine Ab g ?_;simp only[Ai];rfl
  |false=>
   rw[hp]at g;rw[show (bif Ξ then 0 else(l.drop (i+1)).findIdx P+1)=(l.drop (i+1)).findIdx P+1 from rfl,show i+((l.drop (i+1)).findIdx P+1)=i+1+(l.drop (i+1)).findIdx P by omega]
   by_cases h:i+1+(l.drop (i+1)).findIdx P<l.length
   .rw[Ac h]at ih' ⊢
    refine Ax K NA (Qq ..) ?_;refine Au ?_;rw[AC,AJ h1];refine Af ?_;refine(By Av l i h1 _).trans ?_;simp only[eP,eN,Ai];refine Ab g ?_;simp only[Ai];rw[BE (by omega)];refine Ab ih' ?_;rfl
   .rw[Ad h]at ih' ⊢
    refine Ax K NA (Qq ..) ?_;refine Au ?_;rw[AC,AJ h1];refine Af ?_;refine(By Av l i h1 _).trans ?_;simp only[eP,eN,Ai];refine Ab g ?_;simp only[Ai];rw[BE (by omega)];refine Ab ih' ?_;rfl
theorem Alx(P:Pt->Bool)(l:List Pt)(hl:l.length<=1000000000)(hP:∀ p∈l,D.ask (.fn 141) [.agg (eP p)] []=Δ (bv (P p),[])) :
  D.ask (.fn 199) [.sl 0 0 l.length 3,fnZ] [Ψ (Aj eP l) U U]
   = Δ (iv (if l.findIdx P<l.length then(l.findIdx P:Int) else -1),[.set (Ψ (Aj eP l) U U)]):=by
 have g:=Alw K P l hl hP _ 0 rfl (by omega);rw[ι,Ato]at g;refine Az K NA (AqV ..) ?_
 by_cases h:l.findIdx P<l.length
 .rw[Ac h]at g ⊢
  refine Ab g ?_;rfl
 .rw[Ad h]at g ⊢
  refine Ab g ?_;rfl
theorem Ak7(P:Pt->Bool)(Q:Pt->Prop)(hP:∀ p,Q p->D.ask (.fn 141) [.agg (eP p)] []=Δ (bv (P p),[])):∀(m j i:Nat) (l:List Pt),l.length-j=m->i<=j->j<=l.length->l.length<=1000000000->(∀ p∈l.drop j,Q p)->
  ∃(r:List Pt) (c:Nat),D.ask (.lp 140 0) [.sl 0 0 l.length 3,fnZ,iv (i:Int),iv (j:Int)] [Ψ (Aj eP l) U U]
   = Δ (.tup [iv 0,.sl 0 0 l.length 3,iv (c:Int)],[.set (Ψ (Aj eP r) U U)])
   ∧ r.length=l.length/\c<=l.length/\r.take c=l.take i++(l.drop j).filter (λp=>!P p):=by
 intro m
 induction m with
 |zero=>
  intro j i l hm hi hj hl hq;refine⟨l,i,?_,rfl,by omega,?_⟩
  .refine Ax K Ny (Ui ..) ?_
   exact At rfl
  .rw[List.drop_eq_nil_of_le (by omega),List.filter_nil,List.append_nil]
 |succ m ih=>
  intro j i l hm hi hj hl hq;have h1:j<l.length:=by omega
  have h0:i<l.length:=by omega
  have ed:=χ h1;have g:=hP l[j] (hq _ (by rw[ed];exact Atq ..));rw[ed,AuN]
  cases hp:P l[j]with
  |true=>
   rw[hp]at g;obtain⟨r,c,g2,hr,hc,he⟩:=ih (j+1) i l (by omega) (by omega) (by omega) hl (λp h=>hq p (by rw[ed];exact Atj _ h));refine⟨r,c,?_,hr,hc,he⟩;refine Ax K Ny (Ui ..) ?_;refine Au ?_;rw[AC,AJ h1];refine Af ?_;refine(By Av l j h1 _).trans ?_;simp only[eP,eN,Ai];refine Ab g ?_;simp only[Ai];rw[BE (by omega)];refine Ab g2 ?_;rfl
  |false=>
   rw[hp]at g;have hd:(l.set i l[j]).drop (j+1)=l.drop (j+1):=List.drop_set_of_lt (by omega);obtain⟨r,c,g2,hr,hc,he⟩:=ih (j+1) (i+1) (l.set i l[j]) (by rw[AtL];omega) (by omega) (by rw[AtL];omega) (by rw[AtL];exact hl) (λp h=>hq p (by rw[ed];rw[hd]at h;exact Atj _ h));rw[AtL]at g2 hr hc;have s1:=BX Av l i h0 l[j];simp only[eP,eN]at s1;refine⟨r,c,?_,hr,hc,?_⟩
   .skip
    refine Ax K Ny (Ui ..) ?_;refine Au ?_;rw[AC,AJ h1];refine Af ?_;refine(By Av l j h1 _).trans ?_;simp only[eP,eN,Ai];refine Ab g ?_;simp only[Ai];rw[AC,AJ h0];refine Af ?_;rw[show Atl (0+i*3+3) (Aj eP l).length=U by rw[AR Av];simp;omega];refine Af ?_;rw[s1,BE (by omega),BE (by omega)];refine Ab g2 ?_;rfl
   .rw[he,hd,List.take_succ_eq_append_getElem (by rw[AtL];exact h0),List.getElem_set_self,List.take_set_of_le (η _),Atp]
    rfl
omit K in
theorem IV(P:Pt->Bool):∀ l:List Pt,l.findIdx P<l.length->l.take (l.findIdx P)++(l.drop (l.findIdx P+1)).filter (λp=>!P p)=l.filter (λp=>!P p)
 |[],h=>by simp at h
 |x::r,h=>by
  rw[AvY]at h ⊢
  cases hp:P x with
  |true=>simp[hp]
  |false=>
   rw[hp]at h;have:=IV P r (by simpa using h);simp only[cond_false,Au9,List.drop_succ_cons,AuN,hp,Bool.not_false,if_true,AuM];rw[this]
omit K in
theorem LL(P:Pt->Bool)(l:List Pt)(h:¬ l.findIdx P<l.length):l.filter (λp=>!P p)=l:=by
 rw[List.filter_eq_self];intro p hp
 cases e:P p with
 |false=>rfl
 |true=>exact absurd (List.findIdx_lt_length_of_exists ⟨p,hp,e⟩) h
omit K in
theorem Jd:∀(l:List Pt) (i:Nat),i<=l.length->(Aj eP l).take (i*3)=Aj eP (l.take i)
 |[],i,_=>by simp[Aj]
 |y::r,0,_=>by simp[Aj]
 |y::r,i+1,h=>by
  rw[show (i+1)*3=3+i*3 by omega]
  show (eP y++Aj eP r).take (3+i*3)=eP y++Aj eP (r.take i)
  rw[Av3,Auv (by rw[Av];omega),Av,show 3+i*3-3=i*3 by omega,Jd r i (by simpa using h)]
theorem ZO(P:Pt->Bool)(l:List Pt)(hl:l.length<=1000000000)(hP:∀ p∈l,D.ask (.fn 141) [.agg (eP p)] []=Δ (bv (P p),[])) :
  ∃ cells:Aa,D.ask (.fn 140) [.sl 0 0 l.length 3,fnZ] [Ψ (Aj eP l) U U]
   = Δ (.sl 0 0 (l.filter λp=>!P p).length 3,[.set (Ψ cells U U)])
   ∧ cells.take ((l.filter λp=>!P p).length*3)=Aj eP (l.filter λp=>!P p)/\(l.filter λp=>!P p).length*3<=cells.length:=by
 have g:=Alx K P l hl hP
 by_cases h:l.findIdx P<l.length
 .rw[Ac h]at g
  obtain⟨r,c,g2,hr,hc,he⟩:=Ak7 K P (λp=>p∈l) hP _ (l.findIdx P+1) (l.findIdx P) l rfl (by omega) (by omega) hl (λp hp=>At6 hp);rw[IV P l h]at he;have hk:(l.filter λp=>!P p).length=c:=by
   rw[←he,AtN];omega
  rw[hk,←he];refine⟨AG (Aj eP r) (0+c*3) (B5 [iv 0,bv Ξ,.v (.slice Θ 0 0)] ((l.length-c)*3)),?_,?_,?_⟩
  .refine Az K Ny (An9 ..) ?_
   refine Ab g ?_;simp only[Ai];refine AO ?_;rw[BE (by omega)];refine Ab g2 ?_;simp only[Ai];rw[AC,show I4 c l.length l.length=U by unfold I4;rw[At0 hc,At0 (η _)]];refine Af ?_;rw[show Atl (0+c*3+(l.length-c)*3) (Aj eP r).length=U by rw[AR Av];simp;omega];refine Af ?_;rw[AC,show I4 0 c l.length=U by unfold I4;rw[At0 (AtI _),At0 hc]];rfl
  .unfold AG
   have hlen:((Aj eP r).take (0+c*3)).length=c*3:=by
    rw[AtN,AR Av];omega
   rw[Atp,AuS hlen,Ato,Jd r c (by omega)]
  .unfold AG
   rw[γ,γ,AtN,AR Av];omega
 .rw[Ad h]at g
  rw[LL P l h];refine⟨Aj eP l,?_,Br Av l rfl,by rw[AR Av];exact η _⟩;refine Az K Ny (An9 ..) ?_;refine Ab g ?_;simp only[Ai];exact Ba rfl rfl
end
theorem M2{B:Nat}{W w:World}(h:Below B W w):Below B W w.drew:=h.drew
theorem Gd{w w':World}(h:Below w.drew.heap.size w.drew w'):Below w.heap.size w w':=⟨h.os,h.tape,h.output,h.size,h.block⟩
theorem Cg{W w w':World}(h:Below W.heap.size W w)(hb:Below w.heap.size w w'):Below W.heap.size W w':=h.trans (hb.mono h.size)
theorem Be(w:World)(o:Obj):Below w.heap.size w (w.alloc o):=(Below.refl _ _).alloc (η _) o
def Blk(w:World)(g:Nat)(t:TypeId)(cs:Array Value):Prop:=w.heap[g]? = Δ (.cells cs t (0,0))
section
variable {w w':World} {g:Nat} {t:TypeId} {cs:Array Value}
theorem Blk.lt(h:Blk w g t cs):g<w.heap.size:=by
 rcases AtR g w.heap.size with hlt|hge
 .exact hlt
 .unfold Blk at h;rw[Array.getElem?_eq_none hge]at h;cases h
theorem Blk.cell(h:Blk w g t cs)(i:Nat):w.cell? ⟨g,i,Θ⟩=cs[i]?:=cell_of_row w g i cs t (0,0) h
theorem Blk.frozen(h:Blk w g t cs)(i:Nat):w.frozen? ⟨g,i,Θ⟩=Ξ:=by
 unfold Blk at h;simp[World.frozen?,h]
theorem Blk.new(w:World)(t:TypeId)(cs:Array Value):Blk (w.alloc (.cells cs t)) w.heap.size t cs:=heap_alloc_new w _
theorem Blk.drew(h:Blk w g t cs):Blk w.drew g t cs:=h
theorem Blk.alloc(h:Blk w g t cs)(o:Obj):Blk (w.alloc o) g t cs:=(Below.heap_alloc w o g h.lt).trans h
theorem Blk.set_(h:Blk w g t cs)(i:Nat)(u:Value):Blk (w.setCell ⟨g,i,Θ⟩ u) g t (cs.setIfInBounds i u):=by
 unfold Blk at h ⊢;simp[World.setCell,Array.getElem?_modify,h]
theorem Blk.far(h:Blk w g t cs){p:Addr}(hp:g≠p.block)(u:Value):Blk (w.setCell p u) g t cs:=(Below.heap_setCell w p u g hp).trans h
theorem Blk.below{B:Nat}(h:Blk w g t cs)(hb:Below B w w')(hg:g<B):Blk w' g t cs:=(hb.block g hg).trans h
theorem Blk.call(h:Blk w g t cs)(hb:Below w.heap.size w w'):Blk w' g t cs:=h.below hb h.lt
end
def Own(w:World)(B g:Nat)(t:TypeId)(v:Value)(cs:Array Value):Prop:=B<=g/\v=.pointer (Δ ⟨g,0,Θ⟩)/\Blk w g t cs
section
variable {w w':World} {B g:Nat} {t:TypeId} {v:Value} {cs:Array Value}
theorem Own.call(h:Own w B g t v cs)(hb:Below w.heap.size w w'):Own w' B g t v cs:=⟨h.1,h.2.1,h.2.2.call hb⟩
end
def pick{α:Type}(d:Bool)(x y:α):α:=match d with|true=>x|false=>y
section
variable {w w':World} {base base' e size n:Nat} {v:Value} {xs:AA}
theorem Nv{row:Option Nat}(hb:Below w.heap.size w w'):w.grownBy w' row:=⟨hb.os,hb.tape,hb.output,hb.size,λk hk _=>hb.block k hk⟩
theorem S2(h:w.ownsRow base e size v n xs)(hb:Below w.heap.size w w'):w'.ownsRow base e size v n xs:=h.kept (row:=Θ) (Nv hb) (by cases hv:v.ownBlock<;>simp)
theorem FQ(h:w.ownsRow base e size v n xs):∃ A c,v=.slice A n c:=by
 rcases h.2 with⟨h1,h0⟩|⟨g,cap,cur,h1,_⟩
 .exact⟨Θ,0,by rw[h1,h0]⟩
 .exact⟨_,_,h1⟩
end
