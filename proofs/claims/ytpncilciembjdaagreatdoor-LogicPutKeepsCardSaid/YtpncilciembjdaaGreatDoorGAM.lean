/- Seats of D: contracts fr -/
import Derived.Test.YtpncilciembjdaaGreatDoorGAL
import Derived.Test.YtpncilciembjdaaGreatDoorChecked
import Derived.WalkKit
import Derived.WalkSpells
import Derived.WalkLawsBesides
import Derived.Deep.Draws
import Derived.Lib.Hide
set_option linter.all false
open Bool renaming false->Ξ,true->U,and_eq_true->Aqr
open Int renaming natAbs_neg->Asf
open List renaming all_eq_true->Aqt,append_assoc->AqM,cons_append->ArY,drop_append->Atl,drop_eq_getElem_cons->π,drop_zero->Aqk,filter_cons->Atm,findIdx_cons->Atg,flatten_cons->Arm,getElem?_cons_succ->AqA,getElem?_eq_getElem->θ,getElem?_eq_none->Ara,getElem?_set_ne->Arn,getElem?_set_self->Arv,getElem_mem->Aqz,length_append->χ,length_cons->ε,length_eq_zero_iff->AsT,length_set->AqW,length_take->AqT,mem_cons->ι,mem_cons_of_mem->Aql,mem_cons_self->Aqs,mem_of_mem_drop->Arh,take_append->Ato,take_left'->Ats,take_of_length_le->ArO,take_succ_cons->ArF
open Nat renaming add_mul->Aq9,add_sub_cancel->Ar3,beq->AqO,ble->Aqv,ble_eq_true_of_le->ArU,le_refl->ω,lt_or_ge->AqJ,mod_lt->Ar1,mul_add->Asr,mul_assoc->Ar9,mul_comm->AsR,mul_le_mul_left->AsC,pow_le_pow_right->ArC,pow_pos->AtI,pow_succ->ArH,strongRecOn->Arz,zero_add->Aqw,zero_le->AqR
open Option renaming none->Θ,some->Δ
namespace Go.Proofs.YtpncilciembjdaaGreatDoor
noncomputable section
open ABlk renaming mk->Ω
open AV renaming agg->ψ,fn->Aqx,ls->Φ,sl->κ,tup->Aqm
open BO renaming set->Aqu
open IntKind renaming i64->δ,u64->ξ
open Key renaming fn->φ,lp->Aqn
open Tryz renaming prog->η
open Go.RowKit
def Ano:List AV->Option AV
 |[.v (.string s)]=>if s.size<=9223372036854775807 then Δ (bv (AmH s.data.toList)) else Θ
 |_=>Θ
def CA(res:List AV->Option AV):DF:=λargs bs=>match bs with
 |[]=>(res args).map λr=>(r,[])
 |_=>Θ
def Mr(P:Program)(ents:Nat):List (Nat × MFn)->Prop
 |[]=>True
 |p::r=>(∃ hs a b,p.2=LA P ents hs a b p.1)/\Aad P p.1=U/\Mr P ents r
theorem OA{P:Program}{ents:Nat}:∀{L:List (Nat × MFn)},Mr P ents L->∀ f mf,(f,mf)∈L->FnOk P ents f mf
 |p::r,⟨⟨hs,a,b,h1⟩,h2,h3⟩,f,mf,hm=>by
  rcases ι.1 hm with rfl|hm
  .have h1:mf=_:=h1
   rw[h1];exact Acm h2
  .exact OA h3 f mf hm
theorem Oz{P:Program}{ents:Nat}:∀{L L':List (Nat × MFn)},Mr P ents L->Mr P ents L'->Mr P ents (L++L')
 |[],_,_,h=>h
 |_::_,_,⟨h1,h2,h3⟩,h=>⟨h1,h2,Oz h3 h⟩
def Zb(P:Program)(ents n:Nat):Bool:=Nat.blt ents (2 ^ n)&&(List.range n).all λg=>!ents.testBit g||Fo P g
theorem Zc{P:Program}{ents n:Nat}(h:Zb P ents n=U):Iq P ents:=by
 unfold Zb at h;rw[Aqr]at h;intro g hg;have hn:ents<2 ^ n:=Nat.blt_eq.mp h.1
 by_cases hgn:g<n
 .have:=Aqt.1 h.2 g (List.mem_range.2 hgn)
  rw[hg]at this;simpa using this
 .have:ents<2 ^ g:=Nat.lt_of_lt_of_le hn (ArC (by decide) (by omega))
  rw[Nat.testBit_lt_two_pow this]at hg
  cases hg
theorem MZ{α:Type}{f:Nat}:∀{A B:List (Nat × α)},B5 f (A++B)=match B5 f A with
  |some a=>Δ a
  |none=>B5 f B
 |[],_=>rfl
 |(m,b)::r,B=>by
  have ih:=MZ (f:=f) (A:=r) (B:=B)
  show (match AqO f m with
   |true=>Δ b
   |false=>B5 f (r++B))=match (match AqO f m with
   |true=>Δ b
   |false=>B5 f r) with
   |some a=>Δ a
   |none=>B5 f B
  cases AqO f m with
  |true=>rfl
  |false=>exact ih
def Yn(A B:List (Nat × MFn)):Bool:=B.all λp=>(B5 p.1 A).isNone
theorem TZ{A B:List (Nat × MFn)}(h:Yn A B=U){f:Nat}{mf:MFn}(hf:B5 f B=Δ mf):B5 f (A++B)=Δ mf:=by
 have:=Aqt.1 h _ (Fq hf);have h0:B5 f A=Θ:=Option.isNone_iff_eq_none.1 this;rw[MZ,h0];exact hf
theorem Wz{A B:List (Nat × MFn)}{f:Nat}{mf:MFn}(hf:B5 f A=Δ mf):B5 f (A++B)=Δ mf:=by
 rw[MZ,hf]
def EL(P:Program):List (Nat × DF)->Prop
 |[]=>True
 |p::r=>AN (AT P p.1) p.2/\EL P r
theorem OW{P:Program}:∀{L:List (Nat × DF)},EL P L->∀ f d,(f,d)∈L->AN (AT P f) d
 |p::r,⟨h1,h2⟩,f,d,hm=>by
  rcases ι.1 hm with rfl|hm
  .exact h1
  .exact OW h2 f d hm
def EK(P:Program)(ents:Nat):List (List (Nat × MFn))->Prop
 |[]=>True
 |T::r=>Mr P ents T/\EK P ents r
theorem Rf{P:Program}{ents:Nat}:∀{L:List (List (Nat × MFn))},EK P ents L->Mr P ents L.flatten
 |[],_=>trivial
 |T::r,⟨h1,h2⟩=>by
  rw[Arm];exact Oz h1 (Rf h2)
theorem DD{P:Program}{ents:Nat}{own:List (Nat × Nat)}{L:List (List (Nat × MFn))}{X:List (Nat × DF)}(m:P.follows .mixedOrders=U)(e:Iq P ents)(a:EK P ents L)(g:EL P X):SeatOk P ents (D9 own L.flatten X) where
 mixed:=m
 ent:=e
 fns f mf h:=OA (Rf a) f mf (Fq h)
 ext f d h:=OW g f d (Fq h)
def E7:List (List (Nat × MFn))->Bool
 |[]=>U
 |T::r=>Yn T r.flatten&&E7 r
theorem Vb{f:Nat}{mf:MFn}:∀{L:List (List (Nat × MFn))} {i:Nat} {T:List (Nat × MFn)},E7 L=U->L[i]? = Δ T->B5 f T=Δ mf->B5 f L.flatten=Δ mf
 |A::r,0,T,_,hi,h=>by
  injection hi with hi
  subst hi;rw[Arm];exact Wz h
 |A::r,i+1,T,ha,hi,h=>by
  unfold E7 at ha;rw[Aqr]at ha;rw[Arm];exact TZ ha.1 (Vb ha.2 hi h)
theorem Z1:∀{L:List (List (Nat × MFn))} {i:Nat} {T:List (Nat × MFn)},L[i]? = Δ T->∀ p∈T,p∈L.flatten
 |A::r,0,T,hi,p,hp=>by
  injection hi with hi
  subst hi;rw[Arm];exact List.mem_append_left _ hp
 |A::r,i+1,T,hi,p,hp=>by
  rw[Arm];exact List.mem_append_right _ (Z1 (L:=r) hi p hp)
theorem Bu{own:List (Nat × Nat)}{L:List (List (Nat × MFn))}{X:List (Nat × DF)}(h:(E7 L&&LD L.flatten X)=U){i:Nat}{T:List (Nat × MFn)}(hi:L[i]? = Δ T):Knows own T (AY Ah (D9 own L.flatten X)):=by
 rw[Aqr]at h;refine ZO (λf mf hf=>Vb h.1 hi hf) (Aqt.2 λp hp=>Aqt.1 h.2 p (Z1 hi p hp))
def Bt:Nat:=1042962668542029374677668987337996011341198353761632795856419847799597962473998426758556155900
abbrev Au(h:Jf)(n:Nat):MFn:=LA η Bt h Ξ Ξ n
def mBg:Nat->Nat->List Bool
 | 0,_=>[]
 | k+1,n=>(match AqO n 0 with
  | true=>[]
  | false=>AqO (Nat.mod n 2) 1::mBg k (Nat.div n 2))
def mB(n:Nat):List Bool:=mBg 400 n
abbrev Bb:List Sh:=[.bool,.ls]
abbrev Bg:List Sh:=[.int .i64,.ls,.bool,.ls,.bool,.ls]
abbrev BC:List Sh:=[.int .i64,.bool,.ls]
abbrev CH:List Sh:=[.ls,.bool,.ls]
abbrev GG:List Sh:=[.ls,.bool,.ls,.bool]
def Al:List (Nat × Nat):=[(262,0),(240,0),(241,0),(136,0),(196,0),(234,0),(235,0),(265,0),(275,0),(140,0),(199,0)]
theorem Nt:Tryz.prog.follows .mixedOrders=U:=by kernel_rfl
set_option maxRecDepth 100000 in
theorem Dt:Iq η Bt:=Zc (n:=600) (by kernel_rfl)
section
variable {α:Type} (key:α->Int)
def kf(l:List α)(p:Nat):Int:=match l[p]? with
 |some x=>key x
 |none=>0
theorem Ff{l:List α}{p:Nat}(h:p<l.length):kf key l p=key l[p]:=by
 unfold kf;rw[θ h]
def CR(l:List α)(i j:Nat):List α:=match l[i]?,l[j]? with
 |some x,Δ y=>(l.set i y).set j x
 |_,_=>l
theorem DG{l:List α}{i j:Nat}(hi:i<l.length)(hj:j<l.length):CR l i j=(l.set i l[j]).set j l[i]:=by
 unfold CR;rw[θ hi,θ hj]
theorem Ih(l:List α)(i j:Nat):(CR l i j).length=l.length:=by
 unfold CR;split<;>simp
theorem Vg{l:List α}{i j:Nat}(hi:i<l.length)(hj:j<l.length)(p:Nat):kf key (CR l i j) p=if p=j then kf key l i else if p=i then kf key l j else kf key l p:=by
 rw[DG hi hj];unfold kf
 by_cases h1:p=j
 .subst h1
  rw[if_pos rfl,Arv (by simpa using hj),θ hi]
 .rw[if_neg h1,Arn (λe=>h1 e.symm)]
  by_cases h2:p=i
  .subst h2
   rw[if_pos rfl,Arv hi,θ hj]
  .rw[if_neg h2,Arn (λe=>h2 e.symm)]
theorem Gp(l:List α)(i j:Nat):(CR l i j).Perm l:=by
 by_cases hi:i<l.length
 .by_cases hj:j<l.length
  .rw[DG hi hj]
   have:=Array.swap_perm (xs:=l.toArray) (i:=i) (j:=j) (by simpa using hi) (by simpa using hj);have h2:=this.toList;simpa[Array.swap]using h2
  .unfold CR
   rw[Ara (show l.length<=j by omega)];split
   .rename_i h;cases h
   .exact List.Perm.refl _
 .unfold CR
  rw[Ara (show l.length<=i by omega)]
theorem XI{l:List α}{i j p:Nat}(h1:p≠i)(h2:p≠j):(CR l i j)[p]? = l[p]?:=by
 unfold CR;split
 .rw[Arn (λe=>h2 e.symm),Arn (λe=>h1 e.symm)]
 .rfl
def Srt(l:List α)(a b:Nat):Prop:=∀ p q,a<=p->p<q->q<b->kf key l p<=kf key l q
def V5(l:List α)(a i j:Nat):Prop:=∀ p q,a<=p->p<q->q<=i->q≠j->kf key l p<=kf key l q
def Same0(l r:List α)(a b:Nat):Prop:=∀ p,(p<a\/b<=p)->r[p]? = l[p]?
theorem CQ(l:List α)(a b:Nat):Same0 l l a b:=λ_ _=>rfl
theorem Same0.trans{l r s:List α}{a b:Nat}(h1:Same0 l r a b)(h2:Same0 r s a b):Same0 l s a b:=λp hp=>(h2 p hp).trans (h1 p hp)
theorem Same0.wide{l r:List α}{a b c d:Nat}(h1:Same0 l r a b)(hc:c<=a)(hd:b<=d):Same0 l r c d:=λp hp=>h1 p (by omega)
theorem Same0.kf{l r:List α}{a b p:Nat}(h:Same0 l r a b)(hp:p<a\/b<=p):kf key r p=kf key l p:=by
 unfold Go.Proofs.YtpncilciembjdaaGreatDoor.kf;rw[h p hp]
theorem XJ{l:List α}{i j a b:Nat}(h1:a<=i)(h2:i<b)(h3:a<=j)(h4:j<b):Same0 l (CR l i j) a b:=λp hp=>XI (by omega) (by omega)
theorem XG{l:List α}{a i j:Nat}(hi:i<l.length)(ha:a<j)(hj:j<=i)(h:V5 key l a i j)(hlt:kf key l j<kf key l (j-1)):V5 key (CR l j (j-1)) a i (j-1):=by
 intro p q h1 h2 h3 h4;rw[Vg key (by omega) (by omega),Vg key (by omega) (by omega)]
 by_cases q1:q=j
 .subst q1
  rw[if_neg (show ¬ q=q-1 by omega),if_pos rfl]
  by_cases p1:p=q-1
  .rw[if_pos p1];omega
  .rw[if_neg p1,if_neg (by omega)]
   exact h p (q-1) h1 (by omega) (by omega) (by omega)
 .rw[if_neg h4,if_neg q1]
  by_cases p1:p=j-1
  .rw[if_pos p1]
   exact h j q (by omega) (by omega) h3 q1
  .rw[if_neg p1]
   by_cases p2:p=j
   .rw[if_pos p2]
    exact h (j-1) q (by omega) (by omega) h3 q1
   .rw[if_neg p2]
    exact h p q h1 h2 h3 q1
theorem SV{l:List α}{a i j:Nat}(hj:j<=i)(h:V5 key l a i j)(he:j=a\/kf key l (j-1)<=kf key l j):Srt key l a (i+1):=by
 intro p q h1 h2 h3
 by_cases hq:q=j
 .subst hq
  rcases he with he|he
  .omega
  .by_cases hp:p=q-1
   .rw[hp];exact he
   .have:=h p (q-1) h1 (by omega) (by omega) (by omega)
    omega
 .exact h p q h1 h2 (by omega) hq
theorem UP{l:List α}{a i:Nat}(h:Srt key l a i):V5 key l a i i:=λp q h1 h2 h3 h4=>h p q h1 h2 (by omega)
theorem QI{l:List α}(h:Srt key l 0 l.length):l.Pairwise λx y=>key x<=key y:=by
 rw[List.pairwise_iff_getElem];intro i j hi hj hij;have:=h i j (by omega) hij hj
 rwa [Ff key hi,Ff key hj]at this
theorem AgD(l:List α)(a:Nat):Srt key l a (a+1):=λp q h1 h2 h3=>by omega
theorem AgC(l:List α)(a:Nat):Srt key l a a:=λp q h1 h2 h3=>by omega
end
def Ae:List Nat->Nat
 |[]=>0
 |x::r=>x+4294967296*Ae r
def Limbs(l:List Nat):Prop:=∀ x∈l,x<4294967296
def AK(n:Nat):List Nat:=if n=0 then [] else(n % 4294967296)::AK (n / 4294967296)
termination_by n
decreasing_by omega
theorem EC:AK 0=[]:=by rw[AK];rfl
theorem Hb{n:Nat}(h:n≠0):AK n=(n % 4294967296)::AK (n / 4294967296):=by rw[AK,if_neg h]
theorem Ay:∀(n:Nat),Limbs (AK n):=by
 intro n
 induction n using Arz with
 |ind n ih=>
  by_cases h:n=0
  .subst h;rw[EC];intro x hx;cases hx
  .rw[Hb h]
   intro x hx;rcases ι.1 hx with rfl|hx
   .exact Ar1 _ (by omega)
   .exact ih (n / 4294967296) (by omega) x hx
theorem AR:∀(n:Nat),Ae (AK n)=n:=by
 intro n
 induction n using Arz with
 |ind n ih=>
  by_cases h:n=0
  .subst h;rw[EC];rfl
  .rw[Hb h,Ae,ih (n / 4294967296) (by omega)]
   omega
def CI:List Nat->Nat
 |[]=>0
 |x::r=>if CI r=0/\x=0 then 0 else CI r+1
theorem DH:∀ l:List Nat,CI l<=l.length
 |[]=>ω _
 |x::r=>by
  have:=DH r;unfold CI;rw[ε];split<;>omega
theorem Limbs.cons{x:Nat}{r:List Nat}(h:Limbs (x::r)):x<4294967296/\Limbs r:=⟨h x (Aqs ..),λy hy=>h y (Aql _ hy)⟩
theorem Cr:Limbs []:=λ_ h=>by cases h
theorem Bx{x:Nat}{r:List Nat}(h:x<4294967296)(h2:Limbs r):Limbs (x::r):=λy hy=>by
 rcases ι.1 hy with rfl|hy
 .exact h
 .exact h2 y hy
theorem O3{a b:List Nat}(h:Limbs a)(h2:Limbs b):Limbs (a++b):=λx hx=>by
 rcases List.mem_append.1 hx with hx|hx
 .exact h x hx
 .exact h2 x hx
theorem Limbs.take{l:List Nat}(h:Limbs l)(n:Nat):Limbs (l.take n):=λx hx=>h x (List.mem_of_mem_take hx)
theorem Limbs.drop{l:List Nat}(h:Limbs l)(n:Nat):Limbs (l.drop n):=λx hx=>h x (Arh hx)
theorem Limbs.get{l:List Nat}(h:Limbs l){i:Nat}(hi:i<l.length):l[i]<4294967296:=h _ (Aqz hi)
theorem Abq:∀{l:List Nat},CI l=0->Ae l=0
 |[],_=>rfl
 |x::r,h=>by
  unfold CI at h;split at h
  .rename_i h2
   rw[Ae,Abq h2.1,h2.2]
  .omega
theorem Abu:∀{l:List Nat},Ae l=0->CI l=0
 |[],_=>rfl
 |x::r,h=>by
  rw[Ae]at h;unfold CI;rw[if_pos ⟨Abu (by omega),by omega⟩]
theorem J0:∀{l:List Nat},Limbs l->l.take (CI l)=AK (Ae l)
 |[],_=>by rw[Ae,EC];rfl
 |x::r,h=>by
  obtain⟨h1,h2⟩:=h.cons;have ih:=J0 h2;unfold CI;split
  .rename_i h3
   rw[List.take_zero,Ae,Abq h3.1,h3.2,EC]
  .rename_i h3
   have h0:Ae (x::r)≠0:=by
    intro h0;rw[Ae]at h0;exact h3 ⟨Abu (by omega),by omega⟩
   rw[ArF,Hb h0,Ae];have e1:(x+4294967296*Ae r) % 4294967296=x:=by omega
   have e2:(x+4294967296*Ae r) / 4294967296=Ae r:=by omega
   rw[e1,e2,ih]
theorem FO:∀(a b:List Nat),Ae (a++b)=Ae a+4294967296 ^ a.length*Ae b
 |[],b=>by simp[Ae]
 |x::r,b=>by
  rw[ArY,Ae,FO r b,Ae,ε,ArH,Asr,←Ar9,AsR 4294967296 (4294967296 ^ r.length)];omega
theorem Cz:∀{l:List Nat},Limbs l->Ae l<4294967296 ^ l.length
 |[],_=>by simp[Ae]
 |x::r,h=>by
  obtain⟨h1,h2⟩:=h.cons;have:=Cz h2;rw[Ae,ε,ArH];omega
theorem Ha(l:List Nat)(h:Limbs l):(AK (Ae l)).length=CI l:=by
 rw[←J0 h,AqT];have:=DH l;omega
theorem B1{n k:Nat}(h:n<4294967296 ^ k):(AK n).length<=k:=by
 induction k generalizing n with
 |zero=>
  have:n=0:=by simpa using h
  subst this;rw[EC];exact ω _
 |succ k ih=>
  by_cases h0:n=0
  .subst h0;rw[EC];exact AqR _
  .rw[Hb h0,ε]
   have:n / 4294967296<4294967296 ^ k:=by
    rw[Nat.div_lt_iff_lt_mul (by omega)];rw[ArH]at h;exact h
   have:=ih this;omega
theorem Sq{n k:Nat}(h:4294967296 ^ k<=n):k<(AK n).length:=by
 by_cases h2:k<(AK n).length
 .exact h2
 .have h3:=Cz (Ay n)
  rw[AR]at h3;have h4:4294967296 ^ (AK n).length<=4294967296 ^ k:=ArC (by omega) (by omega);omega
theorem PD:∀{l:List Nat},0<CI l->∃ x,l[CI l-1]? = Δ x/\x≠0
 |[],h=>by simp[CI]at h
 |y::r,h=>by
  by_cases h1:CI r=0
  .have h2:y≠0:=by
    intro h2;unfold CI at h;rw[if_pos ⟨h1,h2⟩]at h;omega
   refine⟨y,?_,h2⟩;unfold CI;rw[if_neg (λe=>h2 e.2),h1];rfl
  .obtain⟨x,h3,h4⟩:=PD (l:=r) (by omega)
   refine⟨x,?_,h4⟩;unfold CI;rw[if_neg (λe=>h1 e.1)];have:CI r+1-1=(CI r-1)+1:=by omega
   rw[this,AqA,h3]
theorem Q4:∀{l:List Nat} {i x:Nat},l[i]? = Δ x->x≠0->i<CI l
 |[],i,x,h,_=>by simp at h
 |y::r,0,x,h,h2=>by
  have h:y=x:=by simpa using h
  unfold CI;rw[if_neg (λe=>h2 (by rw[←h];exact e.2))];omega
 |y::r,i+1,x,h,h2=>by
  rw[AqA]at h;have:=Q4 h h2;unfold CI;rw[if_neg (λe=>by omega)];omega
theorem PC{l:List Nat}{n:Nat}(h:CI l<=n+1)(h2:l[n]? = Δ 0):CI l<=n:=by
 by_cases h3:CI l=n+1
 .obtain⟨x,h4,h5⟩:=PD (l:=l) (by omega)
  rw[h3,Ar3,h2]at h4;injection h4 with h4
  exact absurd h4.symm h5
 .omega
def eL(n:Nat):List AV:=[.v (.int .u32 (n:Int))]
def eN(l:List Nat):AV:=.ls (l.map eL)
theorem AW(x:Nat):(eL x).length=1:=rfl
def J8:Nat->List Nat->List Nat->List Nat
 |c,[],_=>[c]
 |c,x::a,b=>((x+b.headD 0+c) % 4294967296)::J8 ((x+b.headD 0+c) / 4294967296) a b.tail
theorem Ez{b:List Nat}(h:Limbs b):b.headD 0<4294967296:=by
 cases b with
 |nil=>simp
 |cons y b=>exact h.cons.1
theorem Limbs.tail{b:List Nat}(h:Limbs b):Limbs b.tail:=by
 cases b with
 |nil=>exact h
 |cons y b=>exact h.cons.2
theorem Ii(b:List Nat):Ae b=b.headD 0+4294967296*Ae b.tail:=by
 cases b<;>rfl
theorem La:∀(a b:List Nat) (c:Nat),b.length<=a.length->Ae (J8 c a b)=c+Ae a+Ae b
 |[],b,c,h=>by
  obtain rfl:b=[]:=AsT.1 (by simpa using h);simp[J8,Ae]
 |x::a,b,c,h=>by
  have ih:=La a b.tail ((x+b.headD 0+c) / 4294967296) (by simp at h ⊢;omega);rw[J8,Ae,ih,Ae,Ii b];omega
theorem IH:∀(a b:List Nat) (c:Nat),Limbs a->Limbs b->c<=1->Limbs (J8 c a b)
 |[],b,c,_,_,hc=>Bx (by omega) Cr
 |x::a,b,c,ha,hb,hc=>by
  have h1:=Ez hb;have h2:=ha.cons;exact Bx (Ar1 _ (by omega)) (IH a b.tail _ h2.2 hb.tail (by omega))
def LW:Nat->Nat->List Nat->List Nat->List Nat
 |0,_,_,_=>[]
 |k+1,c,a,b=>((a.headD 0+b.headD 0+c) % 4294967296)::LW k ((a.headD 0+b.headD 0+c) / 4294967296) a.tail b.tail
theorem PH:∀(k c:Nat) (a b:List Nat),Ae (LW k c a b)=(c+Ae a+Ae b) % 4294967296 ^ k
 |0,c,a,b=>by simp[LW,Ae,Nat.mod_one]
 |k+1,c,a,b=>by
  have ih:=PH k ((a.headD 0+b.headD 0+c) / 4294967296) a.tail b.tail;rw[LW,Ae,ih,Ii a,Ii b,ArH,AsR (4294967296 ^ k) 4294967296,Nat.mod_mul];have e1:(c+(a.headD 0+4294967296*Ae a.tail)+(b.headD 0+4294967296*Ae b.tail)) % 4294967296=(a.headD 0+b.headD 0+c) % 4294967296:=by omega
  have e2:(c+(a.headD 0+4294967296*Ae a.tail)+(b.headD 0+4294967296*Ae b.tail)) / 4294967296=(a.headD 0+b.headD 0+c) / 4294967296+Ae a.tail+Ae b.tail:=by omega
  rw[e1,e2]
theorem Mt:∀(k c:Nat) (a b:List Nat),Limbs (LW k c a b)
 |0,_,_,_=>Cr
 |k+1,c,a,b=>Bx (Ar1 _ (by omega)) (Mt k _ _ _)
def Gl:Nat->List Nat->List Nat->List Nat
 |_,[],_=>[]
 |c,x::a,b=>(if x<b.headD 0+c then x+4294967296-(b.headD 0+c) else x-(b.headD 0+c))::Gl (if x<b.headD 0+c then 1 else 0) a b.tail
def QN:Nat->List Nat->List Nat->Nat
 |c,[],_=>c
 |c,x::a,b=>QN (if x<b.headD 0+c then 1 else 0) a b.tail
theorem VU:∀(a b:List Nat) (c:Nat),c<=1->QN c a b<=1
 |[],_,_,h=>h
 |x::a,b,c,h=>VU a b.tail _ (by split<;>omega)
theorem PJ:∀(a b:List Nat) (c:Nat),Limbs a->Limbs b->c<=1->b.length<=a.length->Ae (Gl c a b)+Ae b+c=Ae a+4294967296 ^ a.length*QN c a b
 |[],b,c,_,_,_,h=>by
  obtain rfl:b=[]:=AsT.1 (by simpa using h);simp[Gl,QN,Ae]
 |x::a,b,c,ha,hb,hc,h=>by
  have h1:=Ez hb;have h2:=ha.cons;rw[Gl,QN,Ae,Ae,Ii b,ε,ArH];have ih:=PJ a b.tail (if x<b.headD 0+c then 1 else 0) h2.2 hb.tail (by split<;>omega) (by simp at h ⊢;omega);rw[AsR (4294967296 ^ a.length) 4294967296,Ar9];revert ih;generalize 4294967296 ^ a.length*QN (if x<b.headD 0+c then 1 else 0) a b.tail=z;generalize Ae (Gl (if x<b.headD 0+c then 1 else 0) a b.tail)=s;intro ih;split at ih
  .rename_i h3
   rw[if_pos h3];omega
  .rename_i h3
   rw[if_neg h3];omega
theorem Gm:∀(a b:List Nat) (c:Nat),Limbs a->Limbs b->c<=1->Limbs (Gl c a b)
 |[],_,_,_,_,_=>Cr
 |x::a,b,c,ha,hb,hc=>by
  have h1:=Ez hb;have h2:=ha.cons;refine Bx ?_ (Gm a b.tail _ h2.2 hb.tail (by split<;>omega));split<;>omega
theorem JZ:∀(a b:List Nat) (c:Nat),(Gl c a b).length=a.length
 |[],_,_=>rfl
 |x::a,b,c=>by rw[Gl,ε,JZ a,ε]
theorem Tb{a b:List Nat}(ha:Limbs a)(hb:Limbs b)(h:b.length<=a.length)(hv:Ae b<=Ae a):Ae (Gl 0 a b)=Ae a-Ae b:=by
 have h1:=PJ a b 0 ha hb (by omega) h;have h2:=Cz (Gm a b 0 ha hb (by omega));rw[JZ]at h2;have h3:=VU a b 0 (by omega);have h4:=Cz ha;rcases AqJ (QN 0 a b) 1 with h5|h5
 .rw[show QN 0 a b=0 by omega]at h1
  omega
 .rw[show QN 0 a b=1 by omega]at h1
  omega
def Nv:Nat->Nat->List Nat->List Nat->List Nat
 |_,c,[],o=>c::o.tail
 |x,c,y::b,o=>((x*y+o.headD 0+c) % 4294967296)::Nv x ((x*y+o.headD 0+c) / 4294967296) b o.tail
theorem PI:∀(x:Nat) (b o:List Nat) (c:Nat),(o.drop b.length).headD 0=0->Ae (Nv x c b o)=x*Ae b+Ae o+c
 |x,[],o,c,h=>by
  have h:o.headD 0=0:=h;rw[Nv,Ae,Ae,Ii o,h];omega
 |x,y::b,o,c,h=>by
  have h2:(o.tail.drop b.length).headD 0=0:=by
   rw[ε]at h
   cases o with
   |nil=>simp
   |cons z o=>exact h
  have ih:=PI x b o.tail ((x*y+o.headD 0+c) / 4294967296) h2;have e:x*(y+4294967296*Ae b)=x*y+4294967296*(x*Ae b):=by
   rw[Asr,←Ar9,AsR x 4294967296,Ar9]
  rw[Nv,Ae,ih,Ae,Ii o,e];omega
theorem Qn{x y:Nat}(hx:x<4294967296)(hy:y<4294967296):x*y<=18446744065119617025:=by
 have:=Nat.mul_le_mul (show x<=4294967295 by omega) (show y<=4294967295 by omega);omega
theorem Nw:∀(x:Nat) (b o:List Nat) (c:Nat),x<4294967296->Limbs b->Limbs o->c<4294967296->Limbs (Nv x c b o)
 |x,[],o,c,_,_,ho,hc=>Bx hc ho.tail
 |x,y::b,o,c,hx,hb,ho,hc=>by
  have h1:=Ez ho;have h2:=hb.cons;have h3:=Qn hx h2.1;exact Bx (Ar1 _ (by omega)) (Nw x b o.tail _ hx h2.2 ho.tail (by omega))
def Fj:Nat->Nat->List Nat->List Nat
 |_,c,[]=>[c]
 |m,c,x::a=>((x*m+c) % 4294967296)::Fj m ((x*m+c) / 4294967296) a
theorem LS:∀(m:Nat) (a:List Nat) (c:Nat),Ae (Fj m c a)=Ae a*m+c
 |m,[],c=>by simp[Fj,Ae]
 |m,x::a,c=>by
  rw[Fj,Ae,LS m a,Ae,Aq9,Ar9];omega
theorem JW:∀(m:Nat) (a:List Nat) (c:Nat),m<4294967296->Limbs a->c<4294967296->Limbs (Fj m c a)
 |m,[],c,_,_,hc=>Bx hc Cr
 |m,x::a,c,hm,ha,hc=>by
  have h2:=ha.cons;have h3:=Qn h2.1 hm;exact Bx (Ar1 _ (by omega)) (JW m a _ hm h2.2 (by omega))
def Db(a b:Nat):Int:=if a<b then -1 else if b<a then 1 else 0
theorem Rs{a b:List Nat}(ha:Limbs a)(hb:Limbs b)(h:a.length=b.length)(x y:Nat):Db (Ae (a++[x])) (Ae (b++[y]))=if x<y then -1 else if y<x then 1 else Db (Ae a) (Ae b):=by
 rw[FO,FO,←h];have h1:=Cz ha;have h2:=Cz hb;rw[←h]at h2;simp only[Ae,Nat.mul_zero,Nat.add_zero];revert h1 h2;generalize 4294967296 ^ a.length=k;generalize Ae a=p;generalize Ae b=q;intro h1 h2
 by_cases h3:x<y
 .rw[if_pos h3]
  have:k*(x+1)<=k*y:=AsC _ h3;rw[Asr]at this;unfold Db;rw[if_pos (by omega)]
 .rw[if_neg h3]
  by_cases h4:y<x
  .rw[if_pos h4]
   have:k*(y+1)<=k*x:=AsC _ h4;rw[Asr]at this;unfold Db;rw[if_neg (by omega),if_pos (by omega)]
  .rw[if_neg h4]
   obtain rfl:x=y:=by omega
   unfold Db
   by_cases h5:p<q
   .rw[if_pos (by omega),if_pos h5]
   .rw[if_neg (by omega),if_neg h5]
    by_cases h6:q<p
    .rw[if_pos (by omega),if_pos h6]
    .rw[if_neg (by omega),if_neg h6]
structure Zi where
 neg:Bool
 abs:List Nat
def DE(neg:Bool)(n:Nat):Int:=if neg then -(n:Int) else n
def zv(z:Zi):Int:=DE z.neg (Ae z.abs)
def A1(n:Int):Zi:=⟨decide (n<0),AK n.natAbs⟩
def eZ(z:Zi):List AV:=[bv z.neg,eN z.abs]
theorem Agz(n:Int):DE (decide (n<0)) n.natAbs=n:=by
 unfold DE
 by_cases h:n<0
 .rw[decide_eq_true h,if_pos rfl];omega
 .rw[decide_eq_false h,if_neg (by simp)];omega
theorem Cb(n:Int):zv (A1 n)=n:=by
 unfold zv A1;rw[AR];exact Agz n
theorem V3(neg:Bool)(v:Nat):A1 (DE neg v)=⟨neg&&decide (0<v),AK v⟩:=by
 unfold A1 DE
 cases neg with
 |false=>
  rw[if_neg (by simp),Bool.false_and,decide_eq_false (by omega)];rfl
 |true=>
  rw[if_pos rfl,Bool.true_and,Asf,Int.natAbs_natCast]
  congr 1
  by_cases h:0<v
  .rw[decide_eq_true h,decide_eq_true (by omega)]
  .rw[decide_eq_false h,decide_eq_false (by omega)]
theorem Alb:A1 0=⟨Ξ,[]⟩:=by
 unfold A1;rw[show (0:Int).natAbs=0 from rfl,EC];rfl
structure Lz (k:Nat) (z:Zi):Prop where
 lim:Limbs z.abs
 len:z.abs.length<=k
theorem Lz.mono{k m:Nat}{z:Zi}(h:Lz k z)(hm:k<=m):Lz m z:=⟨h.lim,by have:=h.len;omega⟩
def InB(k:Nat)(n:Int):Prop:=n.natAbs<4294967296 ^ k
theorem InB.lz{k:Nat}{n:Int}(h:InB k n):Lz k (A1 n):=⟨Ay _,B1 h⟩
theorem Lz.inb{k:Nat}{z:Zi}(h:Lz k z):InB k (zv z):=by
 unfold InB zv;have h1:=Cz h.lim;have h2:4294967296 ^ z.abs.length<=4294967296 ^ k:=ArC (by omega) h.len;have h3:(DE z.neg (Ae z.abs)).natAbs=Ae z.abs:=by
  unfold DE;split
  .rw[Asf];rfl
  .rfl
 omega
theorem InB.mono{k m:Nat}{n:Int}(h:InB k n)(hm:k<=m):InB m n:=by
 unfold InB at *;have h2:4294967296 ^ k<=4294967296 ^ m:=ArC (by omega) hm;omega
theorem InB.add{k:Nat}{a b:Int}(ha:InB k a)(hb:InB k b):InB (k+1) (a+b):=by
 unfold InB at *;have:=Int.natAbs_add_le a b;rw[ArH];omega
theorem InB.neg{k:Nat}{a:Int}(ha:InB k a):InB k (-a):=by
 unfold InB at *;rw[Asf];exact ha
theorem InB.mul{k m:Nat}{a b:Int}(ha:InB k a)(hb:InB m b):InB (k+m) (a*b):=by
 unfold InB at *;rw[Int.natAbs_mul,Nat.pow_add];have h1:a.natAbs*b.natAbs<=a.natAbs*4294967296 ^ m:=AsC _ (Nat.le_of_lt hb);have h2:a.natAbs*4294967296 ^ m<4294967296 ^ k*4294967296 ^ m:=Nat.mul_lt_mul_of_pos_right ha (AtI (by omega));omega
theorem InB.zero(k:Nat):InB k 0:=by
 unfold InB;exact AtI (by omega)
theorem InB.one{k:Nat}(h:1<=k):InB k 1:=by
 have:InB 1 1:=by unfold InB;decide
 exact this.mono h
def IP(a b:Int):Int:=if a<b then -1 else if b<a then 1 else 0
def Cy(n:Int):Int:=if n<0 then -1 else if 0<n then 1 else 0
theorem AbO(z:Zi):zv z<0 ↔ z.neg=U/\0<Ae z.abs:=by
 obtain⟨n,l⟩:=z
 cases n with
 |true=>
  show (-(Ae l:Int)<0) ↔ (U=U/\0<Ae l)
  exact⟨λh=>⟨rfl,by omega⟩,λh=>by have:=h.2;omega⟩
 |false=>
  show ((Ae l:Int)<0) ↔ (Ξ=U/\0<Ae l)
  exact⟨λh=>by omega,λh=>by cases h.1⟩
theorem V4(z:Zi):zv z=0 ↔ Ae z.abs=0:=by
 unfold zv DE;split<;>omega
theorem Ee{n:Nat}:0<(AK n).length ↔ 0<n:=by
 constructor
 .intro h
  by_cases h0:n=0
  .subst h0;rw[EC]at h;simp at h
  .omega
 .intro h
  rw[Hb (by omega)];simp
theorem Dq{a b:Int}(h:a=b){x y:KR}:br (Ah.eq a b) x y=x:=by rw[AmS,decide_eq_true h];rfl
theorem Bk{a b:Int}{x y z:KR}(g:x=z)(h: a=b:=by omega):br (Ah.eq a b) x y=z:=(Dq h).trans g
theorem Cn{a b:Int}(h:¬ a=b){x y:KR}:br (Ah.eq a b) x y=y:=by rw[AmS,decide_eq_false h];rfl
theorem AC{a b:Int}{x y z:KR}(g:y=z)(h:¬ a=b:=by omega):br (Ah.eq a b) x y=z:=(Cn h).trans g
theorem Ab2{a b:ByteArray}(h:a=b){x y:KR}:br (Ah.seq a b) x y=x:=by rw[AmW,decide_eq_true h];rfl
theorem Agy{a b:ByteArray}{x y z:KR}(h: a=b)(g:x=z):br (Ah.seq a b) x y=z:=(Ab2 h).trans g
theorem PW{a b:Int}(h:a<b){x y:KR}:br (Ah.lt a b) x y=x:=by rw[AmU,decide_eq_true h];rfl
theorem Ak{a b:Int}{x y z:KR}(g:x=z)(h: a<b:=by omega):br (Ah.lt a b) x y=z:=(PW h).trans g
theorem E8{a b:Int}(h:¬ a<b){x y:KR}:br (Ah.lt a b) x y=y:=by rw[AmU,decide_eq_false h];rfl
theorem Aj{a b:Int}{x y z:KR}(g:y=z)(h:¬ a<b:=by omega):br (Ah.lt a b) x y=z:=(E8 h).trans g
theorem Tv{a b:Int}(h:a<=b){x y:KR}:br (Ah.le a b) x y=x:=by rw[AmT,decide_eq_true h];rfl
theorem Cx{a b:Int}{x y z:KR}(g:x=z)(h: a≤b:=by omega):br (Ah.le a b) x y=z:=(Tv h).trans g
theorem PV{a b:Int}(h:¬ a<=b){x y:KR}:br (Ah.le a b) x y=y:=by rw[AmT,decide_eq_false h];rfl
theorem C2{a b:Int}{x y z:KR}(g:y=z)(h:¬ a≤b:=by omega):br (Ah.le a b) x y=z:=(PV h).trans g
section
open Go.RowKit
def Aih:MFn:=Au [] 157
def AhG:Hnt:=⟨[],[],[]⟩
def AmE:MFn:=Au [] 84
def Al8:Hnt:=⟨[(157,(.bool,[]))],[],[]⟩
def Ah9:MFn:=Au [] 137
def Ahy:Hnt:=⟨[(84,(.int .i64,[]))],[],[(6,[.int .i64]),(8,[.int .i64])]⟩
def Aic:MFn:=Au [] 141
def AhB:Hnt:=⟨[(64,(.int .i64,[]))],[],[(4,Bb)]⟩
def Ah8:MFn:=LA η Bt [] Ξ U 136
def Ahx:Hnt:=⟨[(137,(.int .i64,[])),(196,(.tup [],[.row U]))],[],[]⟩
def Ly:MFn:=LA η Bt [⟨63,(mB 455),[],[],[(1,((mB 199),([],[1000000])))]⟩,⟨63,(mB 71),[],[],[(3,([U],([],[1000000])))]⟩,⟨63,(mB 455),[],[],[(5,((mB 199),([],[1000000])))]⟩] Ξ U 196
def Gv:Hnt:=⟨[(137,(.int .i64,[])),(234,(.tup [],[.row U])),(235,(.tup [],[.row U]))],[(0,[(1,([.sl 0 3,.int .i64,.fnc 137,.int .i64,.int .i64],[.row U]))]),(1,[(3,([.sl 0 3],[.row U]))]),(2,[(5,([.sl 0 3,.int .i64,.fnc 137,.int .i64,.int .i64],[.row U]))])],[]⟩
def O9:MFn:=LA η Bt [⟨53,(mB 271),[],[],[(1,([U],([],[1000000])))]⟩,⟨53,(mB 783),[],[],[(3,((mB 271),([],[1000000])))]⟩] Ξ U 234
def GV:Hnt:=⟨[(137,(.int .i64,[]))],[(0,[(1,([.sl 0 3],[.row U]))]),(1,[(3,([.sl 0 3,.int .i64,.int .i64,.fnc 137,.int .i64],[.row U]))])],[(25,BC),(26,BC),(30,BC),(31,BC),(45,BC),(46,BC),(49,BC),(50,BC),(51,BC),(52,BC)]⟩
def Gx:MFn:=LA η Bt [⟨220,(mB 3091),[],[],[(1,((mB 1027),([],[1000000])))]⟩,⟨220,(mB 9217),[],[],[(3,([U],([],[1000000])))]⟩,⟨220,(mB 49173),[],[],[(5,((mB 16389),([],[1000000])))]⟩,⟨220,(mB 147457),[],[],[(7,([U],([],[1000000])))]⟩,⟨220,(mB 8126495),[],[],[(9,((mB 1835039),([],[1000000])))]⟩] Ξ U 235
def Cp:Hnt:=⟨[(137,(.int .i64,[])),(235,(.tup [],[.row U])),(265,(.tup [],[.row U]))],[(0,[(1,([.sl 0 3,.int .i64,.int .i64],[.row U]))]),(1,[(3,([.sl 0 3],[.row U]))]),(2,[(5,([.sl 0 3,.int .i64,.int .i64],[.row U]))]),(3,[(7,([.sl 0 3],[.row U]))]),(4,[(9,([.sl 0 3,.int .i64,.int .i64,.int .i64,.fnc 137,.int .i64,.int .i64,.int .i64],[.row U]))])],[(43,BC),(44,BC),(47,BC),(48,BC),(69,BC),(70,BC),(73,BC),(74,BC),(75,BC),(76,BC),(95,BC),(96,BC),(99,BC),(100,BC),(121,BC),(122,BC),(125,BC),(126,BC),(127,BC),(128,BC),(163,BC),(164,BC),(167,BC),(168,BC)]⟩
def VB:MFn:=LA η Bt [⟨58,(mB 3093),[],[],[(1,((mB 1045),([],[1000000])))]⟩] Ξ U 265
def OX:Hnt:=⟨[(137,(.int .i64,[])),(275,(.tup [],[.row U]))],[(0,[(1,([.sl 0 3,.int .i64,.fnc 137,.int .i64],[.row U]))])],[]⟩
def VC:MFn:=LA η Bt [⟨38,(mB 1039),[],[],[(1,([U],([],[1000000])))]⟩] Ξ U 275
def Sf:Hnt:=⟨[(137,(.int .i64,[]))],[(0,[(1,([.sl 0 3],[.row U]))])],[(28,BC),(29,BC),(34,BC),(35,BC),(36,BC),(37,BC)]⟩
def Vo:MFn:=LA η Bt [⟨42,(mB 99),[],[],[(1,((mB 33),([],[1000000])))]⟩] U U 140
def M7:Hnt:=⟨[(141,(.bool,[])),(199,(.int .i64,[.row U]))],[(0,[(1,([.sl 0 3,.int .i64],[.row U]))])],[(24,BC),(25,BC),(27,BC),(32,BC),(33,BC)]⟩
def Vv:MFn:=LA η Bt [⟨19,(mB 387),[],[],[(0,((mB 17),([],[1000000]))),(1,([U],([],[1000000])))]⟩] Ξ U 199
def Nb:Hnt:=⟨[(141,(.bool,[]))],[(0,[(0,([.sl 0 3,.int .i64],[.row U])),(1,([.sl 0 3],[.row U]))])],[(14,BC),(15,BC)]⟩
def Hp:List (Nat × MFn):=[(157,Aih),(84,AmE),(137,Ah9),(141,Aic),(136,Ah8),(196,Ly),(234,O9),(235,Gx),(265,VB),(275,VC),(140,Vo),(199,Vv)]
variable (A:Ar) (D:Orc)
theorem AnW(x0:Int):BZ A D Al AhG .n 157 Aih [iv x0] [] =
 br (A.eq x0 x0)
 (Δ ((bv Ξ,[])))
 (Δ ((bv U,[]))):=by kernel_rfl
theorem e84(x0 x1:Int):BZ A D Al Al8 .n 84 AmE [iv x0,iv x1] [] =
 Ad D (φ 157) [iv x0] [] [.b,.E] λb=>
 br b
 (Ad D (φ 157) [iv x1] [] [.b,.E] λb1=>
 br b1
 (Δ ((iv 0,[])))
 (Δ ((iv (-1),[]))))
 (Ad D (φ 157) [iv x1] [] [.b,.E] λb1=>
 br b1
 (Δ ((iv 1,[])))
 (br (A.lt x0 x1)
 (Δ ((iv (-1),[])))
 (br (A.lt x1 x0)
 (Δ ((iv 1,[])))
 (Δ ((iv 0,[])))))):=by kernel_rfl
theorem AnM(x0_0:Int)(x0_1:Bool)(x0_2:Rw)(x1_0:Int)(x1_1:Bool)(x1_2:Rw):BZ A D Al Ahy .n 137 Ah9 [ψ [iv x0_0,bv x0_1,Φ x0_2],ψ [iv x1_0,bv x1_1,Φ x1_2]] [] =
 Ad D (φ 84) [iv x0_0,iv x1_0] [] [.i,.E] λn=>
 Δ ((iv n,[])):=by kernel_rfl
theorem AnP(x0_0:Int)(x0_1:Bool)(x0_2:Rw):BZ A D Al AhB .n 141 Aic [ψ [iv x0_0,bv x0_1,Φ x0_2]] [] =
 Ad D (φ 64) [ψ [bv x0_1,Φ x0_2]] [] [.i,.E] λn=>
 br (A.eq n 0)
 (Δ ((bv U,[])))
 (Δ ((bv Ξ,[]))):=by kernel_rfl
theorem AnL(n0:Nat)(c0:List AV):BZ A D Al Ahx .n 136 Ah8 [κ 0 0 n0 3,Aqx (Fn.func 137) [] []] [{ cells:=c0,st:=U,ex:=U }] =
 Ad D (φ 196) [κ 0 0 n0 3,iv ↑n0,Aqx (Fn.func 137) [] []] [Ω c0 U U] [.t,.N,.R,.X,.E] λcs1=>
 Δ ((Aqm [],[Aqu (Ω cs1 U U)])):=by kernel_rfl
theorem Aob(n0:Nat)(c0:List AV)(x1:Int):BZ A D Al Gv .n 196 Ly [κ 0 0 n0 3,iv x1,Aqx (Fn.func 137) [] []] [{ cells:=c0,st:=U,ex:=U }] =
 Ad D (Aqn 196 0) [κ 0 0 n0 3,iv x1,Aqx (Fn.func 137) [] [],iv 20,iv 0,iv 20] [Ω c0 U U] [.t,.C,.x,.X,.Y] λc l o=>
 br (Bf 1 c)
 (dk [.C,.q 0 3,.I,.C,.f 137,.I,.I,.N,.R,.X,.E] [.l l,.o o] λn n1 n2 n3 cs1=>
 Ad D (φ 234) [κ 0 0 n 3,iv n3,iv n1,Aqx (Fn.func 137) [] []] [Ω cs1 U U] [.t,.N,.R,.X,.E] λcs3=>
 Ad D (Aqn 196 1) [κ 0 0 n 3,iv n1,Aqx (Fn.func 137) [] [],iv n2] [Ω cs3 U U] [.t,.C,.x,.X,.Y] λc5 l8 o2=>
 br (Bf 3 c5)
 (dk [.C,.q 0 3,.N,.R,.X,.E] [.l l8,.o o2] λ_ cs5=>
 Δ ((Aqm [],[Aqu (Ω cs5 U U)])))
 (Θ))
 (Θ):=by kernel_rfl
theorem YT(n0:Nat)(c0:List AV)(t1 t6 t7 t8:Int):Dl A D Al Gv .n 196 0 (AL Ly 0).fst (AL Ly 0).snd [κ 0 0 n0 3,iv t1,Aqx (Fn.func 137) [] [],iv t6,iv t7,iv t8] [{ cells:=c0,st:=U,ex:=U }] =
 br (A.le t8 t1)
 (Ad D (φ 234) [κ 0 0 n0 3,iv t7,iv t8,Aqx (Fn.func 137) [] []] [Ω c0 U U] [.t,.N,.R,.X,.E] λcs1=>
 AG D (Aqn 196 0) [κ 0 0 n0 3,iv t1,Aqx (Fn.func 137) [] [],iv t6,iv t8,iv (A.add δ t8 t6)] [Ω cs1 U U] λr1 o1=>
 AF 1 [0] (AH.mk [(0,Ω cs1 U U)] 1 Θ) [0] r1 o1)
 (Δ ((Aqm [iv 0,κ 0 0 n0 3,iv t1,Aqx (Fn.func 137) [] [],iv t6,iv t7],[Aqu (Ω c0 U U)]))):=by kernel_rfl
theorem TI(n0:Nat)(c0:List AV)(t1 t6:Int):Dl A D Al Gv .n 196 1 (AL Ly 1).fst (AL Ly 1).snd [κ 0 0 n0 3,iv t1,Aqx (Fn.func 137) [] [],iv t6] [{ cells:=c0,st:=U,ex:=U }] =
 br (A.lt t6 t1)
 (Ad D (Aqn 196 2) [κ 0 0 n0 3,iv t1,Aqx (Fn.func 137) [] [],iv t6,iv 0,iv (A.mul δ 2 t6)] [Ω c0 U U] [.t,.C,.x,.X,.Y] λc l o=>
 br (Bf 5 c)
 (dk [.C,.q 0 3,.I,.C,.f 137,.I,.I,.N,.R,.X,.E] [.l l,.o o] λn n1 n2 n3 cs1=>
 br (A.lt (A.add δ n3 n2) n1)
 (Ad D (φ 235) [κ 0 0 n 3,iv n3,iv (A.add δ n3 n2),iv n1,Aqx (Fn.func 137) [] []] [Ω cs1 U U] [.t,.N,.R,.X,.E] λcs3=>
 AG D (Aqn 196 1) [κ 0 0 n 3,iv n1,Aqx (Fn.func 137) [] [],iv (A.mul δ n2 2)] [Ω cs3 U U] λr2 o2=>
 AF 1 [0] (AH.mk [(0,Ω cs3 U U)] 1 Θ) [0] r2 o2)
 (AG D (Aqn 196 1) [κ 0 0 n 3,iv n1,Aqx (Fn.func 137) [] [],iv (A.mul δ n2 2)] [Ω cs1 U U] λr1 o1=>
 AF 1 [0] (AH.mk [(0,Ω cs1 U U)] 1 Θ) [0] r1 o1))
 (Θ))
 (Δ ((Aqm [iv 2,κ 0 0 n0 3],[Aqu (Ω c0 U U)]))):=by kernel_rfl
theorem YU(n0:Nat)(c0:List AV)(t1 t6 t7 t8:Int):Dl A D Al Gv .n 196 2 (AL Ly 2).fst (AL Ly 2).snd [κ 0 0 n0 3,iv t1,Aqx (Fn.func 137) [] [],iv t6,iv t7,iv t8] [{ cells:=c0,st:=U,ex:=U }] =
 br (A.le t8 t1)
 (Ad D (φ 235) [κ 0 0 n0 3,iv t7,iv (A.add δ t7 t6),iv t8,Aqx (Fn.func 137) [] []] [Ω c0 U U] [.t,.N,.R,.X,.E] λcs1=>
 AG D (Aqn 196 2) [κ 0 0 n0 3,iv t1,Aqx (Fn.func 137) [] [],iv t6,iv t8,iv (A.add δ t8 (A.mul δ 2 t6))] [Ω cs1 U U] λr1 o1=>
 AF 1 [0] (AH.mk [(0,Ω cs1 U U)] 1 Θ) [0] r1 o1)
 (Δ ((Aqm [iv 4,κ 0 0 n0 3,iv t1,Aqx (Fn.func 137) [] [],iv t6,iv t7],[Aqu (Ω c0 U U)]))):=by kernel_rfl
theorem AlL(n0:Nat)(c0:List AV)(x1 x2:Int):BZ A D Al GV .n 234 O9 [κ 0 0 n0 3,iv x1,iv x2,Aqx (Fn.func 137) [] []] [{ cells:=c0,st:=U,ex:=U }] =
 Ad D (Aqn 234 0) [κ 0 0 n0 3,iv x1,iv x2,Aqx (Fn.func 137) [] [],iv (A.add δ x1 1)] [Ω c0 U U] [.t,.C,.x,.X,.Y] λc l o=>
 br (Bf 1 c)
 (dk [.C,.q 0 3,.N,.R,.X,.E] [.l l,.o o] λ_ cs1=>
 Δ ((Aqm [],[Aqu (Ω cs1 U U)])))
 (Θ):=by kernel_rfl
theorem TJ(n0:Nat)(c0:List AV)(t1 t2 t8:Int):Dl A D Al GV .n 234 0 (AL O9 0).fst (AL O9 0).snd [κ 0 0 n0 3,iv t1,iv t2,Aqx (Fn.func 137) [] [],iv t8] [{ cells:=c0,st:=U,ex:=U }] =
 br (A.lt t8 t2)
 (Ad D (Aqn 234 1) [κ 0 0 n0 3,iv t1,iv t2,Aqx (Fn.func 137) [] [],iv t8,iv t8] [Ω c0 U U] [.t,.C,.x,.X,.Y] λc l o=>
 br (Bf 3 c)
 (dk [.C,.q 0 3,.I,.I,.C,.f 137,.I,.N,.R,.X,.E] [.l l,.o o] λn n1 n2 n3 cs1=>
 AG D (Aqn 234 0) [κ 0 0 n 3,iv n1,iv n2,Aqx (Fn.func 137) [] [],iv (A.add δ n3 1)] [Ω cs1 U U] λr1 o1=>
 AF 1 [0] (AH.mk [(0,Ω cs1 U U)] 1 Θ) [0] r1 o1)
 (Θ))
 (Δ ((Aqm [iv 0,κ 0 0 n0 3],[Aqu (Ω c0 U U)]))):=by kernel_rfl
theorem TK(n0:Nat)(c0:List AV)(t1 t2 t8 t9:Int):Dl A D Al GV .n 234 1 (AL O9 1).fst (AL O9 1).snd [κ 0 0 n0 3,iv t1,iv t2,Aqx (Fn.func 137) [] [],iv t8,iv t9] [{ cells:=c0,st:=U,ex:=U }] =
 br (A.lt t1 t9)
 (unI t9 λi=>
 br (i.blt n0) (Io c0 (0+i*3) 3 λcs=>
 dk [.I,.B,.L,.N] [.l cs] λn b xs=>
 unI (A.sub δ t9 1) λi1=>
 br (i1.blt n0) (Io c0 (0+i1*3) 3 λcs1=>
 dk [.I,.B,.L,.N] [.l cs1] λn1 b1 xs1=>
 Ad D (φ 137) [ψ [iv n,bv b,Φ xs],ψ [iv n1,bv b1,Φ xs1]] [] [.i,.E] λn2=>
 br (A.lt n2 0)
 (unI (A.sub δ t9 1) λi2=>
 br (i2.blt n0) (Io c0 (0+i2*3) 3 λcs2=>
 dk [.I,.B,.L,.N] [.l cs2] λn3 b2 xs2=>
 unI t9 λi3=>
 br (i3.blt n0) (Io c0 (0+i3*3) 3 λcs3=>
 dk [.I,.B,.L,.N] [.l cs3] λn4 b3 xs3=>
 unI t9 λi4=>
 br (i4.blt n0) (br ((0+i4*3+3).ble c0.length) (unI (A.sub δ t9 1) λi5=>
 br (i5.blt n0) (br ((0+i5*3+3).ble (AI c0 (0+i4*3) [iv n3,bv b2,Φ xs2]).length) (AG D (Aqn 234 1) [κ 0 0 n0 3,iv t1,iv t2,Aqx (Fn.func 137) [] [],iv t8,iv (A.sub δ t9 1)] [Ω (AI (AI c0 (0+i4*3) [iv n3,bv b2,Φ xs2]) (0+i5*3) [iv n4,bv b3,Φ xs3]) U U] λr1 o1=>
 AF 1 [0] (AH.mk [(0,Ω (AI (AI c0 (0+i4*3) [iv n3,bv b2,Φ xs2]) (0+i5*3) [iv n4,bv b3,Φ xs3]) U U)] 1 Θ) [0] r1 o1) Θ) Θ) Θ) Θ) Θ) Θ)
 (Δ ((Aqm [iv 2,κ 0 0 n0 3,iv t1,iv t2,Aqx (Fn.func 137) [] [],iv t8],[Aqu (Ω c0 U U)])))) Θ) Θ)
 (Δ ((Aqm [iv 2,κ 0 0 n0 3,iv t1,iv t2,Aqx (Fn.func 137) [] [],iv t8],[Aqu (Ω c0 U U)]))):=by kernel_rfl
theorem RB(n0:Nat)(c0:List AV)(x1 x2 x3:Int):BZ A D Al Cp .n 235 Gx [κ 0 0 n0 3,iv x1,iv x2,iv x3,Aqx (Fn.func 137) [] []] [{ cells:=c0,st:=U,ex:=U }] =
 br (A.eq (A.sub δ x2 x1) 1)
 (Ad D (Aqn 235 0) [κ 0 0 n0 3,iv x1,Aqx (Fn.func 137) [] [],iv x2,iv x3] [Ω c0 U U] [.t,.C,.x,.X,.Y] λc l o=>
 br (Bf 1 c)
 (dk [.C,.q 0 3,.I,.I,.N,.R,.X,.E] [.l l,.o o] λn n1 n2 cs1=>
 Ad D (Aqn 235 1) [κ 0 0 n 3,iv n2,iv n1] [Ω cs1 U U] [.t,.C,.x,.X,.Y] λc3 l5 o1=>
 br (Bf 3 c3)
 (dk [.C,.q 0 3,.N,.R,.X,.E] [.l l5,.o o1] λ_ cs3=>
 Δ ((Aqm [],[Aqu (Ω cs3 U U)])))
 (Θ))
 (Θ))
 (br (A.eq (A.sub δ x3 x2) 1)
 (Ad D (Aqn 235 2) [κ 0 0 n0 3,iv x2,Aqx (Fn.func 137) [] [],iv x1,iv x2] [Ω c0 U U] [.t,.C,.x,.X,.Y] λc l o=>
 br (Bf 5 c)
 (dk [.C,.q 0 3,.I,.I,.N,.R,.X,.E] [.l l,.o o] λn n1 n2 cs1=>
 Ad D (Aqn 235 3) [κ 0 0 n 3,iv n2,iv n1] [Ω cs1 U U] [.t,.C,.x,.X,.Y] λc3 l5 o1=>
 br (Bf 7 c3)
 (dk [.C,.q 0 3,.N,.R,.X,.E] [.l l5,.o o1] λ_ cs3=>
 Δ ((Aqm [],[Aqu (Ω cs3 U U)])))
 (Θ))
 (Θ))
 (br (A.lt 1 0)
 (Θ)
 (br (A.lt (A.conv δ (A.shr ξ (A.conv ξ (A.add δ x1 x3)) 1)) x2)
 (Ad D (Aqn 235 4) [κ 0 0 n0 3,iv x1,iv x2,iv x3,Aqx (Fn.func 137) [] [],iv (A.conv δ (A.shr ξ (A.conv ξ (A.add δ x1 x3)) 1)),iv (A.add δ (A.conv δ (A.shr ξ (A.conv ξ (A.add δ x1 x3)) 1)) x2),iv (A.sub δ (A.add δ (A.conv δ (A.shr ξ (A.conv ξ (A.add δ x1 x3)) 1)) x2) x3),iv (A.conv δ (A.shr ξ (A.conv ξ (A.add δ x1 x3)) 1)),iv (A.sub δ (A.add δ (A.conv δ (A.shr ξ (A.conv ξ (A.add δ x1 x3)) 1)) x2) 1)] [Ω c0 U U] [.t,.C,.x,.X,.Y] λc l o=>
 br (Bf 9 c)
 (dk [.C,.q 0 3,.I,.I,.I,.C,.f 137,.I,.I,.I,.N,.R,.X,.E] [.l l,.o o] λn n1 n2 n3 n4 n5 n6 cs1=>
 br (A.lt n6 n2)
 (br (A.lt n2 (A.sub δ n5 n6))
 (Ad D (φ 265) [κ 0 0 n 3,iv n6,iv n2,iv (A.sub δ n5 n6),Aqx (Fn.func 137) [] []] [Ω cs1 U U] [.t,.N,.R,.X,.E] λcs3=>
 br (A.lt n1 n6)
 (br (A.lt n6 n4)
 (Ad D (φ 235) [κ 0 0 n 3,iv n1,iv n6,iv n4,Aqx (Fn.func 137) [] []] [Ω cs3 U U] [.t,.N,.R,.X,.E] λcs5=>
 br (A.lt n4 (A.sub δ n5 n6))
 (br (A.lt (A.sub δ n5 n6) n3)
 (Ad D (φ 235) [κ 0 0 n 3,iv n4,iv (A.sub δ n5 n6),iv n3,Aqx (Fn.func 137) [] []] [Ω cs5 U U] [.t,.N,.R,.X,.E] λcs7=>
 Δ ((Aqm [],[Aqu (Ω cs7 U U)])))
 (Δ ((Aqm [],[Aqu (Ω cs5 U U)]))))
 (Δ ((Aqm [],[Aqu (Ω cs5 U U)]))))
 (br (A.lt n4 (A.sub δ n5 n6))
 (br (A.lt (A.sub δ n5 n6) n3)
 (Ad D (φ 235) [κ 0 0 n 3,iv n4,iv (A.sub δ n5 n6),iv n3,Aqx (Fn.func 137) [] []] [Ω cs3 U U] [.t,.N,.R,.X,.E] λcs5=>
 Δ ((Aqm [],[Aqu (Ω cs5 U U)])))
 (Δ ((Aqm [],[Aqu (Ω cs3 U U)]))))
 (Δ ((Aqm [],[Aqu (Ω cs3 U U)])))))
 (br (A.lt n4 (A.sub δ n5 n6))
 (br (A.lt (A.sub δ n5 n6) n3)
 (Ad D (φ 235) [κ 0 0 n 3,iv n4,iv (A.sub δ n5 n6),iv n3,Aqx (Fn.func 137) [] []] [Ω cs3 U U] [.t,.N,.R,.X,.E] λcs5=>
 Δ ((Aqm [],[Aqu (Ω cs5 U U)])))
 (Δ ((Aqm [],[Aqu (Ω cs3 U U)]))))
 (Δ ((Aqm [],[Aqu (Ω cs3 U U)])))))
 (br (A.lt n1 n6)
 (br (A.lt n6 n4)
 (Ad D (φ 235) [κ 0 0 n 3,iv n1,iv n6,iv n4,Aqx (Fn.func 137) [] []] [Ω cs1 U U] [.t,.N,.R,.X,.E] λcs3=>
 br (A.lt n4 (A.sub δ n5 n6))
 (br (A.lt (A.sub δ n5 n6) n3)
 (Ad D (φ 235) [κ 0 0 n 3,iv n4,iv (A.sub δ n5 n6),iv n3,Aqx (Fn.func 137) [] []] [Ω cs3 U U] [.t,.N,.R,.X,.E] λcs5=>
 Δ ((Aqm [],[Aqu (Ω cs5 U U)])))
 (Δ ((Aqm [],[Aqu (Ω cs3 U U)]))))
 (Δ ((Aqm [],[Aqu (Ω cs3 U U)]))))
 (br (A.lt n4 (A.sub δ n5 n6))
 (br (A.lt (A.sub δ n5 n6) n3)
 (Ad D (φ 235) [κ 0 0 n 3,iv n4,iv (A.sub δ n5 n6),iv n3,Aqx (Fn.func 137) [] []] [Ω cs1 U U] [.t,.N,.R,.X,.E] λcs3=>
 Δ ((Aqm [],[Aqu (Ω cs3 U U)])))
 (Δ ((Aqm [],[Aqu (Ω cs1 U U)]))))
 (Δ ((Aqm [],[Aqu (Ω cs1 U U)])))))
 (br (A.lt n4 (A.sub δ n5 n6))
 (br (A.lt (A.sub δ n5 n6) n3)
 (Ad D (φ 235) [κ 0 0 n 3,iv n4,iv (A.sub δ n5 n6),iv n3,Aqx (Fn.func 137) [] []] [Ω cs1 U U] [.t,.N,.R,.X,.E] λcs3=>
 Δ ((Aqm [],[Aqu (Ω cs3 U U)])))
 (Δ ((Aqm [],[Aqu (Ω cs1 U U)]))))
 (Δ ((Aqm [],[Aqu (Ω cs1 U U)]))))))
 (br (A.lt n1 n6)
 (br (A.lt n6 n4)
 (Ad D (φ 235) [κ 0 0 n 3,iv n1,iv n6,iv n4,Aqx (Fn.func 137) [] []] [Ω cs1 U U] [.t,.N,.R,.X,.E] λcs3=>
 br (A.lt n4 (A.sub δ n5 n6))
 (br (A.lt (A.sub δ n5 n6) n3)
 (Ad D (φ 235) [κ 0 0 n 3,iv n4,iv (A.sub δ n5 n6),iv n3,Aqx (Fn.func 137) [] []] [Ω cs3 U U] [.t,.N,.R,.X,.E] λcs5=>
 Δ ((Aqm [],[Aqu (Ω cs5 U U)])))
 (Δ ((Aqm [],[Aqu (Ω cs3 U U)]))))
 (Δ ((Aqm [],[Aqu (Ω cs3 U U)]))))
 (br (A.lt n4 (A.sub δ n5 n6))
 (br (A.lt (A.sub δ n5 n6) n3)
 (Ad D (φ 235) [κ 0 0 n 3,iv n4,iv (A.sub δ n5 n6),iv n3,Aqx (Fn.func 137) [] []] [Ω cs1 U U] [.t,.N,.R,.X,.E] λcs3=>
 Δ ((Aqm [],[Aqu (Ω cs3 U U)])))
 (Δ ((Aqm [],[Aqu (Ω cs1 U U)]))))
 (Δ ((Aqm [],[Aqu (Ω cs1 U U)])))))
 (br (A.lt n4 (A.sub δ n5 n6))
 (br (A.lt (A.sub δ n5 n6) n3)
 (Ad D (φ 235) [κ 0 0 n 3,iv n4,iv (A.sub δ n5 n6),iv n3,Aqx (Fn.func 137) [] []] [Ω cs1 U U] [.t,.N,.R,.X,.E] λcs3=>
 Δ ((Aqm [],[Aqu (Ω cs3 U U)])))
 (Δ ((Aqm [],[Aqu (Ω cs1 U U)]))))
 (Δ ((Aqm [],[Aqu (Ω cs1 U U)]))))))
 (Θ))
 (Ad D (Aqn 235 4) [κ 0 0 n0 3,iv x1,iv x2,iv x3,Aqx (Fn.func 137) [] [],iv (A.conv δ (A.shr ξ (A.conv ξ (A.add δ x1 x3)) 1)),iv (A.add δ (A.conv δ (A.shr ξ (A.conv ξ (A.add δ x1 x3)) 1)) x2),iv x1,iv x2,iv (A.sub δ (A.add δ (A.conv δ (A.shr ξ (A.conv ξ (A.add δ x1 x3)) 1)) x2) 1)] [Ω c0 U U] [.t,.C,.x,.X,.Y] λc l o=>
 br (Bf 9 c)
 (dk [.C,.q 0 3,.I,.I,.I,.C,.f 137,.I,.I,.I,.N,.R,.X,.E] [.l l,.o o] λn n1 n2 n3 n4 n5 n6 cs1=>
 br (A.lt n6 n2)
 (br (A.lt n2 (A.sub δ n5 n6))
 (Ad D (φ 265) [κ 0 0 n 3,iv n6,iv n2,iv (A.sub δ n5 n6),Aqx (Fn.func 137) [] []] [Ω cs1 U U] [.t,.N,.R,.X,.E] λcs3=>
 br (A.lt n1 n6)
 (br (A.lt n6 n4)
 (Ad D (φ 235) [κ 0 0 n 3,iv n1,iv n6,iv n4,Aqx (Fn.func 137) [] []] [Ω cs3 U U] [.t,.N,.R,.X,.E] λcs5=>
 br (A.lt n4 (A.sub δ n5 n6))
 (br (A.lt (A.sub δ n5 n6) n3)
 (Ad D (φ 235) [κ 0 0 n 3,iv n4,iv (A.sub δ n5 n6),iv n3,Aqx (Fn.func 137) [] []] [Ω cs5 U U] [.t,.N,.R,.X,.E] λcs7=>
 Δ ((Aqm [],[Aqu (Ω cs7 U U)])))
 (Δ ((Aqm [],[Aqu (Ω cs5 U U)]))))
 (Δ ((Aqm [],[Aqu (Ω cs5 U U)]))))
 (br (A.lt n4 (A.sub δ n5 n6))
 (br (A.lt (A.sub δ n5 n6) n3)
 (Ad D (φ 235) [κ 0 0 n 3,iv n4,iv (A.sub δ n5 n6),iv n3,Aqx (Fn.func 137) [] []] [Ω cs3 U U] [.t,.N,.R,.X,.E] λcs5=>
 Δ ((Aqm [],[Aqu (Ω cs5 U U)])))
 (Δ ((Aqm [],[Aqu (Ω cs3 U U)]))))
 (Δ ((Aqm [],[Aqu (Ω cs3 U U)])))))
 (br (A.lt n4 (A.sub δ n5 n6))
 (br (A.lt (A.sub δ n5 n6) n3)
 (Ad D (φ 235) [κ 0 0 n 3,iv n4,iv (A.sub δ n5 n6),iv n3,Aqx (Fn.func 137) [] []] [Ω cs3 U U] [.t,.N,.R,.X,.E] λcs5=>
 Δ ((Aqm [],[Aqu (Ω cs5 U U)])))
 (Δ ((Aqm [],[Aqu (Ω cs3 U U)]))))
 (Δ ((Aqm [],[Aqu (Ω cs3 U U)])))))
 (br (A.lt n1 n6)
 (br (A.lt n6 n4)
 (Ad D (φ 235) [κ 0 0 n 3,iv n1,iv n6,iv n4,Aqx (Fn.func 137) [] []] [Ω cs1 U U] [.t,.N,.R,.X,.E] λcs3=>
 br (A.lt n4 (A.sub δ n5 n6))
 (br (A.lt (A.sub δ n5 n6) n3)
 (Ad D (φ 235) [κ 0 0 n 3,iv n4,iv (A.sub δ n5 n6),iv n3,Aqx (Fn.func 137) [] []] [Ω cs3 U U] [.t,.N,.R,.X,.E] λcs5=>
 Δ ((Aqm [],[Aqu (Ω cs5 U U)])))
 (Δ ((Aqm [],[Aqu (Ω cs3 U U)]))))
 (Δ ((Aqm [],[Aqu (Ω cs3 U U)]))))
 (br (A.lt n4 (A.sub δ n5 n6))
 (br (A.lt (A.sub δ n5 n6) n3)
 (Ad D (φ 235) [κ 0 0 n 3,iv n4,iv (A.sub δ n5 n6),iv n3,Aqx (Fn.func 137) [] []] [Ω cs1 U U] [.t,.N,.R,.X,.E] λcs3=>
 Δ ((Aqm [],[Aqu (Ω cs3 U U)])))
 (Δ ((Aqm [],[Aqu (Ω cs1 U U)]))))
 (Δ ((Aqm [],[Aqu (Ω cs1 U U)])))))
 (br (A.lt n4 (A.sub δ n5 n6))
 (br (A.lt (A.sub δ n5 n6) n3)
 (Ad D (φ 235) [κ 0 0 n 3,iv n4,iv (A.sub δ n5 n6),iv n3,Aqx (Fn.func 137) [] []] [Ω cs1 U U] [.t,.N,.R,.X,.E] λcs3=>
 Δ ((Aqm [],[Aqu (Ω cs3 U U)])))
 (Δ ((Aqm [],[Aqu (Ω cs1 U U)]))))
 (Δ ((Aqm [],[Aqu (Ω cs1 U U)]))))))
 (br (A.lt n1 n6)
 (br (A.lt n6 n4)
 (Ad D (φ 235) [κ 0 0 n 3,iv n1,iv n6,iv n4,Aqx (Fn.func 137) [] []] [Ω cs1 U U] [.t,.N,.R,.X,.E] λcs3=>
 br (A.lt n4 (A.sub δ n5 n6))
 (br (A.lt (A.sub δ n5 n6) n3)
 (Ad D (φ 235) [κ 0 0 n 3,iv n4,iv (A.sub δ n5 n6),iv n3,Aqx (Fn.func 137) [] []] [Ω cs3 U U] [.t,.N,.R,.X,.E] λcs5=>
 Δ ((Aqm [],[Aqu (Ω cs5 U U)])))
 (Δ ((Aqm [],[Aqu (Ω cs3 U U)]))))
 (Δ ((Aqm [],[Aqu (Ω cs3 U U)]))))
 (br (A.lt n4 (A.sub δ n5 n6))
 (br (A.lt (A.sub δ n5 n6) n3)
 (Ad D (φ 235) [κ 0 0 n 3,iv n4,iv (A.sub δ n5 n6),iv n3,Aqx (Fn.func 137) [] []] [Ω cs1 U U] [.t,.N,.R,.X,.E] λcs3=>
 Δ ((Aqm [],[Aqu (Ω cs3 U U)])))
 (Δ ((Aqm [],[Aqu (Ω cs1 U U)]))))
 (Δ ((Aqm [],[Aqu (Ω cs1 U U)])))))
 (br (A.lt n4 (A.sub δ n5 n6))
 (br (A.lt (A.sub δ n5 n6) n3)
 (Ad D (φ 235) [κ 0 0 n 3,iv n4,iv (A.sub δ n5 n6),iv n3,Aqx (Fn.func 137) [] []] [Ω cs1 U U] [.t,.N,.R,.X,.E] λcs3=>
 Δ ((Aqm [],[Aqu (Ω cs3 U U)])))
 (Δ ((Aqm [],[Aqu (Ω cs1 U U)]))))
 (Δ ((Aqm [],[Aqu (Ω cs1 U U)]))))))
 (Θ))))):=by kernel_rfl
theorem TL(n0:Nat)(c0:List AV)(t1 t10 t11:Int):Dl A D Al Cp .n 235 0 (AL Gx 0).fst (AL Gx 0).snd [κ 0 0 n0 3,iv t1,Aqx (Fn.func 137) [] [],iv t10,iv t11] [{ cells:=c0,st:=U,ex:=U }] =
 br (A.lt t10 t11)
 (br (A.lt 1 0)
 (Θ)
 (unI (A.conv δ (A.shr ξ (A.conv ξ (A.add δ t10 t11)) 1)) λi=>
 br (i.blt n0) (Io c0 (0+i*3) 3 λcs=>
 dk [.I,.B,.L,.N] [.l cs] λn b xs=>
 unI t1 λi1=>
 br (i1.blt n0) (Io c0 (0+i1*3) 3 λcs1=>
 dk [.I,.B,.L,.N] [.l cs1] λn1 b1 xs1=>
 Ad D (φ 137) [ψ [iv n,bv b,Φ xs],ψ [iv n1,bv b1,Φ xs1]] [] [.i,.E] λn2=>
 br (A.lt n2 0)
 (AG D (Aqn 235 0) [κ 0 0 n0 3,iv t1,Aqx (Fn.func 137) [] [],iv (A.add δ (A.conv δ (A.shr ξ (A.conv ξ (A.add δ t10 t11)) 1)) 1),iv t11] [Ω c0 U U] λr1 o1=>
 AF 1 [0] (AH.mk [(0,Ω c0 U U)] 1 Θ) [] r1 o1)
 (AG D (Aqn 235 0) [κ 0 0 n0 3,iv t1,Aqx (Fn.func 137) [] [],iv t10,iv (A.conv δ (A.shr ξ (A.conv ξ (A.add δ t10 t11)) 1))] [Ω c0 U U] λr1 o1=>
 AF 1 [0] (AH.mk [(0,Ω c0 U U)] 1 Θ) [] r1 o1)) Θ) Θ))
 (Δ ((Aqm [iv 0,κ 0 0 n0 3,iv t1,iv t10],[Aqu (Ω c0 U U)]))):=by kernel_rfl
theorem Y3(n0:Nat)(c0:List AV)(t10 t13:Int):Dl A D Al Cp .n 235 1 (AL Gx 1).fst (AL Gx 1).snd [κ 0 0 n0 3,iv t10,iv t13] [{ cells:=c0,st:=U,ex:=U }] =
 br (A.lt t13 (A.sub δ t10 1))
 (unI (A.add δ t13 1) λi=>
 br (i.blt n0) (Io c0 (0+i*3) 3 λcs=>
 dk [.I,.B,.L,.N] [.l cs] λn b xs=>
 unI t13 λi1=>
 br (i1.blt n0) (Io c0 (0+i1*3) 3 λcs1=>
 dk [.I,.B,.L,.N] [.l cs1] λn1 b1 xs1=>
 unI t13 λi2=>
 br (i2.blt n0) (br ((0+i2*3+3).ble c0.length) (unI (A.add δ t13 1) λi3=>
 br (i3.blt n0) (br ((0+i3*3+3).ble (AI c0 (0+i2*3) [iv n,bv b,Φ xs]).length) (AG D (Aqn 235 1) [κ 0 0 n0 3,iv t10,iv (A.add δ t13 1)] [Ω (AI (AI c0 (0+i2*3) [iv n,bv b,Φ xs]) (0+i3*3) [iv n1,bv b1,Φ xs1]) U U] λr o=>
 AF 1 [0] (AH.mk [(0,Ω (AI (AI c0 (0+i2*3) [iv n,bv b,Φ xs]) (0+i3*3) [iv n1,bv b1,Φ xs1]) U U)] 1 Θ) [0] r o) Θ) Θ) Θ) Θ) Θ) Θ)
 (Δ ((Aqm [iv 2,κ 0 0 n0 3],[Aqu (Ω c0 U U)]))):=by kernel_rfl
theorem TM(n0:Nat)(c0:List AV)(t2 t14 t15:Int):Dl A D Al Cp .n 235 2 (AL Gx 2).fst (AL Gx 2).snd [κ 0 0 n0 3,iv t2,Aqx (Fn.func 137) [] [],iv t14,iv t15] [{ cells:=c0,st:=U,ex:=U }] =
 br (A.lt t14 t15)
 (br (A.lt 1 0)
 (Θ)
 (unI t2 λi=>
 br (i.blt n0) (Io c0 (0+i*3) 3 λcs=>
 dk [.I,.B,.L,.N] [.l cs] λn b xs=>
 unI (A.conv δ (A.shr ξ (A.conv ξ (A.add δ t14 t15)) 1)) λi1=>
 br (i1.blt n0) (Io c0 (0+i1*3) 3 λcs1=>
 dk [.I,.B,.L,.N] [.l cs1] λn1 b1 xs1=>
 Ad D (φ 137) [ψ [iv n,bv b,Φ xs],ψ [iv n1,bv b1,Φ xs1]] [] [.i,.E] λn2=>
 br (A.lt n2 0)
 (AG D (Aqn 235 2) [κ 0 0 n0 3,iv t2,Aqx (Fn.func 137) [] [],iv t14,iv (A.conv δ (A.shr ξ (A.conv ξ (A.add δ t14 t15)) 1))] [Ω c0 U U] λr1 o1=>
 AF 1 [0] (AH.mk [(0,Ω c0 U U)] 1 Θ) [] r1 o1)
 (AG D (Aqn 235 2) [κ 0 0 n0 3,iv t2,Aqx (Fn.func 137) [] [],iv (A.add δ (A.conv δ (A.shr ξ (A.conv ξ (A.add δ t14 t15)) 1)) 1),iv t15] [Ω c0 U U] λr1 o1=>
 AF 1 [0] (AH.mk [(0,Ω c0 U U)] 1 Θ) [] r1 o1)) Θ) Θ))
 (Δ ((Aqm [iv 4,κ 0 0 n0 3,iv t2,iv t14],[Aqu (Ω c0 U U)]))):=by kernel_rfl
theorem Y4(n0:Nat)(c0:List AV)(t14 t17:Int):Dl A D Al Cp .n 235 3 (AL Gx 3).fst (AL Gx 3).snd [κ 0 0 n0 3,iv t14,iv t17] [{ cells:=c0,st:=U,ex:=U }] =
 br (A.lt t14 t17)
 (unI (A.sub δ t17 1) λi=>
 br (i.blt n0) (Io c0 (0+i*3) 3 λcs=>
 dk [.I,.B,.L,.N] [.l cs] λn b xs=>
 unI t17 λi1=>
 br (i1.blt n0) (Io c0 (0+i1*3) 3 λcs1=>
 dk [.I,.B,.L,.N] [.l cs1] λn1 b1 xs1=>
 unI t17 λi2=>
 br (i2.blt n0) (br ((0+i2*3+3).ble c0.length) (unI (A.sub δ t17 1) λi3=>
 br (i3.blt n0) (br ((0+i3*3+3).ble (AI c0 (0+i2*3) [iv n,bv b,Φ xs]).length) (AG D (Aqn 235 3) [κ 0 0 n0 3,iv t14,iv (A.sub δ t17 1)] [Ω (AI (AI c0 (0+i2*3) [iv n,bv b,Φ xs]) (0+i3*3) [iv n1,bv b1,Φ xs1]) U U] λr o=>
 AF 1 [0] (AH.mk [(0,Ω (AI (AI c0 (0+i2*3) [iv n,bv b,Φ xs]) (0+i3*3) [iv n1,bv b1,Φ xs1]) U U)] 1 Θ) [0] r o) Θ) Θ) Θ) Θ) Θ) Θ)
 (Δ ((Aqm [iv 6,κ 0 0 n0 3],[Aqu (Ω c0 U U)]))):=by kernel_rfl
theorem TN(n0:Nat)(c0:List AV)(t1 t2 t3 t18 t19 t20 t21 t22:Int):Dl A D Al Cp .n 235 4 (AL Gx 4).fst (AL Gx 4).snd [κ 0 0 n0 3,iv t1,iv t2,iv t3,Aqx (Fn.func 137) [] [],iv t18,iv t19,iv t20,iv t21,iv t22] [{ cells:=c0,st:=U,ex:=U }] =
 br (A.lt t20 t21)
 (br (A.lt 1 0)
 (Θ)
 (unI (A.sub δ t22 (A.conv δ (A.shr ξ (A.conv ξ (A.add δ t20 t21)) 1))) λi=>
 br (i.blt n0) (Io c0 (0+i*3) 3 λcs=>
 dk [.I,.B,.L,.N] [.l cs] λn b xs=>
 unI (A.conv δ (A.shr ξ (A.conv ξ (A.add δ t20 t21)) 1)) λi1=>
 br (i1.blt n0) (Io c0 (0+i1*3) 3 λcs1=>
 dk [.I,.B,.L,.N] [.l cs1] λn1 b1 xs1=>
 Ad D (φ 137) [ψ [iv n,bv b,Φ xs],ψ [iv n1,bv b1,Φ xs1]] [] [.i,.E] λn2=>
 br (A.lt n2 0)
 (AG D (Aqn 235 4) [κ 0 0 n0 3,iv t1,iv t2,iv t3,Aqx (Fn.func 137) [] [],iv t18,iv t19,iv t20,iv (A.conv δ (A.shr ξ (A.conv ξ (A.add δ t20 t21)) 1)),iv t22] [Ω c0 U U] λr1 o1=>
 AF 1 [0] (AH.mk [(0,Ω c0 U U)] 1 Θ) [] r1 o1)
 (AG D (Aqn 235 4) [κ 0 0 n0 3,iv t1,iv t2,iv t3,Aqx (Fn.func 137) [] [],iv t18,iv t19,iv (A.add δ (A.conv δ (A.shr ξ (A.conv ξ (A.add δ t20 t21)) 1)) 1),iv t21,iv t22] [Ω c0 U U] λr1 o1=>
 AF 1 [0] (AH.mk [(0,Ω c0 U U)] 1 Θ) [] r1 o1)) Θ) Θ))
 (Δ ((Aqm [iv 8,κ 0 0 n0 3,iv t1,iv t2,iv t3,Aqx (Fn.func 137) [] [],iv t18,iv t19,iv t20],[Aqu (Ω c0 U U)]))):=by kernel_rfl
theorem Aoo(n0:Nat)(c0:List AV)(x1 x2 x3:Int):BZ A D Al OX .n 265 VB [κ 0 0 n0 3,iv x1,iv x2,iv x3,Aqx (Fn.func 137) [] []] [{ cells:=c0,st:=U,ex:=U }] =
 Ad D (Aqn 265 0) [κ 0 0 n0 3,iv x2,Aqx (Fn.func 137) [] [],iv (A.sub δ x2 x1),iv (A.sub δ x3 x2)] [Ω c0 U U] [.t,.C,.x,.X,.Y] λc l o=>
 br (Bf 1 c)
 (dk [.C,.q 0 3,.I,.C,.f 137,.I,.N,.R,.X,.E] [.l l,.o o] λn n1 n2 cs1=>
 Ad D (φ 275) [κ 0 0 n 3,iv (A.sub δ n1 n2),iv n1,iv n2,Aqx (Fn.func 137) [] []] [Ω cs1 U U] [.t,.N,.R,.X,.E] λcs3=>
 Δ ((Aqm [],[Aqu (Ω cs3 U U)])))
 (Θ):=by kernel_rfl
theorem TO(n0:Nat)(c0:List AV)(t2 t10 t11:Int):Dl A D Al OX .n 265 0 (AL VB 0).fst (AL VB 0).snd [κ 0 0 n0 3,iv t2,Aqx (Fn.func 137) [] [],iv t10,iv t11] [{ cells:=c0,st:=U,ex:=U }] =
 br (A.eq t10 t11)
 (Δ ((Aqm [iv 0,κ 0 0 n0 3,iv t2,Aqx (Fn.func 137) [] [],iv t10],[Aqu (Ω c0 U U)])))
 (br (A.lt t11 t10)
 (Ad D (φ 275) [κ 0 0 n0 3,iv (A.sub δ t2 t10),iv t2,iv t11,Aqx (Fn.func 137) [] []] [Ω c0 U U] [.t,.N,.R,.X,.E] λcs1=>
 AG D (Aqn 265 0) [κ 0 0 n0 3,iv t2,Aqx (Fn.func 137) [] [],iv (A.sub δ t10 t11),iv t11] [Ω cs1 U U] λr1 o1=>
 AF 1 [0] (AH.mk [(0,Ω cs1 U U)] 1 Θ) [0] r1 o1)
 (Ad D (φ 275) [κ 0 0 n0 3,iv (A.sub δ t2 t10),iv (A.sub δ (A.add δ t2 t11) t10),iv t10,Aqx (Fn.func 137) [] []] [Ω c0 U U] [.t,.N,.R,.X,.E] λcs1=>
 AG D (Aqn 265 0) [κ 0 0 n0 3,iv t2,Aqx (Fn.func 137) [] [],iv t10,iv (A.sub δ t11 t10)] [Ω cs1 U U] λr1 o1=>
 AF 1 [0] (AH.mk [(0,Ω cs1 U U)] 1 Θ) [0] r1 o1)):=by kernel_rfl
theorem Aop(n0:Nat)(c0:List AV)(x1 x2 x3:Int):BZ A D Al Sf .n 275 VC [κ 0 0 n0 3,iv x1,iv x2,iv x3,Aqx (Fn.func 137) [] []] [{ cells:=c0,st:=U,ex:=U }] =
 Ad D (Aqn 275 0) [κ 0 0 n0 3,iv x1,iv x2,iv x3,iv 0] [Ω c0 U U] [.t,.C,.x,.X,.Y] λc l o=>
 br (Bf 1 c)
 (dk [.C,.q 0 3,.N,.R,.X,.E] [.l l,.o o] λ_ cs1=>
 Δ ((Aqm [],[Aqu (Ω cs1 U U)])))
 (Θ):=by kernel_rfl
theorem Y7(n0:Nat)(c0:List AV)(t1 t2 t3 t10:Int):Dl A D Al Sf .n 275 0 (AL VC 0).fst (AL VC 0).snd [κ 0 0 n0 3,iv t1,iv t2,iv t3,iv t10] [{ cells:=c0,st:=U,ex:=U }] =
 br (A.lt t10 t3)
 (unI (A.add δ t2 t10) λi=>
 br (i.blt n0) (Io c0 (0+i*3) 3 λcs=>
 dk [.I,.B,.L,.N] [.l cs] λn b xs=>
 unI (A.add δ t1 t10) λi1=>
 br (i1.blt n0) (Io c0 (0+i1*3) 3 λcs1=>
 dk [.I,.B,.L,.N] [.l cs1] λn1 b1 xs1=>
 unI (A.add δ t1 t10) λi2=>
 br (i2.blt n0) (br ((0+i2*3+3).ble c0.length) (unI (A.add δ t2 t10) λi3=>
 br (i3.blt n0) (br ((0+i3*3+3).ble (AI c0 (0+i2*3) [iv n,bv b,Φ xs]).length) (AG D (Aqn 275 0) [κ 0 0 n0 3,iv t1,iv t2,iv t3,iv (A.add δ t10 1)] [Ω (AI (AI c0 (0+i2*3) [iv n,bv b,Φ xs]) (0+i3*3) [iv n1,bv b1,Φ xs1]) U U] λr o=>
 AF 1 [0] (AH.mk [(0,Ω (AI (AI c0 (0+i2*3) [iv n,bv b,Φ xs]) (0+i3*3) [iv n1,bv b1,Φ xs1]) U U)] 1 Θ) [0] r o) Θ) Θ) Θ) Θ) Θ) Θ)
 (Δ ((Aqm [iv 0,κ 0 0 n0 3],[Aqu (Ω c0 U U)]))):=by kernel_rfl
theorem AlH(n0:Nat)(c0:List AV):BZ A D Al M7 .n 140 Vo [κ 0 0 n0 3,Aqx (Fn.func 141) [] []] [{ cells:=c0,st:=U,ex:=U }] =
 Ad D (φ 199) [κ 0 0 n0 3,Aqx (Fn.func 141) [] []] [Ω c0 U U] [.i,.R,.X,.E] λn cs=>
 br (A.eq n (-1))
 (Δ ((κ 0 0 n0 3,[Aqu (Ω cs U U)])))
 (Ad D (Aqn 140 0) [κ 0 0 n0 3,Aqx (Fn.func 141) [] [],iv n,iv (A.add δ n 1)] [Ω cs U U] [.t,.C,.x,.X,.Y] λc1 l1 o1=>
 br (Bf 1 c1)
 (dk [.C,.q 0 3,.I,.N,.R,.X,.E] [.l l1,.o o1] λn1 n2 cs2=>
 unI n2 λi=>
 br (Nm i n1 n1) (br ((0+i*3+(n1-i)*3).ble cs2.length) (unI n2 λi1=>
 br (Nm 0 i1 n1) (Δ ((κ 0 0 i1 3,[Aqu (Ω (AI cs2 (0+i*3) (BQ [iv 0,bv Ξ,AV.v (Value.slice Θ 0 0)] ((n1-i)*3))) U U)]))) Θ) Θ) Θ)
 (Θ)):=by kernel_rfl
theorem TH(n0:Nat)(c0:List AV)(t5 t6:Int):Dl A D Al M7 .n 140 0 (AL Vo 0).fst (AL Vo 0).snd [κ 0 0 n0 3,Aqx (Fn.func 141) [] [],iv t5,iv t6] [{ cells:=c0,st:=U,ex:=U }] =
 br (A.lt t6 ↑n0)
 (unI t6 λi=>
 br (i.blt n0) (Io c0 (0+i*3) 3 λcs=>
 dk [.I,.B,.L,.N] [.l cs] λn b xs=>
 Ad D (φ 141) [ψ [iv n,bv b,Φ xs]] [] [.b,.E] λb1=>
 br b1
 (AG D (Aqn 140 0) [κ 0 0 n0 3,Aqx (Fn.func 141) [] [],iv t5,iv (A.add δ t6 1)] [Ω c0 U U] λr1 o1=>
 AF 1 [0] (AH.mk [(1,bk [iv n,bv b,Φ xs]),(0,Ω c0 U U)] 2 Θ) [] r1 o1)
 (unI t5 λi1=>
 br (i1.blt n0) (br ((0+i1*3+3).ble c0.length) (AG D (Aqn 140 0) [κ 0 0 n0 3,Aqx (Fn.func 141) [] [],iv (A.add δ t5 1),iv (A.add δ t6 1)] [Ω (AI c0 (0+i1*3) [iv n,bv b,Φ xs]) U U] λr1 o1=>
 AF 1 [0] (AH.mk [(0,Ω (AI c0 (0+i1*3) [iv n,bv b,Φ xs]) U U),(1,bk [iv n,bv b,Φ xs])] 2 Θ) [0] r1 o1) Θ) Θ)) Θ)
 (Δ ((Aqm [iv 0,κ 0 0 n0 3,iv t5],[Aqu (Ω c0 U U)]))):=by kernel_rfl
theorem Aoe(n0:Nat)(c0:List AV):BZ A D Al Nb .n 199 Vv [κ 0 0 n0 3,Aqx (Fn.func 141) [] []] [{ cells:=c0,st:=U,ex:=U }] =
 Ad D (Aqn 199 0) [κ 0 0 n0 3,Aqx (Fn.func 141) [] [],iv ↑n0,iv 0] [Ω c0 U U] [.t,.C,.x,.X,.Y] λc l o=>
 br (Bf 0 c)
 (dk [.C,.q 0 3,.I,.N,.R,.X,.E] [.l l,.o o] λ_ n1 cs1=>
 Δ ((iv n1,[Aqu (Ω cs1 U U)])))
 (br (Bf 1 c)
 (dk [.C,.q 0 3,.N,.R,.X,.E] [.l l,.o o] λ_ cs1=>
 Δ ((iv (-1),[Aqu (Ω cs1 U U)])))
 (Θ)):=by kernel_rfl
theorem P5(n0:Nat)(c0:List AV)(t7 t8:Int):Dl A D Al Nb .n 199 0 (AL Vv 0).fst (AL Vv 0).snd [κ 0 0 n0 3,Aqx (Fn.func 141) [] [],iv t7,iv t8] [{ cells:=c0,st:=U,ex:=U }] =
 br (A.lt t8 t7)
 (unI t8 λi=>
 br (i.blt n0) (Io c0 (0+i*3) 3 λcs=>
 dk [.I,.B,.L,.N] [.l cs] λn b xs=>
 Ad D (φ 141) [ψ [iv n,bv b,Φ xs]] [] [.b,.E] λb1=>
 br b1
 (Δ ((Aqm [bv U,κ 0 0 n0 3,iv t8],[Aqu (Ω c0 U U)])))
 (AG D (Aqn 199 0) [κ 0 0 n0 3,Aqx (Fn.func 141) [] [],iv t7,iv (A.add δ t8 1)] [Ω c0 U U] λr1 o1=>
 AF 1 [0] (AH.mk [(0,Ω c0 U U)] 1 Θ) [] r1 o1)) Θ)
 (Δ ((Aqm [iv 0,κ 0 0 n0 3],[Aqu (Ω c0 U U)]))):=by kernel_rfl
end
structure Pt where
 v:Int
 z:Zi
def eP(p:Pt):List AV:=[iv p.v,bv p.z.neg,eN p.z.abs]
theorem Ax(p:Pt):(eP p).length=3:=rfl
section
variable {α:Type} {e:α->List AV} {w:Nat} (he:∀ x,(e x).length=w)
include he
theorem VR(l:List α):∀(i:Nat) (h:i<l.length),(Ao e l).drop (i*w)=e l[i]++(Ao e l).drop (i*w+w):=by
 induction l with
 |nil=>intro i h;cases h
 |cons x r ih=>
  intro i h;have hx:=he x
  cases i with
  |zero=>
   rw[Nat.zero_mul,Aqk,Aqw]
   show e x++Ao e r=e x++(e x++Ao e r).drop w
   rw[←hx,List.drop_left]
  |succ i=>
   have:=ih i (by simpa using h);have e1:∀ n,(Ao e (x::r)).drop (w+n)=(Ao e r).drop n:=λn=>by
    show (e x++Ao e r).drop (w+n)=_
    rw[←hx,Atl];simp
   rw[show (i+1)*w=w+i*w by rw[Aq9];omega,e1,this,show w+i*w+w=w+(i*w+w) by omega,e1];rfl
theorem Bo(l:List α)(i:Nat)(h:i<l.length)(k:List AV->KR):Io (Ao e l) (0+i*w) w k=k (e l[i]):=by
 have hw:i*w+w<=l.length*w:=by
  rw[←Nat.succ_mul];exact Nat.mul_le_mul_right w h
 unfold Io;have:Aqv (0+i*w+w) (Ao e l).length=U:=by rw[Bn he];simp;omega
 rw[this]
 show k (((Ao e l).drop (0+i*w)).take w)=_
 rw[Aqw,VR he l i h,Ats (he _)]
theorem Ck(l:List α)(i:Nat)(h:i<l.length)(x:α):AI (Ao e l) (0+i*w) (e x)=Ao e (l.set i x):=by
 unfold AI;rw[he x,Aqw];have e1:=VR he l i h;have e2:∀(l:List α) (i:Nat),i<=l.length->(Ao e l).take (i*w)=Ao e (l.take i):=λl=>by
  induction l with
  |nil=>intro i _;simp[Ao]
  |cons y r ih=>
   intro i hi
   cases i with
   |zero=>simp[Ao]
   |succ i=>
    rw[show (i+1)*w=w+i*w by rw[Aq9];omega]
    show (e y++Ao e r).take (w+i*w)=e y++Ao e (r.take i)
    rw[←he y,Ato,ArO (by omega),show (e y).length+i*(e y).length-(e y).length=i*(e y).length by omega,he y,ih i (by simpa using hi)]
 have e3:∀(l:List α) (i:Nat),i<=l.length->(Ao e l).drop (i*w)=Ao e (l.drop i):=λl=>by
  induction l with
  |nil=>intro i _;simp[Ao]
  |cons y r ih=>
   intro i hi
   cases i with
   |zero=>simp[Ao]
   |succ i=>
    rw[show (i+1)*w=w+i*w by rw[Aq9];omega]
    show (e y++Ao e r).drop (w+i*w)=Ao e (r.drop i)
    rw[←he y,Atl,List.drop_of_length_le (by omega),show (e y).length+i*(e y).length-(e y).length=i*(e y).length by omega,he y,ih i (by simpa using hi),List.nil_append]
 rw[e2 l i (by omega),show i*w+w=(i+1)*w by rw[Aq9];omega,e3 l (i+1) (by omega),List.set_eq_take_append_cons_drop,if_pos h];simp[Ao]
end
theorem EM{a b:Int}:IP a b<0 ↔ a<b:=by
 unfold IP;split
 .omega
 .split<;>omega
theorem Ps{j:Nat}(h:j<4611686018427387904):Ah.sub .i64 ((j+1:Nat):Int) 1=(j:Int):=by
 rw[FH (by omega) (by omega)];omega
theorem AO{a b:Nat}(h:a<b):Nat.blt a b=U:=by simpa using h
section
variable {D:Orc} (K:Knows Al Hp D)
include K
theorem Sn(x:Int):D.ask (.fn 157) [iv x] []=Δ (bv Ξ,[]):=by
 refine Aw K AhG (AnW ..) ?_;exact Bk rfl rfl
theorem Ab5(x y:Int):D.ask (.fn 84) [iv x,iv y] []=Δ (iv (IP x y),[]):=by
 refine Aw K Al8 (e84 ..) ?_;refine Aa (Sn K x) ?_;simp only[ND,DK,Ab];refine Aa (Sn K y) ?_;simp only[ND,DK,Ab];unfold IP
 by_cases h:x<y
 .rw[if_pos h]
  exact Ak rfl h
 .rw[if_neg h]
  refine Aj ?_ h
  by_cases h2:y<x
  .rw[if_pos h2]
   exact Ak rfl h2
  .rw[if_neg h2]
   exact Aj rfl h2
theorem GP(p q:Pt):D.ask (.fn 137) [.agg (eP p),.agg (eP q)] []=Δ (iv (IP p.v q.v),[]):=by
 refine Aw K Ahy (AnM ..) ?_;refine Aa (Ab5 K p.v q.v) ?_;rfl
def EP:AV:=.fn (.func 137) [] []
theorem Ajw(a i:Nat)(b:Int):∀(m j:Nat) (l:List Pt),j-a=m->a<=j->j<=i->i<l.length->l.length<=1000000000->V5 Pt.v l a i j->
  ∃ r:List Pt,D.ask (.lp 234 1) [.sl 0 0 l.length 3,iv (a:Int),iv b,EP,iv (i:Int),iv (j:Int)] [Ω (Ao eP l) U U]
   = Δ (.tup [iv 2,.sl 0 0 l.length 3,iv (a:Int),iv b,EP,iv (i:Int)],[.set (Ω (Ao eP r) U U)])
   ∧ r.length=l.length/\r.Perm l/\Srt Pt.v r a (i+1)/\Same0 l r a (i+1):=by
 intro m
 induction m with
 |zero=>
  intro j l hm ha hj hi hl hs;obtain rfl:j=a:=by omega
  refine⟨l,?_,rfl,List.Perm.refl _,SV Pt.v hj hs (.inl rfl),CQ _ _ _⟩;refine As K GV (TK ..) ?_;exact Aj rfl
 |succ m ih=>
  intro j l hm ha hj hi hl hs;obtain⟨k,rfl⟩:∃ k,j=k+1:=⟨j-1,by omega⟩;have h1:k+1<l.length:=by omega
  have h0:k<l.length:=by omega
  have kf1:kf Pt.v l (k+1)=l[k+1].v:=Ff Pt.v h1;have kf0:kf Pt.v l k=l[k].v:=Ff Pt.v h0
  by_cases hlt:l[k+1].v<l[k].v
  .have hs2:V5 Pt.v (CR l (k+1) k) a i k:=XG (j:=k+1) Pt.v hi (by omega) hj hs (by rw[Ar3,kf1,kf0];exact hlt)
   have hlen:=Ih l (k+1) k;obtain⟨r,g,hr,hp,ho,hsm⟩:=ih k (CR l (k+1) k) (by omega) (by omega) (by omega) (by omega) (by omega) hs2;rw[hlen]at g hr;refine⟨r,?_,hr,hp.trans (Gp _ _ _),ho,(XJ (by omega) (by omega) (by omega) (by omega)).trans hsm⟩;refine As K GV (TK ..) ?_;refine Ak ?_;rw[Ps (by omega),Av,AO h1];refine Ac ?_;refine(Bo Ax l (k+1) h1 _).trans ?_;simp only[eP,eN,ND,DK,Ab];rw[Av,AO h0];refine Ac ?_;refine(Bo Ax l k h0 _).trans ?_;simp only[eP,eN,ND,DK,Ab];refine Aa (GP K l[k+1] l[k]) ?_;simp only[ND,DK,Ab];refine Ak ?_ (EM.2 hlt);rw[Av,AO h0];refine Ac ?_;refine(Bo Ax l k h0 _).trans ?_;simp only[eP,eN,ND,DK,Ab];rw[Av,AO h1];refine Ac ?_;refine(Bo Ax l (k+1) h1 _).trans ?_;simp only[eP,eN,ND,DK,Ab];rw[Av,AO h1];refine Ac ?_;have s1:=Ck Ax l (k+1) h1 l[k];have s2:=Ck Ax (l.set (k+1) l[k]) k (by rw[AqW];exact h0) l[k+1];rw[←DG h1 h0]at s2;simp only[eP,eN]at s1 s2;rw[show Aqv (0+(k+1)*3+3) (Ao eP l).length=U by rw[Bn Ax];simp;omega];refine Ac ?_;rw[Av,AO h0];refine Ac ?_;rw[s1,s2];rw[show Aqv (0+k*3+3) (Ao eP (l.set (k+1) l[k])).length=U by rw[Bn Ax,AqW];simp;omega];refine Ac ?_;refine Aa g ?_;rfl
  .refine⟨l,?_,rfl,List.Perm.refl _,SV Pt.v hj hs (.inr ?_),CQ _ _ _⟩
   .skip
    refine As K GV (TK ..) ?_;refine Ak ?_;rw[Ps (by omega),Av,AO h1];refine Ac ?_;refine(Bo Ax l (k+1) h1 _).trans ?_;simp only[eP,eN,ND,DK,Ab];rw[Av,AO h0];refine Ac ?_;refine(Bo Ax l k h0 _).trans ?_;simp only[eP,eN,ND,DK,Ab];refine Aa (GP K l[k+1] l[k]) ?_;simp only[ND,DK,Ab];exact Aj rfl (λh=>hlt (EM.1 h))
   .rw[Ar3,kf1,kf0]
    omega
theorem Acs(a b:Nat):∀(m i:Nat) (l:List Pt),b-i=m->a<i->i<=b->b<=l.length->l.length<=1000000000->Srt Pt.v l a i->
  ∃ r:List Pt,D.ask (.lp 234 0) [.sl 0 0 l.length 3,iv (a:Int),iv (b:Int),EP,iv (i:Int)] [Ω (Ao eP l) U U]
   = Δ (.tup [iv 0,.sl 0 0 l.length 3],[.set (Ω (Ao eP r) U U)])
   ∧ r.length=l.length/\r.Perm l/\Srt Pt.v r a b/\Same0 l r a b:=by
 intro m
 induction m with
 |zero=>
  intro i l hm ha hi hb hl hs;obtain rfl:i=b:=by omega
  refine⟨l,?_,rfl,List.Perm.refl _,hs,CQ _ _ _⟩;refine As K GV (TJ ..) ?_;exact Aj rfl
 |succ m ih=>
  intro i l hm ha hi hb hl hs;obtain⟨r,g,hr,hp,ho,hsm⟩:=Ajw K a i (b:Int) _ i l rfl (by omega) (ω _) (by omega) hl (UP Pt.v hs);obtain⟨r2,g2,hr2,hp2,ho2,hsm2⟩:=ih (i+1) r (by omega) (by omega) (by omega) (by omega) (by omega) ho;rw[hr]at g2;refine⟨r2,?_,by omega,hp2.trans hp,ho2,(hsm.wide (ω _) (by omega)).trans hsm2⟩;refine As K GV (TJ ..) ?_;refine Ak ?_;refine Aa g ?_;simp only[EP,ND,DK,Ab];refine Ac ?_;rw[BB (by omega)];refine Aa g2 ?_;rfl
theorem ZK{a b:Nat}{l:List Pt}(hab:a<=b)(hb:b<=l.length)(hl:l.length<=1000000000) :
  ∃ r:List Pt,D.ask (.fn 234) [.sl 0 0 l.length 3,iv (a:Int),iv (b:Int),EP] [Ω (Ao eP l) U U]=Δ (.tup [],[.set (Ω (Ao eP r) U U)])
   ∧ r.length=l.length/\r.Perm l/\Srt Pt.v r a b/\Same0 l r a b:=by
 by_cases h:a<b
 .obtain⟨r,g,hr⟩:=Acs K a b _ (a+1) l rfl (by omega) (by omega) hb hl (AgD Pt.v l a)
  refine⟨r,?_,hr⟩;refine Aw K GV (AlL ..) ?_;rw[BB (by omega)];refine Aa g ?_;rfl
 .obtain rfl:a=b:=by omega
  have g:D.ask (.lp 234 0) [.sl 0 0 l.length 3,iv (a:Int),iv (a:Int),EP,iv ((a+1:Nat):Int)] [Ω (Ao eP l) U U]=Δ (.tup [iv 0,.sl 0 0 l.length 3],[.set (Ω (Ao eP l) U U)]):=by
   refine As K GV (TJ ..) ?_;exact Aj rfl
  refine⟨l,?_,rfl,List.Perm.refl _,AgC Pt.v l a,CQ _ _ _⟩;refine Aw K GV (AlL ..) ?_;rw[BB (by omega)];refine Aa g ?_;rfl
end
def fnZ:AV:=.fn (.func 141) [] []
section
variable {D:Orc} (K:Knows Al Hp D)
include K
theorem Aju(P:Pt->Bool)(l:List Pt)(hl:l.length<=1000000000)(hP:∀ p∈l,D.ask (.fn 141) [.agg (eP p)] []=Δ (bv (P p),[])):∀(m i:Nat),l.length-i=m->i<=l.length->
  D.ask (.lp 199 0) [.sl 0 0 l.length 3,fnZ,iv (l.length:Int),iv (i:Int)] [Ω (Ao eP l) U U]
   = if i+(l.drop i).findIdx P<l.length then Δ (.tup [bv U,.sl 0 0 l.length 3,iv ((i+(l.drop i).findIdx P:Nat):Int)],[.set (Ω (Ao eP l) U U)]) else Δ (.tup [iv 0,.sl 0 0 l.length 3],[.set (Ω (Ao eP l) U U)]):=by
 intro m
 induction m with
 |zero=>
  intro i hm hi;rw[if_neg (by omega)];refine As K Nb (P5 ..) ?_;exact Aj rfl
 |succ m ih=>
  intro i hm hi;have h1:i<l.length:=by omega
  have g:=hP l[i] (Aqz h1);have ih':=ih (i+1) (by omega) (by omega);rw[π h1,Atg]
  cases hp:P l[i]with
  |true=>
   rw[hp]at g;rw[if_pos (by simpa using h1)];refine As K Nb (P5 ..) ?_;refine Ak ?_;rw[Av,AO h1];refine Ac ?_;refine(Bo Ax l i h1 _).trans ?_;simp only[eP,eN,ND,DK,Ab];refine Aa g ?_;simp only[ND,DK,Ab];rfl
  |false=>
   rw[hp]at g;rw[show (bif Ξ then 0 else(l.drop (i+1)).findIdx P+1)=(l.drop (i+1)).findIdx P+1 from rfl,show i+((l.drop (i+1)).findIdx P+1)=i+1+(l.drop (i+1)).findIdx P by omega]
   by_cases h:i+1+(l.drop (i+1)).findIdx P<l.length
   .rw[if_pos h]at ih' ⊢
    refine As K Nb (P5 ..) ?_;refine Ak ?_;rw[Av,AO h1];refine Ac ?_;refine(Bo Ax l i h1 _).trans ?_;simp only[eP,eN,ND,DK,Ab];refine Aa g ?_;simp only[ND,DK,Ab];rw[BB (by omega)];refine Aa ih' ?_;rfl
   .rw[if_neg h]at ih' ⊢
    refine As K Nb (P5 ..) ?_;refine Ak ?_;rw[Av,AO h1];refine Ac ?_;refine(Bo Ax l i h1 _).trans ?_;simp only[eP,eN,ND,DK,Ab];refine Aa g ?_;simp only[ND,DK,Ab];rw[BB (by omega)];refine Aa ih' ?_;rfl
theorem Ajv(P:Pt->Bool)(l:List Pt)(hl:l.length<=1000000000)(hP:∀ p∈l,D.ask (.fn 141) [.agg (eP p)] []=Δ (bv (P p),[])) :
  D.ask (.fn 199) [.sl 0 0 l.length 3,fnZ] [Ω (Ao eP l) U U]
   = Δ (iv (if l.findIdx P<l.length then(l.findIdx P:Int) else -1),[.set (Ω (Ao eP l) U U)]):=by
 have g:=Aju K P l hl hP _ 0 rfl (by omega);rw[Aqk,Aqw]at g;refine Aw K Nb (Aoe ..) ?_
 by_cases h:l.findIdx P<l.length
 .rw[if_pos h]at g ⊢
  refine Aa g ?_;rfl
 .rw[if_neg h]at g ⊢
  refine Aa g ?_;rfl
theorem Ai6(P:Pt->Bool)(Q:Pt->Prop)(hP:∀ p,Q p->D.ask (.fn 141) [.agg (eP p)] []=Δ (bv (P p),[])):∀(m j i:Nat) (l:List Pt),l.length-j=m->i<=j->j<=l.length->l.length<=1000000000->(∀ p∈l.drop j,Q p)->
  ∃(r:List Pt) (c:Nat),D.ask (.lp 140 0) [.sl 0 0 l.length 3,fnZ,iv (i:Int),iv (j:Int)] [Ω (Ao eP l) U U]
   = Δ (.tup [iv 0,.sl 0 0 l.length 3,iv (c:Int)],[.set (Ω (Ao eP r) U U)])
   ∧ r.length=l.length/\c<=l.length/\r.take c=l.take i++(l.drop j).filter (λp=>!P p):=by
 intro m
 induction m with
 |zero=>
  intro j i l hm hi hj hl hq;refine⟨l,i,?_,rfl,by omega,?_⟩
  .refine As K M7 (TH ..) ?_
   exact Aj rfl
  .rw[List.drop_eq_nil_of_le (by omega),List.filter_nil,List.append_nil]
 |succ m ih=>
  intro j i l hm hi hj hl hq;have h1:j<l.length:=by omega
  have h0:i<l.length:=by omega
  have ed:=π h1;have g:=hP l[j] (hq _ (by rw[ed];exact Aqs ..));rw[ed,Atm]
  cases hp:P l[j]with
  |true=>
   rw[hp]at g;obtain⟨r,c,g2,hr,hc,he⟩:=ih (j+1) i l (by omega) (by omega) (by omega) hl (λp h=>hq p (by rw[ed];exact Aql _ h));refine⟨r,c,?_,hr,hc,he⟩;refine As K M7 (TH ..) ?_;refine Ak ?_;rw[Av,AO h1];refine Ac ?_;refine(Bo Ax l j h1 _).trans ?_;simp only[eP,eN,ND,DK,Ab];refine Aa g ?_;simp only[ND,DK,Ab];rw[BB (by omega)];refine Aa g2 ?_;rfl
  |false=>
   rw[hp]at g;have hd:(l.set i l[j]).drop (j+1)=l.drop (j+1):=List.drop_set_of_lt (by omega);obtain⟨r,c,g2,hr,hc,he⟩:=ih (j+1) (i+1) (l.set i l[j]) (by rw[AqW];omega) (by omega) (by rw[AqW];omega) (by rw[AqW];exact hl) (λp h=>hq p (by rw[ed];rw[hd]at h;exact Aql _ h));rw[AqW]at g2 hr hc;have s1:=Ck Ax l i h0 l[j];simp only[eP,eN]at s1;refine⟨r,c,?_,hr,hc,?_⟩
   .skip
    refine As K M7 (TH ..) ?_;refine Ak ?_;rw[Av,AO h1];refine Ac ?_;refine(Bo Ax l j h1 _).trans ?_;simp only[eP,eN,ND,DK,Ab];refine Aa g ?_;simp only[ND,DK,Ab];rw[Av,AO h0];refine Ac ?_;rw[show Aqv (0+i*3+3) (Ao eP l).length=U by rw[Bn Ax];simp;omega];refine Ac ?_;rw[s1,BB (by omega),BB (by omega)];refine Aa g2 ?_;rfl
   .rw[he,hd,List.take_succ_eq_append_getElem (by rw[AqW];exact h0),List.getElem_set_self,List.take_set_of_le (ω _),AqM]
    rfl
omit K in
theorem MX(P:Pt->Bool):∀ l:List Pt,l.findIdx P<l.length->l.take (l.findIdx P)++(l.drop (l.findIdx P+1)).filter (λp=>!P p)=l.filter (λp=>!P p)
 |[],h=>by simp at h
 |x::r,h=>by
  rw[Atg]at h ⊢
  cases hp:P x with
  |true=>simp[hp]
  |false=>
   rw[hp]at h;have:=MX P r (by simpa using h);simp only[cond_false,ArF,List.drop_succ_cons,Atm,hp,Bool.not_false,if_true,ArY];rw[this]
omit K in
theorem RH(P:Pt->Bool)(l:List Pt)(h:¬ l.findIdx P<l.length):l.filter (λp=>!P p)=l:=by
 rw[List.filter_eq_self];intro p hp
 cases e:P p with
 |false=>rfl
 |true=>exact absurd (List.findIdx_lt_length_of_exists ⟨p,hp,e⟩) h
omit K in
theorem NM:∀(l:List Pt) (i:Nat),i<=l.length->(Ao eP l).take (i*3)=Ao eP (l.take i)
 |[],i,_=>by simp[Ao]
 |y::r,0,_=>by simp[Ao]
 |y::r,i+1,h=>by
  rw[show (i+1)*3=3+i*3 by omega]
  show (eP y++Ao eP r).take (3+i*3)=eP y++Ao eP (r.take i)
  rw[Ato,ArO (by rw[Ax];omega),Ax,show 3+i*3-3=i*3 by omega,NM r i (by simpa using h)]
theorem Ai7(P:Pt->Bool)(l:List Pt)(hl:l.length<=1000000000)(hP:∀ p∈l,D.ask (.fn 141) [.agg (eP p)] []=Δ (bv (P p),[])) :
  ∃ cells:List AV,D.ask (.fn 140) [.sl 0 0 l.length 3,fnZ] [Ω (Ao eP l) U U]
   = Δ (.sl 0 0 (l.filter λp=>!P p).length 3,[.set (Ω cells U U)])
   ∧ cells.take ((l.filter λp=>!P p).length*3)=Ao eP (l.filter λp=>!P p)/\(l.filter λp=>!P p).length*3<=cells.length:=by
 have g:=Ajv K P l hl hP
 by_cases h:l.findIdx P<l.length
 .rw[if_pos h]at g
  obtain⟨r,c,g2,hr,hc,he⟩:=Ai6 K P (λp=>p∈l) hP _ (l.findIdx P+1) (l.findIdx P) l rfl (by omega) (by omega) hl (λp hp=>Arh hp);rw[MX P l h]at he;have hk:(l.filter λp=>!P p).length=c:=by
   rw[←he,AqT];omega
  rw[hk,←he];refine⟨AI (Ao eP r) (0+c*3) (BQ [iv 0,bv Ξ,.v (.slice Θ 0 0)] ((l.length-c)*3)),?_,?_,?_⟩
  .refine Aw K M7 (AlH ..) ?_
   refine Aa g ?_;simp only[ND,DK,Ab];refine AC ?_;rw[BB (by omega)];refine Aa g2 ?_;simp only[ND,DK,Ab];rw[Av,show Nm c l.length l.length=U by unfold Nm;rw[ArU hc,ArU (ω _)]];refine Ac ?_;rw[show Aqv (0+c*3+(l.length-c)*3) (Ao eP r).length=U by rw[Bn Ax];simp;omega];refine Ac ?_;rw[Av,show Nm 0 c l.length=U by unfold Nm;rw[ArU (AqR _),ArU hc]];rfl
  .unfold AI
   have hlen:((Ao eP r).take (0+c*3)).length=c*3:=by
    rw[AqT,Bn Ax];omega
   rw[AqM,Ats hlen,Aqw,NM r c (by omega)]
  .unfold AI
   rw[χ,χ,AqT,Bn Ax];omega
 .rw[if_neg h]at g
  rw[RH P l h];refine⟨Ao eP l,?_,Bm Ax l rfl,by rw[Bn Ax];exact ω _⟩;refine Aw K M7 (AlH ..) ?_;refine Aa g ?_;simp only[ND,DK,Ab];exact Bk rfl rfl
end
theorem MB{B:Nat}{W w:World}(h:Below B W w):Below B W w.drew:=h.drew
theorem FU{w w':World}(h:Below w.drew.heap.size w.drew w'):Below w.heap.size w w':=⟨h.os,h.tape,h.output,h.size,h.block⟩
theorem BT{W w w':World}(h:Below W.heap.size W w)(hb:Below w.heap.size w w'):Below W.heap.size W w':=h.trans (hb.mono h.size)
theorem AJ(w:World)(o:Obj):Below w.heap.size w (w.alloc o):=(Below.refl _ _).alloc (ω _) o
def Blk(w:World)(g:Nat)(t:TypeId)(cs:Array Value):Prop:=w.heap[g]? = Δ (.cells cs t (0,0))
section
variable {w w':World} {g:Nat} {t:TypeId} {cs:Array Value}
theorem Blk.lt(h:Blk w g t cs):g<w.heap.size:=by
 rcases AqJ g w.heap.size with hlt|hge
 .exact hlt
 .unfold Blk at h;rw[Array.getElem?_eq_none hge]at h;cases h
theorem Blk.cell(h:Blk w g t cs)(i:Nat):w.cell? ⟨g,i,Θ⟩=cs[i]?:=cell_of_row w g i cs t (0,0) h
theorem Blk.frozen(h:Blk w g t cs)(i:Nat):w.frozen? ⟨g,i,Θ⟩=Ξ:=by
 unfold Blk at h;simp[World.frozen?,h]
theorem Blk.new(w:World)(t:TypeId)(cs:Array Value):Blk (w.alloc (.cells cs t)) w.heap.size t cs:=heap_alloc_new w _
theorem Blk.drew(h:Blk w g t cs):Blk w.drew g t cs:=h
theorem Blk.alloc(h:Blk w g t cs)(o:Obj):Blk (w.alloc o) g t cs:=(Below.heap_alloc w o g h.lt).trans h
theorem Blk.set_(h:Blk w g t cs)(i:Nat)(u:Value):Blk (w.setCell ⟨g,i,Θ⟩ u) g t (cs.setIfInBounds i u):=by
 unfold Blk at h ⊢;simp[World.setCell,Array.getElem?_modify,h]
theorem Blk.far(h:Blk w g t cs){p:Addr}(hp:g≠p.block)(u:Value):Blk (w.setCell p u) g t cs:=(Below.heap_setCell w p u g hp).trans h
theorem Blk.below{B:Nat}(h:Blk w g t cs)(hb:Below B w w')(hg:g<B):Blk w' g t cs:=(hb.block g hg).trans h
theorem Blk.call(h:Blk w g t cs)(hb:Below w.heap.size w w'):Blk w' g t cs:=h.below hb h.lt
end
def Own(w:World)(B g:Nat)(t:TypeId)(v:Value)(cs:Array Value):Prop:=B<=g/\v=.pointer (Δ ⟨g,0,Θ⟩)/\Blk w g t cs
section
variable {w w':World} {B g:Nat} {t:TypeId} {v:Value} {cs:Array Value}
theorem Own.call(h:Own w B g t v cs)(hb:Below w.heap.size w w'):Own w' B g t v cs:=⟨h.1,h.2.1,h.2.2.call hb⟩
end
def pick{α:Type}(d:Bool)(x y:α):α:=match d with|true=>x|false=>y
section
variable {w w':World} {base base' e size n:Nat} {v:Value} {xs:List Value}
theorem M6{row:Option Nat}(hb:Below w.heap.size w w'):w.grownBy w' row:=⟨hb.os,hb.tape,hb.output,hb.size,λk hk _=>hb.block k hk⟩
theorem SC(h:w.ownsRow base e size v n xs)(hb:Below w.heap.size w w'):w'.ownsRow base e size v n xs:=h.kept (row:=Θ) (M6 hb) (by cases hv:v.ownBlock<;>simp)
theorem FD(h:w.ownsRow base e size v n xs):∃ A c,v=.slice A n c:=by
 rcases h.2 with⟨h1,h0⟩|⟨g,cap,cur,h1,_⟩
 .exact⟨Θ,0,by rw[h1,h0]⟩
 .exact⟨_,_,h1⟩
end
