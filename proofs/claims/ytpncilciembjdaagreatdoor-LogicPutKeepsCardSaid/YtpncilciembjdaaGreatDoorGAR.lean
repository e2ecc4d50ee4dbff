/- What the sort functions -/
import Derived.Test.YtpncilciembjdaaGreatDoorGAQ
set_option linter.all false
open Bool renaming false->Ξ,true->U
open List renaming append_assoc->AqM,append_nil->Aro,drop->Aqp,drop_eq_getElem_cons->π,drop_eq_nil_of_le->Aqq,drop_of_length_le->AsZ,drop_zero->Aqk,flatten_cons->Arm,foldl_cons->AsA,getElem?_eq_getElem->θ,getElem_mem->Aqz,length_append->χ,length_cons->ε,length_map->Aqy,length_set->AqW,length_singleton->Arb,map_cons->AqF,map_nil->Are,mem_cons_self->Aqs,mem_map->Aq6,nil_append->Aq0,reverse_cons->Atj,take->Aqj
open Nat renaming ble->Aqv,le_refl->ω,strongRecOn->Arz
open Option renaming none->Θ,some->Δ
namespace Go.Proofs.YtpncilciembjdaaGreatDoor
noncomputable section
open ABlk renaming mk->Ω
open AV renaming agg->ψ,fn->Aqx,ls->Φ,ptr->υ,sl->κ,tup->Aqm
open BO renaming set->Aqu
open IntKind renaming i64->δ
open Key renaming fn->φ,lp->Aqn
open Go.RowKit
theorem C8{a b:Nat}(h:a+b<4611686018427387904):Ah.conv .i64 (Ah.shr .u64 (Ah.conv .u64 (Ah.add .i64 (a:Int) (b:Int))) 1)=(((a+b) / 2:Nat):Int):=by
 rw[Gy (by omega) (by omega),show (a:Int)+(b:Int)=((a+b:Nat):Int) by omega,Cj (by omega)];have:Ah.shr .u64 ((a+b:Nat):Int) 1=(((a+b) / 2:Nat):Int):=by
  show Int.fdiv ((a+b:Nat):Int) (2 ^ 1)=_
  have:(2 ^ 1:Int)=((2:Nat):Int):=by decide
  rw[this,Int.fdiv_eq_ediv_of_nonneg _ (by omega)];rfl
 rw[this]
 show IntKind.i64.wrap (((a+b) / 2:Nat):Int)=_
 rw[IntKind.wrap_i64];omega
theorem Jg{a b:Nat}(h:a+b<4611686018427387904):Ah.add .i64 (a:Int) (b:Int)=((a+b:Nat):Int):=by
 rw[Gy (by omega) (by omega)];omega
theorem Cc{a b:Nat}(hb:b<=a)(h:a<4611686018427387904):Ah.sub .i64 (a:Int) (b:Int)=((a-b:Nat):Int):=by
 rw[FH (by omega) (by omega)];omega
theorem Ho{a:Nat}(hb:1<=a)(h:a<4611686018427387904):Ah.sub .i64 (a:Int) 1=((a-1:Nat):Int):=by
 rw[FH (by omega) (by omega)];omega
abbrev GO(l:List Pt):ABlk:=Ω (Ao eP l) U U
section
variable {D:Orc} (K:Knows Al Hp D)
include K
theorem Ak1(a b n:Nat)(l0:List Pt):∀(m i:Nat) (l:List Pt),n-i=m->i<=n->a+n<=b->b+n<=l.length->l.length<=1000000000->l.length=l0.length->SwR l0 l a b i->
  ∃ r:List Pt,D.ask (.lp 275 0) [.sl 0 0 l.length 3,iv (a:Int),iv (b:Int),iv (n:Int),iv (i:Int)] [GO l]=Δ (.tup [iv 0,.sl 0 0 l.length 3],[.set (GO r)])
   ∧ r.length=l.length/\r.Perm l/\SwR l0 r a b n:=by
 intro m
 induction m with
 |zero=>
  intro i l hm hi ha hb hl h0 hs;obtain rfl:i=n:=by omega
  refine⟨l,?_,rfl,List.Perm.refl _,hs⟩;refine As K Sf (Y7 ..) ?_;exact Aj rfl
 |succ m ih=>
  intro i l hm hi ha hb hl h0 hs;have hI:a+i<l.length:=by omega
  have hJ:b+i<l.length:=by omega
  have hlen:=Ih l (a+i) (b+i);obtain⟨r,g,hr,hp,ho⟩:=ih (i+1) (CR l (a+i) (b+i)) (by omega) (by omega) ha (by omega) (by omega) (by omega) (Aa3 (by omega) (by omega) hs h0);rw[hlen]at g hr;refine⟨r,?_,hr,hp.trans (Gp _ _ _),ho⟩;refine As K Sf (Y7 ..) ?_;refine Ak ?_;rw[Jg (a:=b) (b:=i) (by omega),Jg (a:=a) (b:=i) (by omega),BB (by omega)];rw[Av,AO hJ];refine Ac ?_;refine(Bo Ax l (b+i) hJ _).trans ?_;simp only[eP,eN,ND,DK,Ab];rw[Av,AO hI];refine Ac ?_;refine(Bo Ax l (a+i) hI _).trans ?_;simp only[eP,eN,ND,DK,Ab];have s1:=Ck Ax l (a+i) hI l[(b+i)];have s2:=Ck Ax (l.set (a+i) l[(b+i)]) (b+i) (by rw[AqW];exact hJ) l[(a+i)];rw[←DG hI hJ]at s2;simp only[eP,eN]at s1 s2;rw[Av,AO hI];refine Ac ?_;rw[show Aqv (0+(a+i)*3+3) (Ao eP l).length=U by rw[Bn Ax];simp;omega];refine Ac ?_;rw[Av,AO hJ];refine Ac ?_;rw[s1,s2];rw[show Aqv (0+(b+i)*3+3) (Ao eP (l.set (a+i) l[(b+i)])).length=U by rw[Bn Ax,AqW];simp;omega];refine Ac ?_;refine Aa g ?_;rfl
theorem UR{a b n:Nat}{l:List Pt}(ha:a+n<=b)(hb:b+n<=l.length)(hl:l.length<=1000000000) :
  ∃ r:List Pt,D.ask (.fn 275) [.sl 0 0 l.length 3,iv (a:Int),iv (b:Int),iv (n:Int),EP] [GO l]=Δ (.tup [],[.set (GO r)])
   ∧ r.length=l.length/\r.Perm l/\SwR l r a b n:=by
 obtain⟨r,g,h⟩:=Ak1 K a b n l _ 0 l rfl (by omega) ha hb hl rfl (Aa4 l a b);refine⟨r,?_,h⟩;refine Aw K Sf (Aop ..) ?_;refine Aa g ?_;rfl
theorem AkT(m:Nat):∀(s i j:Nat) (l:List Pt),i+j=s->0<i->0<j->i<=m->m+j<=l.length->l.length<=1000000000->
  ∃(r:List Pt) (d:Nat),D.ask (.lp 265 0) [.sl 0 0 l.length 3,iv (m:Int),EP,iv (i:Int),iv (j:Int)] [GO l]=Δ (.tup [iv 0,.sl 0 0 l.length 3,iv (m:Int),EP,iv (d:Int)],[.set (GO r)])
   ∧ r.length=l.length/\r.Perm l/\d<=m/\m+d<=l.length/\∀ r2:List Pt,SwR r r2 (m-d) m d->Rot l r2 (m-i) m (m+j):=by
 intro s
 induction s using Arz with
 |_ s ih=>
  intro i j l hs hi hj him hl hn
  by_cases he:i=j
  .subst he
   refine⟨l,i,?_,rfl,List.Perm.refl _,him,hl,λr2 h=>AaE him h⟩;refine As K OX (TO ..) ?_;exact Bk rfl rfl
  by_cases hlt:j<i
  .obtain⟨r,g,hr,hp,hsw⟩:=UR K (a:=m-i) (b:=m) (n:=j) (l:=l) (by omega) hl hn
   obtain⟨r2,d,g2,hr2,hp2,hd1,hd2,hd3⟩:=ih (i-j+j) (by omega) (i-j) j r rfl (by omega) hj (by omega) (by omega) (by omega);rw[hr]at g2 hr2 hd2;refine⟨r2,d,?_,hr2,hp2.trans hp,hd1,hd2,λr3 h=>AaC him hlt hsw (hd3 r3 h)⟩;refine As K OX (TO ..) ?_;refine AC ?_;refine Ak ?_;rw[Cc him (by omega),Cc (a:=i) (b:=j) (by omega) (by omega)];refine Aa g ?_;simp only[EP,ND,DK,Ab];refine Aa g2 ?_;rfl
  .obtain⟨r,g,hr,hp,hsw⟩:=UR K (a:=m-i) (b:=m+j-i) (n:=i) (l:=l) (by omega) (by omega) hn
   obtain⟨r2,d,g2,hr2,hp2,hd1,hd2,hd3⟩:=ih (i+(j-i)) (by omega) i (j-i) r rfl hi (by omega) him (by omega) (by omega);rw[hr]at g2 hr2 hd2;refine⟨r2,d,?_,hr2,hp2.trans hp,hd1,hd2,λr3 h=>Xj him (by omega) hsw (hd3 r3 h)⟩;refine As K OX (TO ..) ?_;refine AC ?_;refine Aj ?_;rw[Cc him (by omega),Jg (a:=m) (b:=j) (by omega),Cc (a:=m+j) (b:=i) (by omega) (by omega),Cc (a:=j) (b:=i) (by omega) (by omega)];refine Aa g ?_;simp only[EP,ND,DK,Ab];refine Aa g2 ?_;rfl
theorem AaD{a m b:Nat}{l:List Pt}(ha:a<m)(hm:m<b)(hb:b<=l.length)(hl:l.length<=1000000000) :
  ∃ r:List Pt,D.ask (.fn 265) [.sl 0 0 l.length 3,iv (a:Int),iv (m:Int),iv (b:Int),EP] [GO l]=Δ (.tup [],[.set (GO r)])
   ∧ r.length=l.length/\r.Perm l/\Rot l r a m b:=by
 obtain⟨r,d,g,hr,hp,hd1,hd2,hd3⟩:=AkT K m _ (m-a) (b-m) l rfl (by omega) (by omega) (by omega) (by omega) hl;obtain⟨r2,g2,hr2,hp2,hsw⟩:=UR K (a:=m-d) (b:=m) (n:=d) (l:=r) (by omega) (by omega) (by omega);have h:=hd3 r2 hsw;rw[show m-(m-a)=a by omega,show m+(b-m)=b by omega]at h;rw[hr]at g2;refine⟨r2,?_,by omega,hp2.trans hp,h⟩;refine Aw K OX (Aoo ..) ?_;rw[Cc (a:=m) (b:=a) (by omega) (by omega),Cc (a:=b) (b:=m) (by omega) (by omega)];refine Aa g ?_;simp only[EP,ND,DK,Ab];rw[Cc hd1 (by omega)];refine Aa g2 ?_;rfl
theorem AgI(a m b:Nat)(l:List Pt)(hl:l.length<=1000000000)(ha:a<m)(hb:b<=l.length)(hs:Srt Pt.v l m b):∀(k i j:Nat),j-i=k->m<=i->i<=j->j<=b->(∀ p,m<=p->p<i->kf Pt.v l p<kf Pt.v l a)->(∀ p,j<=p->p<b->kf Pt.v l a<=kf Pt.v l p)->
  ∃ x:Nat,D.ask (.lp 235 0) [.sl 0 0 l.length 3,iv (a:Int),EP,iv (i:Int),iv (j:Int)] [GO l]=Δ (.tup [iv 0,.sl 0 0 l.length 3,iv (a:Int),iv (x:Int)],[.set (GO l)])
   ∧ m<=x/\x<=b/\(∀ p,m<=p->p<x->kf Pt.v l p<kf Pt.v l a)/\(∀ p,x<=p->p<b->kf Pt.v l a<=kf Pt.v l p):=by
 intro k
 induction k using Arz with
 |_ k ih=>
  intro i j hk hmi hij hjb h1 h2
  by_cases he:i<j
  .have hH:(i+j) / 2<l.length:=by omega
   have hA:a<l.length:=by omega
   have kh:kf Pt.v l ((i+j) / 2)=l[(i+j) / 2].v:=Ff Pt.v hH;have ka:kf Pt.v l a=l[a].v:=Ff Pt.v hA
   by_cases hlt:l[(i+j) / 2].v<l[a].v
   .obtain⟨x,g,hx⟩:=ih (j-((i+j) / 2+1)) (by omega) ((i+j) / 2+1) j rfl (by omega) (by omega) hjb (λp p1 p2=>by
     by_cases hp:p=(i+j) / 2
     .rw[hp,kh,ka];exact hlt
     .have:=hs p ((i+j) / 2) p1 (by omega) (by omega)
      omega) h2
    refine⟨x,?_,hx⟩;refine As K Cp (TL ..) ?_;refine Ak ?_;refine Aj ?_ (by decide);rw[C8 (by omega),BB (by omega)];rw[Av,AO hH];refine Ac ?_;refine(Bo Ax l ((i+j) / 2) hH _).trans ?_;simp only[eP,eN,ND,DK,Ab];rw[Av,AO hA];refine Ac ?_;refine(Bo Ax l a hA _).trans ?_;simp only[eP,eN,ND,DK,Ab];refine Aa (GP K l[(i+j) / 2] l[a]) ?_;simp only[ND,DK,Ab];refine Ak ?_ (EM.2 hlt);refine Aa g ?_;rfl
   .obtain⟨x,g,hx⟩:=ih ((i+j) / 2-i) (by omega) i ((i+j) / 2) rfl hmi (by omega) (by omega) h1 (λp p1 p2=>by
     by_cases hp:p=(i+j) / 2
     .rw[hp];omega
     .have:=hs ((i+j) / 2) p (by omega) (by omega) (by omega)
      omega)
    refine⟨x,?_,hx⟩;refine As K Cp (TL ..) ?_;refine Ak ?_;refine Aj ?_ (by decide);rw[C8 (by omega)];rw[Av,AO hH];refine Ac ?_;refine(Bo Ax l ((i+j) / 2) hH _).trans ?_;simp only[eP,eN,ND,DK,Ab];rw[Av,AO hA];refine Ac ?_;refine(Bo Ax l a hA _).trans ?_;simp only[eP,eN,ND,DK,Ab];refine Aa (GP K l[(i+j) / 2] l[a]) ?_;simp only[ND,DK,Ab];refine Aj ?_ (λh=>hlt (EM.1 h));refine Aa g ?_;rfl
  .obtain rfl:i=j:=by omega
   refine⟨i,?_,hmi,hjb,h1,h2⟩;refine As K Cp (TL ..) ?_;exact Aj rfl
theorem AgJ(a x:Nat)(l0:List Pt):∀(n k:Nat) (l:List Pt),x-1-k=n->a<=k->k<x->x<=l.length->l.length<=1000000000->l.length=l0.length->Rot l0 l a (a+1) (k+1)->
  ∃ r:List Pt,D.ask (.lp 235 1) [.sl 0 0 l.length 3,iv (x:Int),iv (k:Int)] [GO l]=Δ (.tup [iv 2,.sl 0 0 l.length 3],[.set (GO r)])
   ∧ r.length=l.length/\r.Perm l/\Rot l0 r a (a+1) x:=by
 intro n
 induction n with
 |zero=>
  intro k l hn ha hk hx hl h0 ht;obtain rfl:x=k+1:=by omega
  refine⟨l,?_,rfl,List.Perm.refl _,ht⟩;refine As K Cp (Y3 ..) ?_;rw[Ho (by omega) (by omega)];exact Aj rfl
 |succ n ih=>
  intro k l hn ha hk hx hl h0 ht;have hI:k<l.length:=by omega
  have hJ:k+1<l.length:=by omega
  have hlen:=Ih l k (k+1);obtain⟨r,g,hr,hp,ho⟩:=ih (k+1) (CR l k (k+1)) (by omega) (by omega) (by omega) (by omega) (by omega) (by omega) (AkU ha (by omega) h0 ht);rw[hlen]at g hr;refine⟨r,?_,hr,hp.trans (Gp _ _ _),ho⟩;refine As K Cp (Y3 ..) ?_;rw[Ho (by omega) (by omega)];refine Ak ?_;rw[BB (by omega)];rw[Av,AO hJ];refine Ac ?_;refine(Bo Ax l (k+1) hJ _).trans ?_;simp only[eP,eN,ND,DK,Ab];rw[Av,AO hI];refine Ac ?_;refine(Bo Ax l k hI _).trans ?_;simp only[eP,eN,ND,DK,Ab];have s1:=Ck Ax l k hI l[(k+1)];have s2:=Ck Ax (l.set k l[(k+1)]) (k+1) (by rw[AqW];exact hJ) l[k];rw[←DG hI hJ]at s2;simp only[eP,eN]at s1 s2;rw[Av,AO hI];refine Ac ?_;rw[show Aqv (0+k*3+3) (Ao eP l).length=U by rw[Bn Ax];simp;omega];refine Ac ?_;rw[Av,AO hJ];refine Ac ?_;rw[s1,s2];rw[show Aqv (0+(k+1)*3+3) (Ao eP (l.set k l[(k+1)])).length=U by rw[Bn Ax,AqW];simp;omega];refine Ac ?_;refine Aa g ?_;rfl
theorem AgK(a m:Nat)(l:List Pt)(hl:l.length<=1000000000)(hb:m<l.length)(hs:Srt Pt.v l a m):∀(k i j:Nat),j-i=k->a<=i->i<=j->j<=m->(∀ p,a<=p->p<i->kf Pt.v l p<=kf Pt.v l m)->(∀ p,j<=p->p<m->kf Pt.v l m<kf Pt.v l p)->
  ∃ x:Nat,D.ask (.lp 235 2) [.sl 0 0 l.length 3,iv (m:Int),EP,iv (i:Int),iv (j:Int)] [GO l]=Δ (.tup [iv 4,.sl 0 0 l.length 3,iv (m:Int),iv (x:Int)],[.set (GO l)])
   ∧ a<=x/\x<=m/\(∀ p,a<=p->p<x->kf Pt.v l p<=kf Pt.v l m)/\(∀ p,x<=p->p<m->kf Pt.v l m<kf Pt.v l p):=by
 intro k
 induction k using Arz with
 |_ k ih=>
  intro i j hk hmi hij hjb h1 h2
  by_cases he:i<j
  .have hH:(i+j) / 2<l.length:=by omega
   have kh:kf Pt.v l ((i+j) / 2)=l[(i+j) / 2].v:=Ff Pt.v hH;have ka:kf Pt.v l m=l[m].v:=Ff Pt.v hb
   by_cases hlt:l[m].v<l[(i+j) / 2].v
   .obtain⟨x,g,hx⟩:=ih ((i+j) / 2-i) (by omega) i ((i+j) / 2) rfl hmi (by omega) (by omega) h1 (λp p1 p2=>by
     by_cases hp:p=(i+j) / 2
     .rw[hp];omega
     .have:=hs ((i+j) / 2) p (by omega) (by omega) (by omega)
      omega)
    refine⟨x,?_,hx⟩;refine As K Cp (TM ..) ?_;refine Ak ?_;refine Aj ?_ (by decide);rw[C8 (by omega)];rw[Av,AO hb];refine Ac ?_;refine(Bo Ax l m hb _).trans ?_;simp only[eP,eN,ND,DK,Ab];rw[Av,AO hH];refine Ac ?_;refine(Bo Ax l ((i+j) / 2) hH _).trans ?_;simp only[eP,eN,ND,DK,Ab];refine Aa (GP K l[m] l[(i+j) / 2]) ?_;simp only[ND,DK,Ab];refine Ak ?_ (EM.2 hlt);refine Aa g ?_;rfl
   .obtain⟨x,g,hx⟩:=ih (j-((i+j) / 2+1)) (by omega) ((i+j) / 2+1) j rfl (by omega) (by omega) hjb (λp p1 p2=>by
     by_cases hp:p=(i+j) / 2
     .rw[hp];omega
     .have:=hs p ((i+j) / 2) p1 (by omega) (by omega)
      omega) h2
    refine⟨x,?_,hx⟩;refine As K Cp (TM ..) ?_;refine Ak ?_;refine Aj ?_ (by decide);rw[C8 (by omega),BB (by omega)];rw[Av,AO hb];refine Ac ?_;refine(Bo Ax l m hb _).trans ?_;simp only[eP,eN,ND,DK,Ab];rw[Av,AO hH];refine Ac ?_;refine(Bo Ax l ((i+j) / 2) hH _).trans ?_;simp only[eP,eN,ND,DK,Ab];refine Aa (GP K l[m] l[(i+j) / 2]) ?_;simp only[ND,DK,Ab];refine Aj ?_ (λh=>hlt (EM.1 h));refine Aa g ?_;rfl
  .obtain rfl:i=j:=by omega
   refine⟨i,?_,hmi,hjb,h1,h2⟩;refine As K Cp (TM ..) ?_;exact Aj rfl
theorem AgL(m x:Nat)(l0:List Pt):∀(n k:Nat) (l:List Pt),k-x=n->x<=k->k<=m->m<l.length->l.length<=1000000000->l.length=l0.length->Rot l0 l k m (m+1)->
  ∃ r:List Pt,D.ask (.lp 235 3) [.sl 0 0 l.length 3,iv (x:Int),iv (k:Int)] [GO l]=Δ (.tup [iv 6,.sl 0 0 l.length 3],[.set (GO r)])
   ∧ r.length=l.length/\r.Perm l/\Rot l0 r x m (m+1):=by
 intro n
 induction n with
 |zero=>
  intro k l hn hx hk hm hl h0 ht;obtain rfl:x=k:=by omega
  refine⟨l,?_,rfl,List.Perm.refl _,ht⟩;refine As K Cp (Y4 ..) ?_;exact Aj rfl
 |succ n ih=>
  intro k l hn hx hk hm hl h0 ht;obtain⟨j,rfl⟩:∃ j,k=j+1:=⟨k-1,by omega⟩;have hI:j+1<l.length:=by omega
  have hJ:j<l.length:=by omega
  have hlen:=Ih l (j+1) j;obtain⟨r,g,hr,hp,ho⟩:=ih j (CR l (j+1) j) (by omega) (by omega) (by omega) (by omega) (by omega) (by omega) (AaB (by omega) (by omega) h0 ht);rw[hlen]at g hr;refine⟨r,?_,hr,hp.trans (Gp _ _ _),ho⟩;refine As K Cp (Y4 ..) ?_;refine Ak ?_;rw[Ps (by omega)];rw[Av,AO hJ];refine Ac ?_;refine(Bo Ax l j hJ _).trans ?_;simp only[eP,eN,ND,DK,Ab];rw[Av,AO hI];refine Ac ?_;refine(Bo Ax l (j+1) hI _).trans ?_;simp only[eP,eN,ND,DK,Ab];have s1:=Ck Ax l (j+1) hI l[j];have s2:=Ck Ax (l.set (j+1) l[j]) j (by rw[AqW];exact hJ) l[(j+1)];rw[←DG hI hJ]at s2;simp only[eP,eN]at s1 s2;rw[Av,AO hI];refine Ac ?_;rw[show Aqv (0+(j+1)*3+3) (Ao eP l).length=U by rw[Bn Ax];simp;omega];refine Ac ?_;rw[Av,AO hJ];refine Ac ?_;rw[s1,s2];rw[show Aqv (0+j*3+3) (Ao eP (l.set (j+1) l[j])).length=U by rw[Bn Ax,AqW];simp;omega];refine Ac ?_;refine Aa g ?_;rfl
theorem VV(a m b mid x y:Nat)(l:List Pt)(hl:l.length<=1000000000)(hb:b<=l.length)(hs1:Srt Pt.v l a m)(hs2:Srt Pt.v l m b)(hx:a<=x)(hy:y<=m)(hn:mid+m<=x+b)(hm:y<=mid)(hmid:mid<=b)(hmb:m<=b):∀(k s r:Nat),r-s=k->Bs Pt.v l (mid+m) x y s r->
  ∃ z:Nat,D.ask (.lp 235 4) [.sl 0 0 l.length 3,iv (a:Int),iv (m:Int),iv (b:Int),EP,iv (mid:Int),iv ((mid+m:Nat):Int),iv (s:Int),iv (r:Int),iv ((mid+m-1:Nat):Int)] [GO l]=Δ (.tup [iv 8,.sl 0 0 l.length 3,iv (a:Int),iv (m:Int),iv (b:Int),EP,iv (mid:Int),iv ((mid+m:Nat):Int),iv (z:Int)],[.set (GO l)])
   ∧ Bs Pt.v l (mid+m) x y z z:=by
 intro k
 induction k using Arz with
 |_ k ih=>
  intro s r hk B;have:=B.xs;have:=B.sr;have:=B.ry
  by_cases he:s<r
  .have hH:(s+r) / 2<l.length:=by omega
   have hP:mid+m-1-(s+r) / 2<l.length:=by omega
   have kh:kf Pt.v l ((s+r) / 2)=l[(s+r) / 2].v:=Ff Pt.v hH;have kp:kf Pt.v l (mid+m-1-(s+r) / 2)=l[mid+m-1-(s+r) / 2].v:=Ff Pt.v hP
   by_cases hlt:l[mid+m-1-(s+r) / 2].v<l[(s+r) / 2].v
   .obtain⟨z,g,hz⟩:=ih ((s+r) / 2-s) (by omega) s ((s+r) / 2) rfl (B.dn Pt.v hs1 hs2 hx hy (by omega) (by omega) (by omega) (by omega) (by omega))
    refine⟨z,?_,hz⟩;refine As K Cp (TN ..) ?_;refine Ak ?_;refine Aj ?_ (by decide);rw[C8 (by omega),Cc (a:=mid+m-1) (b:=(s+r) / 2) (by omega) (by omega)];rw[Av,AO hP];refine Ac ?_;refine(Bo Ax l (mid+m-1-(s+r) / 2) hP _).trans ?_;simp only[eP,eN,ND,DK,Ab];rw[Av,AO hH];refine Ac ?_;refine(Bo Ax l ((s+r) / 2) hH _).trans ?_;simp only[eP,eN,ND,DK,Ab];refine Aa (GP K l[mid+m-1-(s+r) / 2] l[(s+r) / 2]) ?_;simp only[ND,DK,Ab];refine Ak ?_ (EM.2 hlt);refine Aa g ?_;rfl
   .obtain⟨z,g,hz⟩:=ih (r-((s+r) / 2+1)) (by omega) ((s+r) / 2+1) r rfl (B.up Pt.v hs1 hs2 hx hy (by omega) (by omega) (by omega) (by omega) (by omega))
    refine⟨z,?_,hz⟩;refine As K Cp (TN ..) ?_;refine Ak ?_;refine Aj ?_ (by decide);rw[C8 (by omega),Cc (a:=mid+m-1) (b:=(s+r) / 2) (by omega) (by omega),BB (by omega)];rw[Av,AO hP];refine Ac ?_;refine(Bo Ax l (mid+m-1-(s+r) / 2) hP _).trans ?_;simp only[eP,eN,ND,DK,Ab];rw[Av,AO hH];refine Ac ?_;refine(Bo Ax l ((s+r) / 2) hH _).trans ?_;simp only[eP,eN,ND,DK,Ab];refine Aa (GP K l[mid+m-1-(s+r) / 2] l[(s+r) / 2]) ?_;simp only[ND,DK,Ab];refine Aj ?_ (λh=>hlt (EM.1 h));refine Aa g ?_;rfl
  .obtain rfl:s=r:=by omega
   refine⟨s,?_,B⟩;refine As K Cp (TN ..) ?_;exact Aj rfl
end
def tl2(D:Orc)(n:Nat)(mid e b:Int)(cs:List AV):KR:=
 br (Ah.lt mid e)
  (br (Ah.lt e b)
   (AG D (.fn 235) [.sl 0 0 n 3,iv mid,iv e,iv b,EP] [Ω cs U U] λr o=>
   J5 r λcs4=>
   Ea cs4<|
   Eb o λc l=>
   FN U U c λcs5=>
   CD l<|
   Δ ((Aqm [],[Aqu (Ω cs5 U U)])))
   (Δ ((Aqm [],[Aqu (Ω cs U U)]))))
  (Δ ((Aqm [],[Aqu (Ω cs U U)])))
def tl1(D:Orc)(n:Nat)(a s mid e b:Int)(cs:List AV):KR:=
 br (Ah.lt a s)
  (br (Ah.lt s mid)
   (AG D (.fn 235) [.sl 0 0 n 3,iv a,iv s,iv mid,EP] [Ω cs U U] λr o=>
   J5 r λcs4=>
   Ea cs4<|
   Eb o λc l=>
   FN U U c λcs5=>
   CD l<|
   tl2 D n mid e b cs5)
   (tl2 D n mid e b cs))
  (tl2 D n mid e b cs)
section
variable {D:Orc}
def L8(D:Orc)(N:Nat):Prop:=∀(l:List Pt) (a m b:Nat),b-a<N->a<m->m<b->b<=l.length->l.length<=1000000000->Srt Pt.v l a m->Srt Pt.v l m b->
 ∃ r:List Pt,D.ask (.fn 235) [.sl 0 0 l.length 3,iv (a:Int),iv (m:Int),iv (b:Int),EP] [GO l]=Δ (.tup [],[.set (GO r)])
  ∧ r.length=l.length/\r.Perm l/\Srt Pt.v r a b/\Same0 l r a b
theorem Ak5{N:Nat}(ih:L8 D N){l:List Pt}{mid e b:Nat}(hN:b-mid<N)(h1:mid<=e)(h2:e<=b)(hb:b<=l.length)(hl:l.length<=1000000000)(s1:Srt Pt.v l mid e)(s2:Srt Pt.v l e b) :
  ∃ r:List Pt,tl2 D l.length (mid:Int) (e:Int) (b:Int) (Ao eP l)=Δ (.tup [],[.set (GO r)])/\r.length=l.length/\r.Perm l/\Srt Pt.v r mid b/\Same0 l r mid b:=by
 by_cases q1:mid<e
 .by_cases q2:e<b
  .obtain⟨r,g,hr,hp,ho,hs⟩:=ih l mid e b hN q1 q2 hb hl s1 s2
   refine⟨r,?_,hr,hp,ho,hs⟩;unfold tl2;refine Ak ?_;refine Ak ?_;refine Aa g ?_;rfl
  .refine⟨l,?_,rfl,List.Perm.refl _,JX Pt.v (.inr (by omega)) s1 s2,CQ _ _ _⟩
   unfold tl2;refine Ak ?_;exact Aj rfl
 .refine⟨l,?_,rfl,List.Perm.refl _,JX Pt.v (.inl (by omega)) s1 s2,CQ _ _ _⟩
  unfold tl2;exact Aj rfl
theorem K4{N:Nat}(ih:L8 D N){l:List Pt}{a s mid e b:Nat}(hN:mid-a<N)(hN2:b-mid<N)(h1:a<=s)(h2:s<=mid)(h3:mid<=e)(h4:e<=b)(hb:b<=l.length)(hl:l.length<=1000000000)(s1:Srt Pt.v l a s)(s2:Srt Pt.v l s mid)(s3:Srt Pt.v l mid e)(s4:Srt Pt.v l e b)(lo:Low Pt.v l a mid b) :
  ∃ r:List Pt,tl1 D l.length (a:Int) (s:Int) (mid:Int) (e:Int) (b:Int) (Ao eP l)=Δ (.tup [],[.set (GO r)])/\r.length=l.length/\r.Perm l/\Srt Pt.v r a b/\Same0 l r a b:=by
 have fin:∀{l1:List Pt},l1.length=l.length->l1.Perm l->Srt Pt.v l1 a mid->Same0 l l1 a mid->∃ r:List Pt,tl2 D l.length (mid:Int) (e:Int) (b:Int) (Ao eP l1)=Δ (.tup [],[.set (GO r)])/\r.length=l.length/\r.Perm l/\Srt Pt.v r a b/\Same0 l r a b:=by
  intro l1 k1 k2 k3 k4;have lo1:=Z0 Pt.v lo k2 k4 (by omega);obtain⟨r,g,hr,hp,ho,hs⟩:=Ak5 ih (l:=l1) (mid:=mid) (e:=e) (b:=b) hN2 h3 h4 (by omega) (by omega) (s3.same' Pt.v k4 (.inr (ω _))) (s4.same' Pt.v k4 (.inr h3));rw[k1]at g hr;exact⟨r,g,hr,hp.trans k2,AgB Pt.v (k3.same' Pt.v hs (.inl (ω _))) ho (WX Pt.v lo1 hp hs (by omega)),(k4.wide (ω _) (by omega)).trans (hs.wide (by omega) (ω _))⟩
 by_cases q1:a<s
 .by_cases q2:s<mid
  .obtain⟨r,g,hr,hp,ho,hs⟩:=ih l a s mid hN q1 q2 (by omega) hl s1 s2
   obtain⟨r2,g2,h⟩:=fin hr hp ho hs;refine⟨r2,?_,h⟩;unfold tl1;refine Ak ?_;refine Ak ?_;refine Aa g ?_;exact g2
  .obtain⟨r2,g2,h⟩:=fin (l1:=l) rfl (List.Perm.refl _) (JX Pt.v (.inr (by omega)) s1 s2) (CQ _ _ _)
   refine⟨r2,?_,h⟩;unfold tl1;refine Ak ?_;exact(E8 (by omega)).trans g2
 .obtain⟨r2,g2,h⟩:=fin (l1:=l) rfl (List.Perm.refl _) (JX Pt.v (.inl (by omega)) s1 s2) (CQ _ _ _)
  refine⟨r2,?_,h⟩;unfold tl1;exact(E8 (by omega)).trans g2
variable (K:Knows Al Hp D)
include K
theorem AgH:∀ N,L8 D N:=by
 intro N
 induction N with
 |zero=>intro l a m b h;omega
 |succ N ih0=>
  intro l a m b hN ha hm hb hl hs1 hs2
  by_cases hA:m-a=1
  .obtain rfl:m=a+1:=by omega
   obtain⟨x,g1,x1,x2,x3,x4⟩:=AgI K a (a+1) b l hl (by omega) hb hs2 _ (a+1) b rfl (ω _) (by omega) (ω _) (λp p1 p2=>by omega) (λp p1 p2=>by omega);obtain⟨r,g2,r1,r2,r3⟩:=AgJ K a x l _ a l rfl (ω _) (by omega) (by omega) hl rfl (FJ (.inr rfl) (by omega) (by omega));refine⟨r,?_,r1,r2,Sv Pt.v x1 x2 hs2 x3 x4 r3,λp hp=>r3.out p (by omega)⟩;refine Aw K Cp (RB ..) ?_;rw[Cc (a:=a+1) (b:=a) (by omega) (by omega)];refine Bk ?_;refine Aa g1 ?_;simp only[EP,ND,DK,Ab];refine Aa g2 ?_;rfl
  by_cases hB:b-m=1
  .obtain rfl:b=m+1:=by omega
   obtain⟨x,g1,x1,x2,x3,x4⟩:=AgK K a m l hl (by omega) hs1 _ a m rfl (ω _) (by omega) (ω _) (λp p1 p2=>by omega) (λp p1 p2=>by omega);obtain⟨r,g2,r1,r2,r3⟩:=AgL K m x l _ m l rfl x2 (ω _) (by omega) hl rfl (FJ (.inl rfl) (by omega) (by omega));refine⟨r,?_,r1,r2,Um Pt.v x1 x2 hs1 x3 x4 r3,λp hp=>r3.out p (by omega)⟩;refine Aw K Cp (RB ..) ?_;rw[Cc (a:=m) (b:=a) (by omega) (by omega)];refine AC ?_;rw[Cc (a:=m+1) (b:=m) (by omega) (by omega)];refine Bk ?_;refine Aa g1 ?_;simp only[EP,ND,DK,Ab];refine Ac ?_;refine Aa g2 ?_;rfl
  have ih:L8 D N:=ih0
  by_cases hC:(a+b) / 2<m
  .obtain⟨z,g4,B⟩:=VV K a m b ((a+b) / 2) ((a+b) / 2+m-b) ((a+b) / 2) l hl hb hs1 hs2 (by omega) (by omega) (by omega) (by omega) (by omega) (by omega) _ ((a+b) / 2+m-b) ((a+b) / 2) rfl ⟨ω _,by omega,ω _,λc c1 c2=>by omega,λc c1 c2=>by omega⟩
   have C:=B.cut Pt.v hs1 hs2 (by omega) (by omega) (by omega) (by omega) (.inr (by omega)) (.inr rfl);have:=C.asl;have:=C.sm;have:=C.me;have:=C.eb;have:=C.mid;have:=B.ry;have:=B.xs;have e0:Ah.sub .i64 (((a+b) / 2+m:Nat):Int) (z:Int)=(((a+b) / 2+m-z:Nat):Int):=Cc (by omega) (by omega)
   by_cases w1:z<m
   .by_cases w2:m<(a+b) / 2+m-z
    .obtain⟨l1,g5,k1,k2,k3⟩:=AaD K w1 w2 (by omega) hl
     obtain⟨f1,f2,f3,f4,f5⟩:=Ek Pt.v C hs1 hs2 k3;obtain⟨r,g6,r1,r2,r3,r4⟩:=K4 ih (l:=l1) (a:=a) (s:=z) (mid:=(a+b) / 2) (e:=(a+b) / 2+m-z) (b:=b) (by omega) (by omega) (by omega) (by omega) (by omega) (by omega) (by omega) (by omega) f1 f2 f3 f4 f5;have sm:Same0 l l1 a b:=λp hp=>k3.out p (by omega)
     rw[k1]at g6 r1;refine⟨r,?_,r1,r2.trans k2,r3,sm.trans r4⟩;refine Aw K Cp (RB ..) ?_;rw[Cc (a:=m) (b:=a) (by omega) (by omega)];refine AC ?_;rw[Cc (a:=b) (b:=m) (by omega) (by omega)];refine AC ?_;refine Aj ?_ (by decide);rw[C8 (a:=a) (b:=b) (by omega)];rw[Jg (a:=(a+b) / 2) (b:=m) (by omega),Ho (a:=(a+b) / 2+m) (by omega) (by omega)];rw[Cc (a:=(a+b) / 2+m) (b:=b) (by omega) (by omega)];refine Ak ?_;refine Aa g4 ?_;simp only[EP,ND,DK,Ab];refine Ac ?_;rw[e0];refine Ak ?_;refine Ak ?_;refine Aa g5 ?_;exact g6
    .obtain⟨f1,f2,f3,f4,f5⟩:=Ek Pt.v C hs1 hs2 (FJ (l:=l) (.inr (by omega)) (by omega) (by omega))
     obtain⟨r,g6,r1,r2,r3,r4⟩:=K4 ih (l:=l) (a:=a) (s:=z) (mid:=(a+b) / 2) (e:=(a+b) / 2+m-z) (b:=b) (by omega) (by omega) (by omega) (by omega) (by omega) (by omega) (by omega) (by omega) f1 f2 f3 f4 f5;refine⟨r,?_,r1,r2,r3,r4⟩;refine Aw K Cp (RB ..) ?_;rw[Cc (a:=m) (b:=a) (by omega) (by omega)];refine AC ?_;rw[Cc (a:=b) (b:=m) (by omega) (by omega)];refine AC ?_;refine Aj ?_ (by decide);rw[C8 (a:=a) (b:=b) (by omega)];rw[Jg (a:=(a+b) / 2) (b:=m) (by omega),Ho (a:=(a+b) / 2+m) (by omega) (by omega)];rw[Cc (a:=(a+b) / 2+m) (b:=b) (by omega) (by omega)];refine Ak ?_;refine Aa g4 ?_;simp only[EP,ND,DK,Ab];refine Ac ?_;rw[e0];refine Ak ?_;refine Aj ?_;exact g6
   .obtain⟨f1,f2,f3,f4,f5⟩:=Ek Pt.v C hs1 hs2 (FJ (l:=l) (.inl (by omega)) (by omega) (by omega))
    obtain⟨r,g6,r1,r2,r3,r4⟩:=K4 ih (l:=l) (a:=a) (s:=z) (mid:=(a+b) / 2) (e:=(a+b) / 2+m-z) (b:=b) (by omega) (by omega) (by omega) (by omega) (by omega) (by omega) (by omega) (by omega) f1 f2 f3 f4 f5;refine⟨r,?_,r1,r2,r3,r4⟩;refine Aw K Cp (RB ..) ?_;rw[Cc (a:=m) (b:=a) (by omega) (by omega)];refine AC ?_;rw[Cc (a:=b) (b:=m) (by omega) (by omega)];refine AC ?_;refine Aj ?_ (by decide);rw[C8 (a:=a) (b:=b) (by omega)];rw[Jg (a:=(a+b) / 2) (b:=m) (by omega),Ho (a:=(a+b) / 2+m) (by omega) (by omega)];rw[Cc (a:=(a+b) / 2+m) (b:=b) (by omega) (by omega)];refine Ak ?_;refine Aa g4 ?_;simp only[EP,ND,DK,Ab];refine Ac ?_;rw[e0];refine Aj ?_;exact g6
  .obtain⟨z,g4,B⟩:=VV K a m b ((a+b) / 2) a m l hl hb hs1 hs2 (by omega) (by omega) (by omega) (by omega) (by omega) (by omega) _ a m rfl ⟨ω _,by omega,ω _,λc c1 c2=>by omega,λc c1 c2=>by omega⟩
   have C:=B.cut Pt.v hs1 hs2 (by omega) (by omega) (by omega) (by omega) (.inl rfl) (.inl rfl);have:=C.asl;have:=C.sm;have:=C.me;have:=C.eb;have:=C.mid;have:=B.ry;have:=B.xs;have e0:Ah.sub .i64 (((a+b) / 2+m:Nat):Int) (z:Int)=(((a+b) / 2+m-z:Nat):Int):=Cc (by omega) (by omega)
   by_cases w1:z<m
   .by_cases w2:m<(a+b) / 2+m-z
    .obtain⟨l1,g5,k1,k2,k3⟩:=AaD K w1 w2 (by omega) hl
     obtain⟨f1,f2,f3,f4,f5⟩:=Ek Pt.v C hs1 hs2 k3;obtain⟨r,g6,r1,r2,r3,r4⟩:=K4 ih (l:=l1) (a:=a) (s:=z) (mid:=(a+b) / 2) (e:=(a+b) / 2+m-z) (b:=b) (by omega) (by omega) (by omega) (by omega) (by omega) (by omega) (by omega) (by omega) f1 f2 f3 f4 f5;have sm:Same0 l l1 a b:=λp hp=>k3.out p (by omega)
     rw[k1]at g6 r1;refine⟨r,?_,r1,r2.trans k2,r3,sm.trans r4⟩;refine Aw K Cp (RB ..) ?_;rw[Cc (a:=m) (b:=a) (by omega) (by omega)];refine AC ?_;rw[Cc (a:=b) (b:=m) (by omega) (by omega)];refine AC ?_;refine Aj ?_ (by decide);rw[C8 (a:=a) (b:=b) (by omega)];rw[Jg (a:=(a+b) / 2) (b:=m) (by omega),Ho (a:=(a+b) / 2+m) (by omega) (by omega)];refine Aj ?_;refine Aa g4 ?_;simp only[EP,ND,DK,Ab];refine Ac ?_;rw[e0];refine Ak ?_;refine Ak ?_;refine Aa g5 ?_;exact g6
    .obtain⟨f1,f2,f3,f4,f5⟩:=Ek Pt.v C hs1 hs2 (FJ (l:=l) (.inr (by omega)) (by omega) (by omega))
     obtain⟨r,g6,r1,r2,r3,r4⟩:=K4 ih (l:=l) (a:=a) (s:=z) (mid:=(a+b) / 2) (e:=(a+b) / 2+m-z) (b:=b) (by omega) (by omega) (by omega) (by omega) (by omega) (by omega) (by omega) (by omega) f1 f2 f3 f4 f5;refine⟨r,?_,r1,r2,r3,r4⟩;refine Aw K Cp (RB ..) ?_;rw[Cc (a:=m) (b:=a) (by omega) (by omega)];refine AC ?_;rw[Cc (a:=b) (b:=m) (by omega) (by omega)];refine AC ?_;refine Aj ?_ (by decide);rw[C8 (a:=a) (b:=b) (by omega)];rw[Jg (a:=(a+b) / 2) (b:=m) (by omega),Ho (a:=(a+b) / 2+m) (by omega) (by omega)];refine Aj ?_;refine Aa g4 ?_;simp only[EP,ND,DK,Ab];refine Ac ?_;rw[e0];refine Ak ?_;refine Aj ?_;exact g6
   .obtain⟨f1,f2,f3,f4,f5⟩:=Ek Pt.v C hs1 hs2 (FJ (l:=l) (.inl (by omega)) (by omega) (by omega))
    obtain⟨r,g6,r1,r2,r3,r4⟩:=K4 ih (l:=l) (a:=a) (s:=z) (mid:=(a+b) / 2) (e:=(a+b) / 2+m-z) (b:=b) (by omega) (by omega) (by omega) (by omega) (by omega) (by omega) (by omega) (by omega) f1 f2 f3 f4 f5;refine⟨r,?_,r1,r2,r3,r4⟩;refine Aw K Cp (RB ..) ?_;rw[Cc (a:=m) (b:=a) (by omega) (by omega)];refine AC ?_;rw[Cc (a:=b) (b:=m) (by omega) (by omega)];refine AC ?_;refine Aj ?_ (by decide);rw[C8 (a:=a) (b:=b) (by omega)];rw[Jg (a:=(a+b) / 2) (b:=m) (by omega),Ho (a:=(a+b) / 2+m) (by omega) (by omega)];refine Aj ?_;refine Aa g4 ?_;simp only[EP,ND,DK,Ab];refine Ac ?_;rw[e0];refine Aj ?_;exact g6
theorem WZ:Ms D:=λl a m b h1 h2 h3 h4 h5 h6=>AgH K (b-a+1) l a m b (by omega) h1 h2 h3 h4 h5 h6
theorem Aa1{l:List Pt}(hl:l.length<=1000000000) :
  ∃ r:List Pt,D.ask (.fn 136) [.sl 0 0 l.length 3,EP] [GO l]=Δ (.tup [],[.set (GO r)])
   ∧ r.length=l.length/\r.Perm l/\Srt Pt.v r 0 r.length:=AgA K (WZ K) hl
end
section
open Go.RowKit
def Aia:MFn:=Au [] 138
def Ahz:Hnt:=⟨[(145,(.agg Bb,[]))],[],[(4,[.bool]),(6,[.ls])]⟩
def AcG:MFn:=Au [⟨74,(mB 917524),[(1000004,3)],[2,17],[(1,((mB 20),([],[])))]⟩] 62
def ZA:Hnt:=⟨[(135,(.sl 0 3,[.row U])),(136,(.tup [],[.row U])),(138,(.agg Bb,[])),(139,(.agg Bb,[])),(140,(.sl 0 3,[.row U]))],[(0,[(1,([.ptr 0 0,.ptr 1 0],[.box CH,.box [.sl 3 3,.bool,.ls],.del,.row U]))])],[(9,[.ls]),(14,Bb),(21,BC),(22,BC),(24,[.int .i64]),(27,[.ls]),(34,[.ls]),(36,BC),(38,[.int .i64]),(40,[.int .i64]),(44,[.ls]),(47,[.ls]),(49,BC),(51,Bb),(53,Bb),(55,BC),(58,[.ls]),(60,[.int .i64]),(62,Bb),(70,[.ls]),(73,CH)]⟩
def LN:List (Nat × MFn):=[(138,Aia),(62,AcG)]
variable (A:Ar) (D:Orc)
theorem AnN(x0_0:Bool)(x0_1:Rw):BZ A D Al Ahz .n 138 Aia [ψ [bv x0_0,Φ x0_1]] [] =
 Ad D (φ 145) [bv x0_0,Φ x0_1] [] [.a,.B,.L,.N,.E] λb xs=>
 Δ ((ψ [bv b,Φ xs],[])):=by kernel_rfl
theorem e62(x0_0:Rw)(x0_1:Bool)(x0_2:Rw):BZ A D Al ZA .n 62 AcG [ψ [Φ x0_0,bv x0_1,Φ x0_2]] [] =
 Ad D (φ 135) [Φ x0_0] [] [.q 0 3,.R,.X,.E] λn cs=>
 Ad D (φ 136) [κ 0 0 n 3,Aqx (Fn.func 137) [] []] [Ω cs U U] [.t,.N,.R,.X,.E] λcs2=>
 Ad D (φ 138) [ψ [bv x0_1,Φ x0_2]] [] [.a,.B,.L,.N,.E] λb xs=>
 br ((0+n*3).ble cs2.length) (AG D (Aqn 62 0) [υ 0 0,υ 1 0,Φ (Bl n 3 (Aqj (n*3) cs2)),iv ↑n,iv 0] [bk [Φ [],bv Ξ,Φ []],bk [κ 2 0 0 3,bv b,Φ xs],Ω [] U U] λr3 o3=>
 dk [.t,.C,.x,.X] [.v r3] λc2 l4=>
 br (Bf 1 c2)
 (dk [.P 0 0,.P 1 0,.N,.T,.L,.B,.L,.N,.T,.C,.q 3 3,.B,.L,.N,.D,.R,.X,.E] [.l l4,.o o3] λ_ _ _ n1 b2 xs3 cs7=>
 Ad D (φ 140) [κ 0 0 n1 3,Aqx (Fn.func 141) [] []] [Ω cs7 U U] [.q 0 3,.R,.X,.E] λn2 cs8=>
 br ((0+n2*3).ble cs8.length) (Δ ((ψ [Φ (Bl n2 3 (Aqj (n2*3) cs8)),bv b2,Φ xs3],[]))) Θ)
 (Θ)) Θ:=by kernel_rfl
theorem Ahd(r0:Rw)(r1:Bool)(r2:Rw)(n4:Nat)(k1:Bool)(k2:Rw)(c4:List AV)(t17:Rw)(t18 t19:Int):Dl A D Al ZA .n 62 0 (AL AcG 0).fst (AL AcG 0).snd [υ 0 0,υ 1 0,Φ t17,iv t18,iv t19] [bk [Φ r0,bv r1,Φ r2],bk [κ 2 0 n4 3,bv k1,Φ k2],{ cells:=c4,st:=U,ex:=U }] =
 br (A.lt t19 t18)
 (unI t19 λi=>
 Bh t17 i λcs=>
 dk [.I,.B,.L,.N] [.l cs] λn b xs=>
 br (A.lt n 0)
 (AG D (Aqn 62 0) [υ 0 0,υ 1 0,Φ t17,iv t18,iv (A.add δ t19 1)] [bk [Φ r0,bv r1,Φ r2],bk [κ 2 0 n4 3,bv k1,Φ k2],Ω c4 U U] λr o=>
 AF 3 [0,1,2] (AH.mk [(0,bk [Φ r0,bv r1,Φ r2]),(3,bk [iv n,bv b,Φ xs]),(1,bk [κ 2 0 n4 3,bv k1,Φ k2]),(2,Ω c4 U U)] 4 Θ) [0] r o)
 (br (A.le 0 (A.sub δ (↑n4) 1))
 (unI (A.sub δ (↑n4) 1) λi1=>
 br (i1.blt n4) (Io c4 (0+i1*3+0) 1 λcs1=>
 dk [.I,.N] [.l cs1] λn1=>
 br (A.eq n1 n)
 (unI (A.sub δ (↑n4) 1) λi2=>
 br (i2.blt n4) (Io c4 (0+i2*3+1) 2 λcs2=>
 dk [.B,.L,.N] [.l cs2] λb1 xs1=>
 Ad D (φ 139) [ψ [bv b1,Φ xs1],ψ [bv b,Φ xs]] [] [.a,.B,.L,.N,.E] λb2 xs2=>
 unI (A.sub δ (↑n4) 1) λi3=>
 br (i3.blt n4) (br ((0+i3*3+1+2).ble c4.length) (AG D (Aqn 62 0) [υ 0 0,υ 1 0,Φ t17,iv t18,iv (A.add δ t19 1)] [bk [Φ r0,bv r1,Φ r2],bk [κ 2 0 n4 3,bv k1,Φ k2],Ω (AI c4 (0+i3*3+1) [bv b2,Φ xs2]) U U] λr3 o1=>
 AF 3 [0,1,2] (AH.mk [(0,bk [Φ r0,bv r1,Φ r2]),(2,Ω (AI c4 (0+i3*3+1) [bv b2,Φ xs2]) U U),(3,bk [iv n,bv b,Φ xs]),(1,bk [κ 2 0 n4 3,bv k1,Φ k2])] 4 Θ) [2,0] r3 o1) Θ) Θ) Θ)
 (Ad D (φ 138) [ψ [bv b,Φ xs]] [] [.a,.B,.L,.N,.E] λb1 xs1=>
 br (Bc (n4+1) 40) (br ((0+n4*3).ble c4.length) (AG D (Aqn 62 0) [υ 0 0,υ 1 0,Φ t17,iv t18,iv (A.add δ t19 1)] [bk [Φ r0,bv r1,Φ r2],bk [κ 2 0 (n4+1) 3,bv k1,Φ k2],Ω (Aqp 0 (Aqj (0+n4*3) c4)++[iv n,bv b1,Φ xs1]) U U] λr3 o1=>
 AF 3 [0,1,5] (AH.mk [(0,bk [Φ r0,bv r1,Φ r2]),(1,bk [κ 5 0 (n4+1) 3,bv k1,Φ k2]),(5,Ω (Aqp 0 (Aqj (0+n4*3) c4)++[iv n,bv b1,Φ xs1]) U U),(4,Ω [iv n,bv b1,Φ xs1] U U),(3,bk [iv n,bv b,Φ xs])] 6 Θ) [2,1,0] r3 o1) Θ) Θ)) Θ)
 (Ad D (φ 138) [ψ [bv b,Φ xs]] [] [.a,.B,.L,.N,.E] λb1 xs1=>
 br (Bc (n4+1) 40) (br ((0+n4*3).ble c4.length) (AG D (Aqn 62 0) [υ 0 0,υ 1 0,Φ t17,iv t18,iv (A.add δ t19 1)] [bk [Φ r0,bv r1,Φ r2],bk [κ 2 0 (n4+1) 3,bv k1,Φ k2],Ω (Aqp 0 (Aqj (0+n4*3) c4)++[iv n,bv b1,Φ xs1]) U U] λr3 o1=>
 AF 3 [0,1,5] (AH.mk [(0,bk [Φ r0,bv r1,Φ r2]),(1,bk [κ 5 0 (n4+1) 3,bv k1,Φ k2]),(5,Ω (Aqp 0 (Aqj (0+n4*3) c4)++[iv n,bv b1,Φ xs1]) U U),(4,Ω [iv n,bv b1,Φ xs1] U U),(3,bk [iv n,bv b,Φ xs])] 6 Θ) [2,1,0] r3 o1) Θ) Θ)))
 (Δ ((Aqm [iv 0,υ 0 0,υ 1 0],[Aqu (bk [Φ r0,bv r1,Φ r2]),Aqu (bk [κ 3 0 n4 3,bv k1,Φ k2]),BO.del,Aqu (Ω c4 U U)]))):=by kernel_rfl
end
structure PartF (D:Orc):Prop where
 clone:∀ l:List Pt,l.length<=1000000000->D.ask (.fn 135) [.ls (l.map eP)] []=Δ (.sl 0 0 l.length 3,[.set (GO l)])
 grow:∀ n:Nat,n<=1000000000->D.ask (.fn 262) [.v (.slice Θ 0 0),iv (n:Int)] []=Δ (.sl 0 0 0 3,[.set (GO [])])
section
variable (o:List Pt) (x:Pt)
theorem AmX(k:List AV->KR):Io (Ao eP (o++[x])) (0+o.length*3+0) 1 k=k [iv x.v]:=by
 have hl:=Bn Ax o;rw[←Bj];unfold Io;rw[show Aqv (0+o.length*3+0+1) (Ao eP o++eP x).length=U by rw[χ,hl,Ax];simp<;>omega]
 show k (((Ao eP o++eP x).drop (0+o.length*3+0)).take 1)=_
 rw[List.drop_left' (by omega)];rfl
theorem AoT(k:List AV->KR):Io (Ao eP (o++[x])) (0+o.length*3+1) 2 k=k [bv x.z.neg,eN x.z.abs]:=by
 have hl:=Bn Ax o;rw[←Bj];unfold Io;rw[show Aqv (0+o.length*3+1+2) (Ao eP o++eP x).length=U by rw[χ,hl,Ax];simp]
 show k (((Ao eP o++eP x).drop (0+o.length*3+1)).take 2)=_
 rw[List.drop_append,AsZ (by omega),show 0+o.length*3+1-(Ao eP o).length=1 by omega];rfl
theorem AoZ(z:Zi):AI (Ao eP (o++[x])) (0+o.length*3+1) [bv z.neg,eN z.abs]=Ao eP (o++[⟨x.v,z⟩]):=by
 have hl:=Bn Ax o;rw[←Bj,←Bj];unfold AI;rw[List.take_append,List.take_of_length_le (by omega),show 0+o.length*3+1-(Ao eP o).length=1 by omega,AsZ (by rw[χ,Ax,hl];simp),Aro,AqM];rfl
end
section
variable {D:Orc} (Kt:Knows Al LN D) (Ks:Knows Al Hp D) (Z:ZF D) (C:PartF D)
include Z
include Kt in
theorem Eu{z:Zi}(hz:Lz 1000000000 z):D.ask (.fn 138) [.agg (eZ z)] []=Δ (.agg (eZ (A1 (zv z))),[]):=by
 refine Aw Kt Ahz (AnN ..) ?_;refine Aa (Z.frm z hz) ?_;rfl
include Ks in
theorem WP{p:Pt}(hz:Lz 1000000000 p.z):D.ask (.fn 141) [.agg (eP p)] []=Δ (bv (decide (zv p.z=0)),[]):=by
 have g:=Z.sign p.z hz;refine Aw Ks AhB (AnP ..) ?_;refine Aa g ?_;simp only[ND,DK,Ab]
 by_cases h:zv p.z=0
 .rw[decide_eq_true h,h]
  exact Dq rfl
 .rw[decide_eq_false h]
  refine Cn ?_;unfold Cy;split
  .omega
  .split
   .omega
   .omega
include Kt in
theorem Aak{k:Nat}(ps:List Pt)(hl:ps.length<=1000000)(hk:k+ps.length<=900000000)(hz:∀ p∈ps,Lz k p.z)(r0:List (List AV))(r1:Bool)(r2:List (List AV))(k1:Bool)(k2:List (List AV)):∀(m i:Nat) (s:List (Int × Int)),ps.length-i=m->i<=ps.length->s.length<=i->(∀ q∈s,InB (k+i) q.2)->
  D.ask (.lp 62 0) [.ptr 0 0,.ptr 1 0,.ls (ps.map eP),iv (ps.length:Int),iv (i:Int)] [⟨[.ls r0,bv r1,.ls r2],U,Ξ⟩,⟨[.sl 2 0 (s.map BR).reverse.length 3,bv k1,.ls k2],U,Ξ⟩,GO (s.map BR).reverse]
   = Δ (.tup [iv 0,.ptr 0 0,.ptr 1 0],[.set ⟨[.ls r0,bv r1,.ls r2],U,Ξ⟩,.set ⟨[.sl 3 0 ((((ps.drop i).map pv).foldl Fb s).map BR).reverse.length 3,bv k1,.ls k2],U,Ξ⟩,.del,.set (GO ((((ps.drop i).map pv).foldl Fb s).map BR).reverse)]):=by
 intro m
 induction m with
 |zero=>
  intro i s hm hi hs hb;rw[Aqq (by omega),Are,List.foldl_nil];refine As Kt ZA (Ahd ..) ?_;exact Aj rfl
 |succ m ih0=>
  intro i s hm hi hs hb;have h1:i<ps.length:=by omega
  have hzk:=hz ps[i] (Aqz h1);have hzi:=hzk.mono (show k<=1000000000 by omega);rw[π h1,AqF,AsA];have ih:=ih0 (i+1) (Fb s (pv ps[i])) (by omega) (by omega) (by have:=RU s (pv ps[i]);omega) (RS hb (hzk.inb.mono (show k<=k+i by omega)));refine As Kt ZA (Ahd ..) ?_;refine Ak ?_;rw[Av,At (θ h1)];simp only[eP,eN,ND,DK,Ab];generalize hS:((ps.drop (i+1)).map pv).foldl Fb (Fb s (pv ps[i]))=S at ih ⊢
  by_cases hneg:ps[i].v<0
  .have e:Fb s (pv ps[i])=s:=by
    have hn:(pv ps[i]).1<0:=hneg
    cases s with
    |nil=>rw[Fr,if_pos hn]
    |cons q r=>rw[El,if_pos hn]
   rw[e]at ih;refine Ak ?_ hneg;rw[BB (by omega)];refine Aa ih ?_;rfl
  have hn:¬(pv ps[i]).1<0:=hneg;refine Aj ?_ hneg
  cases s with
  |nil=>
   rw[Fr,if_neg hn]at ih;refine C2 ?_ (by decide);obtain⟨o,ho0⟩:∃ o:List Pt,o=[]:=⟨_,rfl⟩;have eo:(([pv ps[i]].map BR).reverse)=o++[BR (pv ps[i])]:=by rw[ho0];rfl
   rw[eo]at ih;have ho:o.length<=i:=by rw[ho0];exact Nat.zero_le _
   rw[show ((([]:List (Int × Int)).map BR).reverse)=o from ho0.symm];have hf:Bc (o.length+1) 40=U:=AS (by omega) (by omega);have hb1:Aqv (0+o.length*3) (Ao eP o).length=U:=AU Ax o (by omega);have e3:Aqp 0 (Aqj (0+o.length*3) (Ao eP o))++[iv ps[i].v,bv (A1 (zv ps[i].z)).neg,eN (A1 (zv ps[i].z)).abs]=Ao eP (o++[BR (pv ps[i])]):=by
    rw[Aqk,Bm Ax o (by omega)];exact Bj eP o (BR (pv ps[i]))
   refine Aa (Eu Kt Z hzi) ?_;simp only[eZ,eN,ND,DK,Ab]at e3 ⊢;rw[hf];refine Ac ?_;rw[hb1];refine Ac ?_;rw[e3,BB (by omega)];rw[χ,Arb]at ih;refine Aa ih ?_;rfl
  |cons q r=>
   have eo:(((q::r).map BR).reverse)=(r.map BR).reverse++[BR q]:=by simp
   have hq:=hb q (Aqs ..);rw[eo];rw[El,if_neg hn]at ih;have hro:(r.map BR).reverse.length<=i:=by simp at hs ⊢;omega
   by_cases heq:q.1=(pv ps[i]).1
   .rw[if_pos heq,AqF,Atj]at ih
    generalize (r.map BR).reverse=o at hro ih ⊢;have e1:Ah.sub .i64 (((o++[BR q]).length:Nat):Int) 1=((o.length:Nat):Int):=by
     rw[χ,Arb];exact Ps (by omega)
    have hlt:o.length<(o++[BR q]).length:=by simp
    have ga:=Z.add (A1 q.2) ps[i].z (hq.lz.mono (by omega)) (hzk.mono (by omega));rw[Cb]at ga;have sp:=AoZ o (BR q) (A1 (q.2+zv ps[i].z));rw[e1];refine Cx ?_;rw[Av,AO hlt];refine Ac ?_;refine(AmX o (BR q) _).trans ?_;simp only[ND,DK,Ab];refine Bk ?_ (show (BR q).v=ps[i].v from heq);rw[Av,AO hlt];refine Ac ?_;refine(AoT o (BR q) _).trans ?_;simp only[eN,ND,DK,Ab];refine Aa ga ?_;simp only[eZ,eN,ND,DK,Ab]at sp ⊢;rw[Av,AO hlt];refine Ac ?_;rw[show Aqv (0+o.length*3+1+2) (Ao eP (o++[BR q])).length=U by rw[Bn Ax];simp;omega];refine Ac ?_;rw[sp,BB (by omega)];have el:(o++[BR q]).length=(o++[BR (q.1,q.2+(pv ps[i]).2)]).length:=by simp
    rw[el];refine Aa ih ?_;rfl
   .rw[if_neg heq,AqF,Atj,eo]at ih
    have hlen:((r.map BR).reverse++[BR q]).length<=i:=by simp at hs ⊢;omega
    have e1:Ah.sub .i64 ((((r.map BR).reverse++[BR q]).length:Nat):Int) 1=(((r.map BR).reverse.length:Nat):Int):=by
     rw[χ,Arb];exact Ps (by omega)
    have hlt:(r.map BR).reverse.length<((r.map BR).reverse++[BR q]).length:=by simp
    rw[e1];refine Cx ?_;rw[Av,AO hlt];refine Ac ?_;refine(AmX _ (BR q) _).trans ?_;simp only[ND,DK,Ab];refine AC ?_ (show ¬(BR q).v=ps[i].v from heq);generalize (r.map BR).reverse++[BR q]=o at hlen ih ⊢;have ho:=hlen;have hf:Bc (o.length+1) 40=U:=AS (by omega) (by omega);have hb1:Aqv (0+o.length*3) (Ao eP o).length=U:=AU Ax o (by omega);have e3:Aqp 0 (Aqj (0+o.length*3) (Ao eP o))++[iv ps[i].v,bv (A1 (zv ps[i].z)).neg,eN (A1 (zv ps[i].z)).abs]=Ao eP (o++[BR (pv ps[i])]):=by
     rw[Aqk,Bm Ax o (by omega)];exact Bj eP o (BR (pv ps[i]))
    refine Aa (Eu Kt Z hzi) ?_;simp only[eZ,eN,ND,DK,Ab]at e3 ⊢;rw[hf];refine Ac ?_;rw[hb1];refine Ac ?_;rw[e3,BB (by omega)];rw[χ,Arb]at ih;refine Aa ih ?_;rfl
include Kt Ks C in
theorem Hf{n k:Nat}{t:Tm}(h:TmB n k t)(hn:n<=1000000)(hk:k+n<=900000000):D.ask (.fn 62) [.agg (eT t)] []=Δ (.agg (eT t.lf.pln.tm),[]):=by
 obtain⟨ps,kz⟩:=t;have hlen:ps.length<=n:=h.len;obtain⟨r,gs,gr,gp,go⟩:=Aa1 Ks (l:=ps) (by omega);have gc:=C.clone ps (by omega);have gk:=Eu Kt Z (h.k.mono (show k<=1000000000 by omega));have hzr:∀ p∈r,Lz k p.z:=λp hp=>h.ps p (gp.mem_iff.1 hp)
 have gl:=Aak Kt Z r (k:=k) (by omega) (by omega) hzr [] Ξ [] (A1 (zv kz)).neg ((A1 (zv kz)).abs.map eL) _ 0 [] rfl (by omega) (by simp) (by simp);rw[Aqk]at gl;have hsrt:(r.map pv).Pairwise λa b=>a.1<=b.1:=by
  rw[List.pairwise_map];exact QI Pt.v go
 have hpl:=Acq hsrt (gp.map pv);generalize hS:(r.map pv).foldl Fb []=S at gl hpl;have hsb:∀ p∈((S.map BR).reverse),Lz 1000000000 p.z:=by
  have key:∀(t s:List (Int × Int)) (j:Nat),(∀ q∈s,InB (k+j) q.2)->(∀ q∈t,InB k q.2)->∀ q∈t.foldl Fb s,InB (k+j+t.length) q.2:=by
   intro t
   induction t with
   |nil=>intro s j hs _ q hq;exact hs q hq
   |cons p t ih=>
    intro s j hs ht q hq;have:=ih (Fb s p) (j+1) (RS hs ((ht p (Aqs ..)).mono (show k<=k+j by omega))) (λq hq=>ht q (List.mem_cons_of_mem _ hq)) q hq;rw[ε];exact this.mono (by omega)
  intro p hp;rw[List.mem_reverse,Aq6]at hp;obtain⟨q,hq,rfl⟩:=hp;have:=key (r.map pv) [] 0 (by simp) (λq hq=>by
   rw[Aq6]at hq;obtain⟨p,hp,rfl⟩:=hq;exact(hzr p hp).inb) q (by rw[hS];exact hq)
  rw[Aqy]at this;exact(this.lz).mono (by omega)
 have hSl:S.length<=1000000:=by
  have key:∀(t s:List (Int × Int)),(t.foldl Fb s).length<=s.length+t.length:=by
   intro t
   induction t with
   |nil=>intro s;simp
   |cons p t ih=>
    intro s;have:=ih (Fb s p);have h2:=RU s p;rw[AsA,ε];omega
  have:=key (r.map pv) [];rw[hS,Aqy]at this;simp at this;omega
 obtain⟨cells,gd,gt,gle⟩:=Ai7 Ks (λp=>decide (zv p.z=0)) (S.map BR).reverse (by simp;omega) λp hp=>WP Ks Z (hsb p hp)
 have hfin:((S.map BR).reverse).filter (λp=>!decide (zv p.z=0))=(B3 (ps.map pv)).map BR:=by
  rw[←hpl,←List.map_reverse,List.filter_map]
  congr 1
  refine List.filter_congr λq _=>?_
  show (!decide (zv (A1 q.2)=0))=_
  rw[Cb]
 rw[hfin]at gd gt gle;refine Aw Kt ZA (e62 ..) ?_;refine Aa gc ?_;simp only[ND,DK,Ab];refine Aa gs ?_;simp only[ND,DK,Ab];refine Aa gk ?_;simp only[eZ,eN,ND,DK,Ab];rw[show Aqv (0+ps.length*3) (Ao eP r).length=U from AU Ax r (by omega)];refine Ac ?_;rw[Cg Ax r (by omega),←gr];refine Aa gl ?_;simp only[ND,DK,Ab];refine Aa gd ?_;simp only[ND,DK,Ab];rw[show Aqv (0+((B3 (ps.map pv)).map BR).length*3) cells.length=U by simp;simp at gle;omega];refine Ac ?_;rw[gt,Dg Ax];rfl
end
section
open Go.RowKit
def O8:MFn:=Au [⟨36,(mB 3593),[],[],[(1,((mB 9),([],[])))]⟩,⟨36,(mB 234881088),[(6,3)],[],[(3,((mB 64),([],[])))]⟩] 230
def Ls:Hnt:=⟨[(262,(.sl 0 3,[.row U]))],[(0,[(1,([.ls,.int .i64],[]))]),(1,[(3,([.sl 1 3],[.del,.row U]))])],[(13,[.ls]),(14,[.ls]),(29,[.ls]),(30,[.ls])]⟩
def Ah5:MFn:=Au [] 125
def Ahu:Hnt:=⟨[(138,(.agg Bb,[]))],[],[(3,Bb)]⟩
def Aio:MFn:=Au [] 185
def AhN:Hnt:=⟨[(62,(.agg CH,[])),(139,(.agg Bb,[])),(230,(.ls,[]))],[],[(6,[.ls]),(8,[.ls]),(12,Bb),(14,Bb)]⟩
def AoK:MFn:=Au [] 68
def Vp:MFn:=Au [⟨35,(mB 114744),[(1000005,3)],[3,4],[(1,((mB 48),([],[3])))]⟩] 148
def R2:Hnt:=⟨[(62,(.agg CH,[])),(158,(.agg Bb,[]))],[(0,[(1,([.ptr 1 0,.ptr 2 0],[.del,.box CH,.box [.sl 4 3,.bool,.ls],.del,.row U]))])],[(9,Bb),(10,Bb),(14,[.ls]),(18,BC),(19,BC),(21,[.ls]),(23,[.int .i64]),(25,Bb),(26,Bb),(33,CH)]⟩
def Ams:MFn:=Au [] 127
def AoE:MFn:=Au [] 27
def AoF:MFn:=Au [] 28
def S1:List (Nat × MFn):=[(230,O8),(125,Ah5),(185,Aio),(68,AoK),(148,Vp),(127,Ams),(27,AoE),(28,AoF)]
variable (A:Ar) (D:Orc)
theorem Aom(x0:Rw):BZ A D Al Ls .n 230 O8 [Φ x0] [] =
 Ad D (Aqn 230 0) [Φ x0,iv 0,Φ x0,iv ↑(AP x0),iv 0] [] [.t,.C,.x,.X,.Y] λc l o=>
 br (Bf 1 c)
 (dk [.L,.I,.N,.E] [.l l,.o o] λxs n=>
 Ad D (φ 262) [AV.v (Value.slice Θ 0 0),iv n] [] [.q 0 3,.R,.X,.E] λn1 cs1=>
 Ad D (Aqn 230 1) [κ 0 0 n1 3,Φ xs,iv ↑(AP xs),iv 0] [Ω cs1 U U] [.t,.C,.x,.X,.Y] λc2 l4 o2=>
 br (Bf 3 c2)
 (dk [.C,.q 1 3,.N,.D,.R,.X,.E] [.l l4,.o o2] λn2 cs3=>
 br ((0+n2*3).ble cs3.length) (Δ ((Φ (Bl n2 3 (Aqj (n2*3) cs3)),[]))) Θ)
 (Θ))
 (Θ):=by kernel_rfl
theorem Y1(t0:Rw)(t3:Int)(t9:Rw)(t10 t11:Int):Dl A D Al Ls .n 230 0 (AL O8 0).fst (AL O8 0).snd [Φ t0,iv t3,Φ t9,iv t10,iv t11] [] =
 br (A.lt t11 t10)
 (unI t11 λi=>
 Bh t9 i λcs=>
 dk [.L,.N] [.l cs] λxs=>
 br (A.lt (A.add δ t3 ↑(AP xs)) 0)
 (Θ)
 (AG D (Aqn 230 0) [Φ t0,iv (A.add δ t3 ↑(AP xs)),Φ t9,iv t10,iv (A.add δ t11 1)] [] λr o=>
 AF 0 [] (AH.mk [] 0 Θ) [] r o))
 (Δ ((Aqm [iv 0,Φ t0,iv t3],[]))):=by kernel_rfl
theorem Y2(n6:Nat)(c6:List AV)(t25:Rw)(t26 t27:Int):Dl A D Al Ls .n 230 1 (AL O8 1).fst (AL O8 1).snd [κ 0 0 n6 3,Φ t25,iv t26,iv t27] [{ cells:=c6,st:=U,ex:=U }] =
 br (A.lt t27 t26)
 (unI t27 λi=>
 Bh t25 i λcs=>
 dk [.L,.N] [.l cs] λxs=>
 br (E4 3 xs) (br ((AP xs).beq 0)
 (AG D (Aqn 230 1) [κ 0 0 n6 3,Φ t25,iv t26,iv (A.add δ t27 1)] [Ω c6 U U] λr o=>
 AF 1 [0] (AH.mk [(0,Ω c6 U U)] 1 Θ) [] r o)
 (br (I4 (Il xs)) (br (Bc (n6+AP xs) 40) (br ((0+n6*3).ble c6.length) (AG D (Aqn 230 1) [κ 0 0 (n6+AP xs) 3,Φ t25,iv t26,iv (A.add δ t27 1)] [Ω (Aqp 0 (Aqj (0+n6*3) c6)++Il xs) U U] λr o=>
 AF 1 [1] (AH.mk [(1,Ω (Aqp 0 (Aqj (0+n6*3) c6)++Il xs) U U)] 2 Θ) [0] r o) Θ) Θ) Θ)) Θ)
 (Δ ((Aqm [iv 2,κ 1 0 n6 3],[BO.del,Aqu (Ω c6 U U)]))):=by kernel_rfl
theorem AnG(x0_0:Bool)(x0_1:Rw):BZ A D Al Ahu .n 125 Ah5 [ψ [bv x0_0,Φ x0_1]] [] =
 Ad D (φ 138) [ψ [bv x0_0,Φ x0_1]] [] [.a,.B,.L,.N,.E] λb xs=>
 Δ ((ψ [Φ [],bv b,Φ xs],[])):=by kernel_rfl
theorem An6(x0_0:Rw)(x0_1:Bool)(x0_2 x1_0:Rw)(x1_1:Bool)(x1_2:Rw):BZ A D Al AhN .n 185 Aio [ψ [Φ x0_0,bv x0_1,Φ x0_2],ψ [Φ x1_0,bv x1_1,Φ x1_2]] [] =
 Ad D (φ 230) [Φ [[Φ x0_0],[Φ x1_0]]] [] [.l,.E] λxs=>
 Ad D (φ 139) [ψ [bv x0_1,Φ x0_2],ψ [bv x1_1,Φ x1_2]] [] [.a,.B,.L,.N,.E] λb xs1=>
 Ad D (φ 62) [ψ [Φ xs,bv b,Φ xs1]] [] [.a,.L,.B,.L,.N,.E] λxs2 b1 xs3=>
 Δ ((ψ [Φ xs2,bv b1,Φ xs3],[])):=by kernel_rfl
theorem AnS(x0_0:Rw)(x0_1:Bool)(x0_2:Rw)(x1_0:Bool)(x1_1:Rw):BZ A D Al R2 .n 148 Vp [ψ [Φ x0_0,bv x0_1,Φ x0_2],ψ [bv x1_0,Φ x1_1]] [] =
 Ad D (φ 158) [ψ [bv x0_1,Φ x0_2],ψ [bv x1_0,Φ x1_1]] [] [.a,.B,.L,.N,.E] λb xs=>
 Ad D (Aqn 148 0) [υ 0 0,υ 1 0,υ 2 0,Φ x0_0,iv ↑(AP x0_0),iv 0] [bk [bv x1_0,Φ x1_1],bk [Φ [],bv Ξ,Φ []],bk [κ 3 0 0 3,bv b,Φ xs],Ω [] U U] [.t,.C,.x,.X,.Y] λc l2 o1=>
 br (Bf 1 c)
 (dk [.P 1 0,.P 2 0,.N,.D,.T,.L,.B,.L,.N,.T,.C,.q 4 3,.B,.L,.N,.D,.R,.X,.E] [.l l2,.o o1] λ_ _ _ n b2 xs3 cs4=>
 br ((0+n*3).ble cs4.length) (AG D (φ 62) [ψ [Φ (Bl n 3 (Aqj (n*3) cs4)),bv b2,Φ xs3]] [] λr2 o2=>
 dk [.a,.L,.B,.L,.N,.E] [.v r2,.o o2] λxs4 b3 xs5=>
 Δ ((ψ [Φ xs4,bv b3,Φ xs5],[]))) Θ)
 (Θ):=by kernel_rfl
theorem YL(i0:Bool)(i1 r0:Rw)(r1:Bool)(r2:Rw)(n5:Nat)(k1:Bool)(k2:Rw)(c5:List AV)(t14:Rw)(t15 t16:Int):Dl A D Al R2 .n 148 0 (AL Vp 0).fst (AL Vp 0).snd [υ 0 0,υ 1 0,υ 2 0,Φ t14,iv t15,iv t16] [bk [bv i0,Φ i1],bk [Φ r0,bv r1,Φ r2],bk [κ 3 0 n5 3,bv k1,Φ k2],{ cells:=c5,st:=U,ex:=U }] =
 br (A.lt t16 t15)
 (unI t16 λi=>
 Bh t14 i λcs=>
 dk [.I,.B,.L,.N] [.l cs] λn b xs=>
 Ad D (φ 158) [ψ [bv b,Φ xs],ψ [bv i0,Φ i1]] [] [.a,.B,.L,.N,.E] λb1 xs1=>
 br (Bc (n5+1) 40) (br ((0+n5*3).ble c5.length) (AG D (Aqn 148 0) [υ 0 0,υ 1 0,υ 2 0,Φ t14,iv t15,iv (A.add δ t16 1)] [bk [bv i0,Φ i1],bk [Φ r0,bv r1,Φ r2],bk [κ 3 0 (n5+1) 3,bv k1,Φ k2],Ω (Aqp 0 (Aqj (0+n5*3) c5)++[iv n,bv b1,Φ xs1]) U U] λr3 o1=>
 AF 4 [0,1,2,6] (AH.mk [(1,bk [Φ r0,bv r1,Φ r2]),(0,bk [bv i0,Φ i1]),(2,bk [κ 6 0 (n5+1) 3,bv k1,Φ k2]),(6,Ω (Aqp 0 (Aqj (0+n5*3) c5)++[iv n,bv b1,Φ xs1]) U U),(5,Ω [iv n,bv b1,Φ xs1] U U),(4,bk [iv n,bv b,Φ xs])] 7 Θ) [3,2,0,1] r3 o1) Θ) Θ)
 (Δ ((Aqm [iv 0,υ 1 0,υ 2 0],[BO.del,Aqu (bk [Φ r0,bv r1,Φ r2]),Aqu (bk [κ 4 0 n5 3,bv k1,Φ k2]),BO.del,Aqu (Ω c5 U U)]))):=by kernel_rfl
end
def eR(r:List Pt):List AV:=[.ls (r.map eP)]
theorem Aaf(p:Pt):I4 (eP p)=U:=rfl
def scP(x:Zi)(p:Pt):Pt:=⟨p.v,A1 (zv p.z*zv x)⟩
theorem AiL{a b:Nat}(h:a+b<4611686018427387904):Ah.add .i64 (a:Int) (b:Int)=((a+b:Nat):Int):=by
 rw[Gy (by omega) (by omega)];omega
section
variable {D:Orc} (Kt:Knows Al LN D) (Kf:Knows Al S1 D) (Ks:Knows Al Hp D) (Z:ZF D) (C:PartF D)
include Kf
theorem AiX(rs:List (List Pt))(X:List (List AV))(hr:rs.length<=1000000):∀(m i s:Nat),rs.length-i=m->i<=rs.length->s+(rs.drop i).flatten.length<=1000000000->
  D.ask (.lp 230 0) [.ls X,iv (s:Int),.ls (rs.map eR),iv (rs.length:Int),iv (i:Int)] []=Δ (.tup [iv 0,.ls X,iv ((s+(rs.drop i).flatten.length:Nat):Int)],[]):=by
 intro m
 induction m with
 |zero=>
  intro i s hm hi hs;rw[Aqq (by omega)];refine As Kf Ls (Y1 ..) ?_;exact Aj rfl
 |succ m ih=>
  intro i s hm hi hs;have h1:i<rs.length:=by omega
  rw[π h1,Arm,χ]at hs ⊢;have ih:=ih (i+1) (s+rs[i].length) (by omega) (by omega) (by omega);rw[show s+rs[i].length+(rs.drop (i+1)).flatten.length=s+(rs[i].length+(rs.drop (i+1)).flatten.length) by omega]at ih;refine As Kf Ls (Y1 ..) ?_;refine Ak ?_;rw[Av,At (θ h1)];simp only[eR,ND,DK,Ab];rw[Ai,AiL (by omega),BB (by omega)];refine Aj ?_;refine Aa ih ?_;rfl
theorem AiY(rs:List (List Pt))(hr:rs.length<=1000000):∀(m i:Nat) (out:List Pt),rs.length-i=m->i<=rs.length->out.length+(rs.drop i).flatten.length<=1000000000->
  D.ask (.lp 230 1) [.sl 0 0 out.length 3,.ls (rs.map eR),iv (rs.length:Int),iv (i:Int)] [GO out]=Δ (.tup [iv 2,.sl 1 0 (out++(rs.drop i).flatten).length 3],[.del,.set (GO (out++(rs.drop i).flatten))]):=by
 intro m
 induction m with
 |zero=>
  intro i out hm hi hs;rw[Aqq (by omega),List.flatten_nil,Aro];refine As Kf Ls (Y2 ..) ?_;exact Aj rfl
 |succ m ih=>
  intro i out hm hi hs;have h1:i<rs.length:=by omega
  rw[π h1,Arm]at hs ⊢;rw[χ]at hs;have ih:=ih (i+1) (out++rs[i]) (by omega) (by omega) (by rw[χ];omega);rw[AqM]at ih;refine As Kf Ls (Y2 ..) ?_;refine Ak ?_;rw[Av,At (θ h1)];revert hs ih;generalize rs[i]=r;intro hs ih;simp only[eR,ND,DK,Ab];rw[FR Ax,Ai,BB (by omega)];refine Ac ?_
  by_cases h0:r=[]
  .subst h0
   rw[Aro]at ih;rw[Aq0]at ih ⊢;refine Ac ?_;refine Aa ih ?_;rfl
  .have hz:Nat.beq r.length 0=Ξ:=by
    cases r with
    |nil=>exact absurd rfl h0
    |cons x r=>rfl
   rw[hz];refine D6 ?_;rw[Es,JJ Aaf];refine Ac ?_;rw[AS (n:=out.length+r.length) (b:=40) (by omega) (by omega)];refine Ac ?_;rw[show Aqv (0+out.length*3) (Ao eP out).length=U from AU Ax out (by omega)];refine Ac ?_;have e3:Aqp 0 (Aqj (0+out.length*3) (Ao eP out))++Ao eP r=Ao eP (out++r):=by
    rw[Aqk,Bm Ax out (by omega)];simp[Ao]
   rw[e3];rw[show (out++r).length=out.length+r.length from χ]at ih;refine Aa ih ?_;rfl
include C in
theorem Wr(a b:List Pt)(h:a.length+b.length<=1000000):D.ask (.fn 230) [.ls [[.ls (a.map eP)],[.ls (b.map eP)]]] []=Δ (.ls ((a++b).map eP),[]):=by
 have hf:([a,b]).flatten=a++b:=by simp
 have g0:=AiX Kf [a,b] (([a,b]).map eR) (by simp) _ 0 0 rfl (by simp) (by rw[Aqk,hf,χ];omega);rw[Aqk,hf,Nat.zero_add]at g0;have gg:=C.grow (a++b).length (by rw[χ];omega);have g1:=AiY Kf [a,b] (by simp) _ 0 [] rfl (by simp) (by rw[Aqk,hf,χ];simp;omega);rw[Aqk,hf,Aq0]at g1;refine Aw Kf Ls (Aom ..) ?_;refine Aa g0 ?_;simp only[ND,DK,Ab];refine Aa gg ?_;simp only[ND,DK,Ab];refine Aa g1 ?_;simp only[ND,DK,Ab];rw[show Aqv (0+(a++b).length*3) (Ao eP (a++b)).length=U from AU Ax (a++b) (by omega)];refine Ac ?_;rw[Cg Ax (a++b) rfl];rfl
include Kt Ks Z C
theorem AiM{n m k:Nat}{a b:Tm}(ha:TmB n k a)(hb:TmB m k b)(hn:n+m<=1000000)(hk:k+1+(n+m)<=900000000):D.ask (.fn 185) [.agg (eT a),.agg (eT b)] []=Δ (.agg (eT (a.lf.add b.lf).tm),[]):=by
 obtain⟨ap,ak⟩:=a;obtain⟨bp,bk⟩:=b;have l1:ap.length<=n:=ha.len;have l2:bp.length<=m:=hb.len;have gc:=Wr Kf C ap bp (by omega);have ga:=Z.add ak bk (ha.k.mono (by omega)) (hb.k.mono (by omega));have hT:TmB (n+m) (k+1) ⟨ap++bp,A1 (zv ak+zv bk)⟩:=by
  refine⟨by simp;omega,λp hp=>?_,?_⟩
  .rcases List.mem_append.1 hp with h|h
   .exact(ha.ps p h).mono (by omega)
   .exact(hb.ps p h).mono (by omega)
  .exact(InB.add ha.k.inb hb.k.inb).lz
 have gp:=Hf Kt Ks Z C hT hn (by omega);have el:(⟨ap++bp,A1 (zv ak+zv bk)⟩:Tm).lf.pln=Lf.add (Tm.lf ⟨ap,ak⟩) (Tm.lf ⟨bp,bk⟩):=by
  unfold Lf.add Tm.lf;simp only[List.map_append,Cb]
 rw[el]at gp;refine Aw Kf AhN (An6 ..) ?_;refine Aa gc ?_;simp only[ND,DK,Ab];refine Aa ga ?_;simp only[eZ,eN,ND,DK,Ab];refine Aa gp ?_;rfl
omit Kt Ks C in
theorem AaS{k j:Nat}{x:Zi}(hx:Lz j x)(hx24:x.abs.length<24)(ps:List Pt)(hl:ps.length<=1000000)(hz:∀ p∈ps,Lz k p.z)(hk:k<=400000000)(hj:j<=400000000)(r0:List (List AV))(r1:Bool)(r2:List (List AV))(k1:Bool)(k2:List (List AV)):∀(m i:Nat) (out:List Pt),ps.length-i=m->i<=ps.length->out.length<=i->
  D.ask (.lp 148 0) [.ptr 0 0,.ptr 1 0,.ptr 2 0,.ls (ps.map eP),iv (ps.length:Int),iv (i:Int)] [⟨eZ x,U,Ξ⟩,⟨[.ls r0,bv r1,.ls r2],U,Ξ⟩,⟨[.sl 3 0 out.length 3,bv k1,.ls k2],U,Ξ⟩,GO out]
   = Δ (.tup [iv 0,.ptr 1 0,.ptr 2 0],[.del,.set ⟨[.ls r0,bv r1,.ls r2],U,Ξ⟩,.set ⟨[.sl 4 0 (out++(ps.drop i).map (scP x)).length 3,bv k1,.ls k2],U,Ξ⟩,.del,.set (GO (out++(ps.drop i).map (scP x)))]):=by
 intro m
 induction m with
 |zero=>
  intro i out hm hi ho;rw[Aqq (by omega),Are,Aro];refine As Kf R2 (YL ..) ?_;exact Aj rfl
 |succ m ih=>
  intro i out hm hi ho;have h1:i<ps.length:=by omega
  have hzk:=hz ps[i] (Aqz h1);have gm:=Z.mul ps[i].z x (hzk.mono (by omega)) (hx.mono (by omega)) (.inr hx24);rw[π h1,AqF];have ih:=ih (i+1) (out++[scP x ps[i]]) (by omega) (by omega) (by simp;omega);rw[AqM,List.singleton_append,show (out++[scP x ps[i]]).length=out.length+1 by simp]at ih;have hf:Bc (out.length+1) 40=U:=AS (by omega) (by omega);have hb1:Aqv (0+out.length*3) (Ao eP out).length=U:=AU Ax out (by omega);have e3:Aqp 0 (Aqj (0+out.length*3) (Ao eP out))++[iv ps[i].v,bv (A1 (zv ps[i].z*zv x)).neg,eN (A1 (zv ps[i].z*zv x)).abs]=Ao eP (out++[scP x ps[i]]):=by
   rw[Aqk,Bm Ax out (by omega)];exact Bj eP out (scP x ps[i])
  obtain⟨xn,xa⟩:=x;refine As Kf R2 (YL ..) ?_;refine Ak ?_;rw[Av,At (θ h1)];simp only[eP,eN,ND,DK,Ab];refine Aa gm ?_;simp only[eZ,eN,ND,DK,Ab]at e3 ⊢;rw[hf];refine Ac ?_;rw[hb1];refine Ac ?_;rw[e3,BB (by omega)];refine Aa ih ?_;rfl
theorem AaT{n k j:Nat}{a:Tm}{x:Zi}(ha:TmB n k a)(hx:Lz j x)(hx24:x.abs.length<24)(hn:n<=1000000)(hj:j<=23)(hk:k+j+n<=400000000):D.ask (.fn 148) [.agg (eT a),.agg (eZ x)] []=Δ (.agg (eT (a.lf.scale (zv x)).tm),[]):=by
 obtain⟨ap,ak⟩:=a;have l1:ap.length<=n:=ha.len;have gm:=Z.mul ak x (ha.k.mono (by omega)) (hx.mono (by omega)) (.inr hx24);have gl:=AaS Kf Z hx hx24 ap (by omega) ha.ps (by omega) (by omega) [] Ξ [] (A1 (zv ak*zv x)).neg ((A1 (zv ak*zv x)).abs.map eL) _ 0 [] rfl (by omega) (by simp);rw[Aqk,Aq0]at gl;have hT:TmB n (k+j) ⟨ap.map (scP x),A1 (zv ak*zv x)⟩:=by
  refine⟨by simpa using l1,λp hp=>?_,(InB.mul ha.k.inb hx.inb).lz⟩;rw[Aq6]at hp;obtain⟨q,hq,rfl⟩:=hp;exact(InB.mul (ha.ps q hq).inb hx.inb).lz
 have gp:=Hf Kt Ks Z C hT hn (by omega);have el:(⟨ap.map (scP x),A1 (zv ak*zv x)⟩:Tm).lf.pln=Lf.scale (Tm.lf ⟨ap,ak⟩) (zv x):=by
  unfold Lf.scale Tm.lf;simp only[List.map_map,Cb]
  congr 2
  refine List.map_congr_left λp _=>?_
  show ((p.v,zv (A1 (zv p.z*zv x))):Int × Int)=_
  rw[Cb];rfl
 rw[el]at gp;obtain⟨xn,xa⟩:=x;refine Aw Kf R2 (AnS ..) ?_;refine Aa gm ?_;simp only[eZ,eN,ND,DK,Ab,Ai];refine Aa gl ?_;simp only[ND,DK,Ab];rw[show Aqv (0+(ap.map (scP ⟨xn,xa⟩)).length*3) (Ao eP (ap.map (scP ⟨xn,xa⟩))).length=U from AU Ax _ (by omega)];refine Ac ?_;rw[Cg Ax _ rfl];refine Aa gp ?_;rfl
omit Ks C in
theorem W8{z:Zi}(hz:Lz 1000000000 z):D.ask (.fn 125) [.agg (eZ z)] []=Δ (.agg (eT (Lf.num (zv z)).tm),[]):=by
 have g:=Eu Kt Z hz;refine Aw Kf Ahu (AnG ..) ?_;refine Aa g ?_;rfl
end
theorem Pf:∀ l:List Pt,AA (Ao eP l)=U
 |[]=>rfl
 |x::r=>by
  have ih:=Pf r;have h1:Ao eP (x::r)=eP x++Ao eP r:=by simp[Ao]
  rw[h1,Bp,List.all_append,←Bp,←Bp,ih];rfl
theorem Tz{l:List Pt}(h:l.length<=1000000000):Dy 3 (BP 3 40) [.ls (l.map eP)] []=Δ (.sl 0 0 l.length 3,[.set (GO l)]):=by
 unfold Dy BP;have h4:Aqv (AP (l.map eP)*40) 140737488355328=U:=by
  rw[Ai];simp;omega
 have h1:I4 (Il (l.map eP))=U:=by rw[Es];exact JJ Aaf l
 have h2:AA (Il (l.map eP))=U:=by rw[Es];exact Pf l
 simp only[FR Ax,h1,h2,h4,Bool.and_true,if_true,Option.map_some];rw[Ai,Es]
theorem WD{n:Nat}(h:n<=1000000000):Dy 3 (C9 40) [.v (.slice Θ 0 0),iv (n:Int)] []=Δ (.sl 0 0 0 3,[.set (GO [])]):=by
 have h4:Aqv (n*40) 140737488355328=U:=by simp;omega
 show (if Aqv (n*40) 140737488355328=U then Δ (0,([]:List AV)) else Θ).map _=_
 rw[if_pos h4];rfl
section
open Go.RowKit
def AcJ:MFn:=Au [⟨40,(mB 28722),[],[4,5],[(1,((mB 48),([],[])))]⟩] 86
def ZD:Hnt:=⟨[(138,(.agg Bb,[])),(139,(.agg Bb,[])),(158,(.agg Bb,[]))],[(0,[(1,([.ptr 0 0,.ptr 1 0],[.box Bb,.box Bb]))])],[(9,Bb),(12,[.ls]),(16,BC),(17,BC),(19,[.int .i64]),(23,[.int .i64]),(28,Bb),(30,Bb),(33,[.int .i64]),(34,Bb),(35,Bb),(39,Bb)]⟩
def Amv:MFn:=Au [] 30
def AlZ:Hnt:=⟨[(64,(.int .i64,[])),(86,(.agg Bb,[]))],[],[(7,CH),(15,[.bool])]⟩
def VX:List (Nat × MFn):=[(86,AcJ),(30,Amv)]
variable (A:Ar) (D:Orc)
theorem e86(x0_0:Rw)(x0_1:Bool)(x0_2 x1:Rw):BZ A D Al ZD .n 86 AcJ [ψ [Φ x0_0,bv x0_1,Φ x0_2],Φ x1] [] =
 Ad D (φ 138) [ψ [bv x0_1,Φ x0_2]] [] [.a,.B,.L,.N,.E] λb xs=>
 Ad D (Aqn 86 0) [Φ x1,υ 0 0,υ 1 0,Φ x0_0,iv ↑(AP x0_0),iv 0] [bk [bv Ξ,Φ []],bk [bv b,Φ xs]] [.t,.C,.x,.X,.Y] λc l2 o1=>
 br (Bf 1 c)
 (dk [.P 0 0,.P 1 0,.N,.T,.B,.L,.N,.T,.B,.L,.N,.E] [.l l2,.o o1] λ_ _ b2 xs2=>
 Δ ((ψ [bv b2,Φ xs2],[])))
 (Θ):=by kernel_rfl
theorem Ahg(t1:Rw)(b4_0:Bool)(b4_1:Rw)(b5_0:Bool)(b5_1 t12:Rw)(t13 t14:Int):Dl A D Al ZD .n 86 0 (AL AcJ 0).fst (AL AcJ 0).snd [Φ t1,υ 0 0,υ 1 0,Φ t12,iv t13,iv t14] [bk [bv b4_0,Φ b4_1],bk [bv b5_0,Φ b5_1]] =
 br (A.lt t14 t13)
 (unI t14 λi=>
 Bh t12 i λcs=>
 dk [.I,.B,.L,.N] [.l cs] λn b xs=>
 br (A.le 0 n)
 (br (A.lt n ↑(AP t1))
 (unI n λi1=>
 Bh t1 i1 λcs1=>
 dk [.B,.L,.N] [.l cs1] λb1 xs1=>
 Ad D (φ 158) [ψ [bv b,Φ xs],ψ [bv b1,Φ xs1]] [] [.a,.B,.L,.N,.E] λb2 xs2=>
 Ad D (φ 139) [ψ [bv b5_0,Φ b5_1],ψ [bv b2,Φ xs2]] [] [.a,.B,.L,.N,.E] λb3 xs3=>
 AG D (Aqn 86 0) [Φ t1,υ 0 0,υ 1 0,Φ t12,iv t13,iv (A.add δ t14 1)] [bk [bv b4_0,Φ b4_1],bk [bv b3,Φ xs3]] λr2 o2=>
 AF 2 [0,1] (AH.mk [(1,bk [bv b3,Φ xs3]),(0,bk [bv b4_0,Φ b4_1]),(2,bk [iv n,bv b,Φ xs])] 3 Θ) [0,1] r2 o2)
 (AG D (Aqn 86 0) [Φ t1,υ 0 0,υ 1 0,Φ t12,iv t13,iv (A.add δ t14 1)] [bk [bv b4_0,Φ b4_1],bk [bv b5_0,Φ b5_1]] λr o=>
 AF 2 [0,1] (AH.mk [(1,bk [bv b5_0,Φ b5_1]),(0,bk [bv b4_0,Φ b4_1]),(2,bk [iv n,bv b,Φ xs])] 3 Θ) [0,1] r o))
 (AG D (Aqn 86 0) [Φ t1,υ 0 0,υ 1 0,Φ t12,iv t13,iv (A.add δ t14 1)] [bk [bv b4_0,Φ b4_1],bk [bv b5_0,Φ b5_1]] λr o=>
 AF 2 [0,1] (AH.mk [(1,bk [bv b5_0,Φ b5_1]),(0,bk [bv b4_0,Φ b4_1]),(2,bk [iv n,bv b,Φ xs])] 3 Θ) [0,1] r o))
 (Δ ((Aqm [iv 0,υ 0 0,υ 1 0],[Aqu (bk [bv b4_0,Φ b4_1]),Aqu (bk [bv b5_0,Φ b5_1])]))):=by kernel_rfl
theorem e30(x0_0:Rw)(x0_1:Bool)(x0_2:Rw)(x0_3:Bool)(x1:Rw):BZ A D Al AlZ .n 30 Amv [ψ [Φ x0_0,bv x0_1,Φ x0_2,bv x0_3],Φ x1] [] =
 Ad D (φ 86) [ψ [Φ x0_0,bv x0_1,Φ x0_2],Φ x1] [] [.a,.B,.L,.N,.E] λb xs=>
 Ad D (φ 64) [ψ [bv b,Φ xs]] [] [.i,.E] λn=>
 br (A.eq n 0)
 (Δ ((bv U,[])))
 (br (A.not x0_3)
 (br (A.lt 0 n)
 (Δ ((bv U,[])))
 (Δ ((bv Ξ,[]))))
 (Δ ((bv Ξ,[])))):=by kernel_rfl
end
section
open Go.RowKit
def AhY:MFn:=Au [] 101
def Aho:Hnt:=⟨[(36,(.bool,[]))],[],[(4,Bg),(5,[.ls])]⟩
def AhZ:MFn:=Au [] 103
def Ahp:Hnt:=⟨[(101,(.bool,[.keep]))],[],[(4,[.any]),(5,Bg)]⟩
def Ns:MFn:=Au [⟨19,(mB 387),[],[],[(0,((mB 16),([],[]))),(1,([],([],[])))]⟩] 171
def M9:Hnt:=⟨[(101,(.bool,[.keep]))],[(0,[(0,([.int .i64],[.keep])),(1,([],[.keep]))])],[(14,Bg),(15,Bg)]⟩
def Na:Hnt:=⟨[(103,(.bool,[.keep,.keep]))],[(0,[(0,([.int .i64],[.keep,.keep])),(1,([],[.keep,.keep]))])],[(14,Bg),(15,Bg)]⟩
def Z2:MFn:=Au [] 102
def Zv:Hnt:=⟨[(171,(.int .i64,[.keep]))],[],[]⟩
def Zw:Hnt:=⟨[(171,(.int .i64,[.keep,.keep]))],[],[]⟩
def AjG:MFn:=Au [] 36
def OY:Hnt:=⟨[(30,(.bool,[])),(101,(.bool,[.keep])),(102,(.bool,[.keep]))],[],[(8,[.int .i64]),(14,GG),(15,[.ls]),(20,[.ls]),(24,[.any]),(26,[.ls]),(27,Bg),(28,Bg),(35,[.ls]),(42,[.ls]),(43,[.any])]⟩
def AhT:Hnt:=⟨[(30,(.bool,[])),(101,(.bool,[.keep])),(102,(.bool,[.keep,.keep]))],[],[(8,[.int .i64]),(14,GG),(15,[.ls]),(20,[.ls]),(24,[.any]),(26,[.ls]),(27,Bg),(28,Bg),(35,[.ls]),(42,[.ls]),(43,[.any])]⟩
def Abd:List (Nat × MFn):=[(101,AhY),(103,AhZ),(171,Ns),(102,Z2),(36,AjG)]
variable (A:Ar) (D:Orc)
theorem Anz(x0:Int)(x1:Rw)(x2:Bool)(x3:Rw)(x4:Bool)(x5 c0:Rw):BZ A D Al Aho .n 101 AhY [ψ [iv x0,Φ x1,bv x2,Φ x3,bv x4,Φ x5],υ 0 0] [bk [Φ c0]] =
 Ad D (φ 36) [ψ [iv x0,Φ x1,bv x2,Φ x3,bv x4,Φ x5],Φ c0] [] [.b,.E] λb=>
 br b
 (Δ ((bv U,[BO.keep])))
 (Δ ((bv Ξ,[BO.keep]))):=by kernel_rfl
theorem AnA(x0:Int)(x1:Rw)(x2:Bool)(x3:Rw)(x4:Bool)(x5 c0:Rw):BZ A D Al Ahp .n 103 AhZ [ψ [iv x0,Φ x1,bv x2,Φ x3,bv x4,Φ x5],υ 0 0] [bk [Aqx (Fn.func 101) [] [υ 1 0]],bk [Φ c0]] =
 Ad D (φ 101) [ψ [iv x0,Φ x1,bv x2,Φ x3,bv x4,Φ x5],υ 0 0] [bk [Φ c0]] [.b,.K,.E] λb=>
 br b
 (Δ ((bv Ξ,[BO.keep,BO.keep])))
 (Δ ((bv U,[BO.keep,BO.keep]))):=by kernel_rfl
theorem AlJ(x0 c0:Rw):BZ A D Al M9 .n 171 Ns [Φ x0,Aqx (Fn.func 101) [] [υ 0 0]] [bk [Φ c0]] =
 Ad D (Aqn 171 0) [Φ x0,Aqx (Fn.func 101) [] [υ 0 0],iv ↑(AP x0),iv 0] [bk [Φ c0]] [.t,.C,.x,.X,.Y] λc l o=>
 br (Bf 0 c)
 (dk [.I,.N,.K,.E] [.l l,.o o] λn=>
 Δ ((iv n,[BO.keep])))
 (br (Bf 1 c)
 (dk [.N,.K,.E,.w] [.l l,.o o] λ_=>
 Δ ((iv (-1),[BO.keep])))
 (Θ)):=by kernel_rfl
theorem U6(x0 c0:Rw)(t7 t8:Int):Dl A D Al M9 .n 171 0 (AL Ns 0).fst (AL Ns 0).snd [Φ x0,Aqx (Fn.func 101) [] [υ 0 0],iv t7,iv t8] [bk [Φ c0]] =
 br (A.lt t8 t7)
 (unI t8 λi=>
 Bh x0 i λcs=>
 dk [.I,.L,.B,.L,.B,.L,.N] [.l cs] λn xs b xs1 b1 xs2=>
 Ad D (φ 101) [ψ [iv n,Φ xs,bv b,Φ xs1,bv b1,Φ xs2],υ 0 0] [bk [Φ c0]] [.b,.K,.E] λb2=>
 br b2
 (Δ ((Aqm [bv U,iv t8],[BO.keep])))
 (AG D (Aqn 171 0) [Φ x0,Aqx (Fn.func 101) [] [υ 0 0],iv t7,iv (A.add δ t8 1)] [bk [Φ c0]] λr1 o1=>
 AF 1 [0] (AH.mk [(0,bk [Φ c0])] 1 Θ) [] r1 o1))
 (Δ ((Aqm [iv 0],[BO.keep]))):=by kernel_rfl
theorem AlK(x0 c0:Rw):BZ A D Al Na .n 171 Ns [Φ x0,Aqx (Fn.func 103) [] [υ 0 0]] [bk [Aqx (Fn.func 101) [] [υ 1 0]],bk [Φ c0]] =
 Ad D (Aqn 171 0) [Φ x0,Aqx (Fn.func 103) [] [υ 0 0],iv ↑(AP x0),iv 0] [bk [Aqx (Fn.func 101) [] [υ 1 0]],bk [Φ c0]] [.t,.C,.x,.X,.Y] λc l o=>
 br (Bf 0 c)
 (dk [.I,.N,.K,.K,.E] [.l l,.o o] λn=>
 Δ ((iv n,[BO.keep,BO.keep])))
 (br (Bf 1 c)
 (dk [.N,.K,.K,.E,.w] [.l l,.o o] λ_=>
 Δ ((iv (-1),[BO.keep,BO.keep])))
 (Θ)):=by kernel_rfl
theorem U7(x0 c0:Rw)(t7 t8:Int):Dl A D Al Na .n 171 0 (AL Ns 0).fst (AL Ns 0).snd [Φ x0,Aqx (Fn.func 103) [] [υ 0 0],iv t7,iv t8] [bk [Aqx (Fn.func 101) [] [υ 1 0]],bk [Φ c0]] =
 br (A.lt t8 t7)
 (unI t8 λi=>
 Bh x0 i λcs=>
 dk [.I,.L,.B,.L,.B,.L,.N] [.l cs] λn xs b xs1 b1 xs2=>
 Ad D (φ 103) [ψ [iv n,Φ xs,bv b,Φ xs1,bv b1,Φ xs2],υ 0 0] [bk [Aqx (Fn.func 101) [] [υ 1 0]],bk [Φ c0]] [.b,.K,.K,.E] λb2=>
 br b2
 (Δ ((Aqm [bv U,iv t8],[BO.keep,BO.keep])))
 (AG D (Aqn 171 0) [Φ x0,Aqx (Fn.func 103) [] [υ 0 0],iv t7,iv (A.add δ t8 1)] [bk [Aqx (Fn.func 101) [] [υ 1 0]],bk [Φ c0]] λr1 o1=>
 AF 2 [0,1] (AH.mk [(0,bk [Aqx (Fn.func 101) [] [υ 1 0]]),(1,bk [Φ c0])] 2 Θ) [] r1 o1))
 (Δ ((Aqm [iv 0],[BO.keep,BO.keep]))):=by kernel_rfl
theorem AlD(x0 c0:Rw):BZ A D Al Zv .n 102 Z2 [Φ x0,Aqx (Fn.func 101) [] [υ 0 0]] [bk [Φ c0]] =
 Ad D (φ 171) [Φ x0,Aqx (Fn.func 101) [] [υ 0 0]] [bk [Φ c0]] [.i,.K,.E] λn=>
 br (A.le 0 n)
 (Δ ((bv U,[BO.keep])))
 (Δ ((bv Ξ,[BO.keep]))):=by kernel_rfl
theorem AlE(x0 c0:Rw):BZ A D Al Zw .n 102 Z2 [Φ x0,Aqx (Fn.func 103) [] [υ 0 0]] [bk [Aqx (Fn.func 101) [] [υ 1 0]],bk [Φ c0]] =
 Ad D (φ 171) [Φ x0,Aqx (Fn.func 103) [] [υ 0 0]] [bk [Aqx (Fn.func 101) [] [υ 1 0]],bk [Φ c0]] [.i,.K,.K,.E] λn=>
 br (A.le 0 n)
 (Δ ((bv U,[BO.keep,BO.keep])))
 (Δ ((bv Ξ,[BO.keep,BO.keep]))):=by kernel_rfl
theorem Y8(x0_0:Int)(x0_1:Rw)(x0_2:Bool)(x0_3:Rw)(x0_4:Bool)(x0_5 x1:Rw):BZ A D Al OY .n 36 AjG [ψ [iv x0_0,Φ x0_1,bv x0_2,Φ x0_3,bv x0_4,Φ x0_5],Φ x1] [] =
 br (A.eq x0_0 0)
 (Δ ((bv U,[])))
 (br (A.eq x0_0 2)
 (Ad D (φ 30) [ψ [Φ x0_1,bv x0_2,Φ x0_3,bv x0_4],Φ x1] [] [.b,.E] λb=>
 br b
 (Δ ((bv U,[])))
 (Δ ((bv Ξ,[]))))
 (br (A.eq x0_0 3)
 (br (A.lt 0 ↑(AP x0_5))
 (Bh x0_5 0 λcs=>
 dk [.I,.L,.B,.L,.B,.L,.N] [.l cs] λn xs b xs1 b1 xs2=>
 Ad D (φ 101) [ψ [iv n,Φ xs,bv b,Φ xs1,bv b1,Φ xs2],υ 0 0] [bk [Φ x1]] [.b,.K,.E] λb2=>
 br b2
 (Δ ((bv Ξ,[])))
 (Δ ((bv U,[]))))
 (Δ ((bv Ξ,[]))))
 (br (A.eq x0_0 4)
 (Ad D (φ 102) [Φ x0_5,Aqx (Fn.func 103) [] [υ 0 0]] [bk [Aqx (Fn.func 101) [] [υ 1 0]],bk [Φ x1]] [.b,.K,.E] λ_=>
 Θ)
 (br (A.eq x0_0 5)
 (Ad D (φ 102) [Φ x0_5,Aqx (Fn.func 101) [] [υ 0 0]] [bk [Φ x1]] [.b,.K,.E] λb=>
 br b
 (Δ ((bv U,[])))
 (Δ ((bv Ξ,[]))))
 (Δ ((bv Ξ,[]))))))):=by kernel_rfl
theorem Aoq(x0_0:Int)(x0_1:Rw)(x0_2:Bool)(x0_3:Rw)(x0_4:Bool)(x0_5 x1:Rw):BZ A D Al AhT .n 36 AjG [ψ [iv x0_0,Φ x0_1,bv x0_2,Φ x0_3,bv x0_4,Φ x0_5],Φ x1] [] =
 br (A.eq x0_0 0)
 (Δ ((bv U,[])))
 (br (A.eq x0_0 2)
 (Ad D (φ 30) [ψ [Φ x0_1,bv x0_2,Φ x0_3,bv x0_4],Φ x1] [] [.b,.E] λb=>
 br b
 (Δ ((bv U,[])))
 (Δ ((bv Ξ,[]))))
 (br (A.eq x0_0 3)
 (br (A.lt 0 ↑(AP x0_5))
 (Bh x0_5 0 λcs=>
 dk [.I,.L,.B,.L,.B,.L,.N] [.l cs] λn xs b xs1 b1 xs2=>
 Ad D (φ 101) [ψ [iv n,Φ xs,bv b,Φ xs1,bv b1,Φ xs2],υ 0 0] [bk [Φ x1]] [.b,.K,.E] λb2=>
 br b2
 (Δ ((bv Ξ,[])))
 (Δ ((bv U,[]))))
 (Δ ((bv Ξ,[]))))
 (br (A.eq x0_0 4)
 (Ad D (φ 102) [Φ x0_5,Aqx (Fn.func 103) [] [υ 0 0]] [bk [Aqx (Fn.func 101) [] [υ 1 0]],bk [Φ x1]] [.b,.K,.K,.E] λb=>
 br b
 (Δ ((bv Ξ,[])))
 (Δ ((bv U,[]))))
 (br (A.eq x0_0 5)
 (Ad D (φ 102) [Φ x0_5,Aqx (Fn.func 101) [] [υ 0 0]] [bk [Φ x1]] [.b,.K,.K,.E] λ_=>
 Θ)
 (Δ ((bv Ξ,[]))))))):=by kernel_rfl
end
section
open Go.RowKit
def Ail:MFn:=Au [] 170
def AhK:Hnt:=⟨[(62,(.agg CH,[]))],[],[(4,CH),(7,[.bool])]⟩
def AmG:MFn:=Au [] 98
def Ama:Hnt:=⟨[(170,(.agg GG,[]))],[],[(3,GG)]⟩
def AmF:MFn:=Au [] 95
def Al9:Hnt:=⟨[],[],[]⟩
def Aik:MFn:=Au [] 166
def AhJ:Hnt:=⟨[],[],[(4,[.int .i64]),(9,[.ls]),(13,[.ls]),(15,[.ls])]⟩
def Ah0:MFn:=Au [] 107
def Ahq:Hnt:=⟨[(95,(.agg Bg,[])),(98,(.agg Bg,[])),(165,(.ls,[])),(166,(.ls,[]))],[],[(4,[.int .i64]),(11,GG),(18,[.int .i64]),(19,Bg)]⟩
def Vq:MFn:=Au [⟨19,(mB 456),[(3,6)],[],[(1,((mB 8),([],[])))]⟩] 165
def R4:Hnt:=⟨[(107,(.agg Bg,[]))],[(0,[(1,([.sl 1 6],[.del,.row U]))])],[(10,Bg),(11,Bg),(13,Bg)]⟩
def AoI:MFn:=Au [] 49
def AoQ:MFn:=Au [] 92
def AoR:MFn:=Au [] 94
def AoJ:MFn:=Au [] 54
def Abc:List (Nat × MFn):=[(170,Ail),(98,AmG),(95,AmF),(166,Aik),(107,Ah0),(165,Vq),(49,AoI),(92,AoQ),(94,AoR),(54,AoJ)]
variable (A:Ar) (D:Orc)
theorem An1(x0_0:Rw)(x0_1:Bool)(x0_2:Rw)(x0_3:Bool):BZ A D Al AhK .n 170 Ail [ψ [Φ x0_0,bv x0_1,Φ x0_2,bv x0_3]] [] =
 Ad D (φ 62) [ψ [Φ x0_0,bv x0_1,Φ x0_2]] [] [.a,.L,.B,.L,.N,.E] λxs b xs1=>
 Δ ((ψ [Φ xs,bv b,Φ xs1,bv x0_3],[])):=by kernel_rfl
theorem e98(x0_0:Rw)(x0_1:Bool)(x0_2:Rw)(x0_3:Bool):BZ A D Al Ama .n 98 AmG [ψ [Φ x0_0,bv x0_1,Φ x0_2,bv x0_3]] [] =
 Ad D (φ 170) [ψ [Φ x0_0,bv x0_1,Φ x0_2,bv x0_3]] [] [.a,.L,.B,.L,.B,.N,.E] λxs b xs1 b1=>
 Δ ((ψ [iv 2,Φ xs,bv b,Φ xs1,bv b1,Φ []],[])):=by kernel_rfl
theorem e95(x0:Bool):BZ A D Al Al9 .n 95 AmF [bv x0] [] =
 br x0
 (Δ ((ψ [iv 0,Φ [],bv Ξ,Φ [],bv Ξ,Φ []],[])))
 (Δ ((ψ [iv 1,Φ [],bv Ξ,Φ [],bv Ξ,Φ []],[]))):=by kernel_rfl
theorem An0(x0_0:Int)(x0_1:Rw)(x0_2:Bool)(x0_3:Rw)(x0_4:Bool)(x0_5:Rw):BZ A D Al AhJ .n 166 Aik [ψ [iv x0_0,Φ x0_1,bv x0_2,Φ x0_3,bv x0_4,Φ x0_5]] [] =
 br (A.eq x0_0 4)
 (Δ ((Φ x0_5,[])))
 (br (A.eq x0_0 5)
 (Δ ((Φ x0_5,[])))
 (br (A.eq x0_0 3)
 (unI (A.min (↑(AP x0_5)) 1) λi=>
 br (Nm 0 i (AP x0_5)) (br (E4 6 x0_5) (Δ ((Φ (GR (Hq x0_5 i) 0),[]))) Θ) Θ)
 (Δ ((Φ [],[]))))):=by kernel_rfl
theorem AnB(x0_0:Int)(x0_1:Rw)(x0_2:Bool)(x0_3:Rw)(x0_4:Bool)(x0_5:Rw):BZ A D Al Ahq .n 107 Ah0 [ψ [iv x0_0,Φ x0_1,bv x0_2,Φ x0_3,bv x0_4,Φ x0_5]] [] =
 br (A.eq x0_0 0)
 (Ad D (φ 95) [bv U] [] [.a,.I,.L,.B,.L,.B,.L,.N,.E] λn xs b xs1 b1 xs2=>
 Δ ((ψ [iv n,Φ xs,bv b,Φ xs1,bv b1,Φ xs2],[])))
 (br (A.eq x0_0 2)
 (Ad D (φ 98) [ψ [Φ x0_1,bv x0_2,Φ x0_3,bv x0_4]] [] [.a,.I,.L,.B,.L,.B,.L,.N,.E] λn xs b xs1 b1 xs2=>
 Δ ((ψ [iv n,Φ xs,bv b,Φ xs1,bv b1,Φ xs2],[])))
 (br (A.eq x0_0 3)
 (Ad D (φ 166) [ψ [iv x0_0,Φ x0_1,bv x0_2,Φ x0_3,bv x0_4,Φ x0_5]] [] [.l,.E] λxs=>
 Ad D (φ 165) [Φ xs] [] [.l,.E] λxs1=>
 Δ ((ψ [iv x0_0,Φ [],bv Ξ,Φ [],bv Ξ,Φ xs1],[])))
 (br (A.eq x0_0 4)
 (Ad D (φ 166) [ψ [iv x0_0,Φ x0_1,bv x0_2,Φ x0_3,bv x0_4,Φ x0_5]] [] [.l,.E] λxs=>
 Ad D (φ 165) [Φ xs] [] [.l,.E] λxs1=>
 Δ ((ψ [iv x0_0,Φ [],bv Ξ,Φ [],bv Ξ,Φ xs1],[])))
 (br (A.eq x0_0 5)
 (Ad D (φ 166) [ψ [iv x0_0,Φ x0_1,bv x0_2,Φ x0_3,bv x0_4,Φ x0_5]] [] [.l,.E] λxs=>
 Ad D (φ 165) [Φ xs] [] [.l,.E] λxs1=>
 Δ ((ψ [iv x0_0,Φ [],bv Ξ,Φ [],bv Ξ,Φ xs1],[])))
 (Ad D (φ 95) [bv Ξ] [] [.a,.I,.L,.B,.L,.B,.L,.N,.E] λn xs b xs1 b1 xs2=>
 Δ ((ψ [iv n,Φ xs,bv b,Φ xs1,bv b1,Φ xs2],[]))))))):=by kernel_rfl
theorem AnZ(x0:Rw):BZ A D Al R4 .n 165 Vq [Φ x0] [] =
 Ad D (Aqn 165 0) [κ 0 0 0 6,Φ x0,iv ↑(AP x0),iv 0] [Ω [] U U] [.t,.C,.x,.X,.Y] λc l o=>
 br (Bf 1 c)
 (dk [.C,.q 1 6,.N,.D,.R,.X,.E] [.l l,.o o] λn cs1=>
 br ((0+n*6).ble cs1.length) (Δ ((Φ (Bl n 6 (Aqj (n*6) cs1)),[]))) Θ)
 (Θ):=by kernel_rfl
theorem YO(n3:Nat)(c3:List AV)(t6:Rw)(t7 t8:Int):Dl A D Al R4 .n 165 0 (AL Vq 0).fst (AL Vq 0).snd [κ 0 0 n3 6,Φ t6,iv t7,iv t8] [{ cells:=c3,st:=U,ex:=U }] =
 br (A.lt t8 t7)
 (unI t8 λi=>
 Bh t6 i λcs=>
 dk [.I,.L,.B,.L,.B,.L,.N] [.l cs] λn xs b xs1 b1 xs2=>
 Ad D (φ 107) [ψ [iv n,Φ xs,bv b,Φ xs1,bv b1,Φ xs2]] [] [.a,.I,.L,.B,.L,.B,.L,.N,.E] λn1 xs3 b2 xs4 b3 xs5=>
 br (Bc (n3+1) 96) (br ((0+n3*6).ble c3.length) (AG D (Aqn 165 0) [κ 0 0 (n3+1) 6,Φ t6,iv t7,iv (A.add δ t8 1)] [Ω (Aqp 0 (Aqj (0+n3*6) c3)++[iv n1,Φ xs3,bv b2,Φ xs4,bv b3,Φ xs5]) U U] λr1 o1=>
 AF 1 [3] (AH.mk [(3,Ω (Aqp 0 (Aqj (0+n3*6) c3)++[iv n1,Φ xs3,bv b2,Φ xs4,bv b3,Φ xs5]) U U),(2,Ω [iv n1,Φ xs3,bv b2,Φ xs4,bv b3,Φ xs5] U U),(1,bk [iv n,Φ xs,bv b,Φ xs1,bv b1,Φ xs2])] 4 Θ) [0] r1 o1) Θ) Θ)
 (Δ ((Aqm [iv 0,κ 1 0 n3 6],[BO.del,Aqu (Ω c3 U U)]))):=by kernel_rfl
end
section
open Go.RowKit
def Vs:MFn:=Au [⟨19,(mB 387),[],[],[(0,((mB 16),([],[]))),(1,([],([],[])))]⟩] 193
def R6:Hnt:=⟨[],[(0,[(0,([.int .i64],[])),(1,([],[]))])],[(14,[.int .i64]),(15,[.int .i64])]⟩
def Air:MFn:=Au [] 194
def AhQ:Hnt:=⟨[(62,(.agg CH,[])),(126,(.agg Bb,[]))],[],[]⟩
def Vn:MFn:=Au [⟨53,(mB 458950),[],[6,7],[(1,((mB 192),([],[])))]⟩] 132
def R1:Hnt:=⟨[(62,(.agg CH,[])),(125,(.agg CH,[])),(148,(.agg CH,[])),(185,(.agg CH,[])),(193,(.int .i64,[])),(194,(.agg CH,[]))],[(0,[(1,([.ptr 0 0,.ptr 1 0],[.box CH,.box CH]))])],[(12,Bb),(14,CH),(20,BC),(21,BC),(24,[.int .i64]),(34,CH),(36,[.int .i64]),(39,Bb),(42,CH),(45,CH),(46,CH),(48,Bb),(52,CH)]⟩
def AmA:MFn:=Au [] 59
def Al4:Hnt:=⟨[(132,(.agg CH,[]))],[],[(8,CH),(13,[.bool])]⟩
def Abg:List (Nat × MFn):=[(193,Vs),(194,Air),(132,Vn),(59,AmA)]
variable (A:Ar) (D:Orc)
theorem An9(x0:Rw)(x1:Int):BZ A D Al R6 .n 193 Vs [Φ x0,iv x1] [] =
 Ad D (Aqn 193 0) [Φ x0,iv x1,iv ↑(AP x0),iv 0] [] [.t,.C,.x,.X,.Y] λc l o=>
 br (Bf 0 c)
 (dk [.I,.N,.E] [.l l,.o o] λn=>
 Δ ((iv n,[])))
 (br (Bf 1 c)
 (Ea l<|
 CD o<|
 Δ ((iv (-1),[])))
 (Θ)):=by kernel_rfl
theorem YS(t0:Rw)(t1 t7 t8:Int):Dl A D Al R6 .n 193 0 (AL Vs 0).fst (AL Vs 0).snd [Φ t0,iv t1,iv t7,iv t8] [] =
 br (A.lt t8 t7)
 (unI t8 λi=>
 Bh t0 i λcs=>
 dk [.I,.N] [.l cs] λn=>
 br (A.eq t1 n)
 (Δ ((Aqm [bv U,iv t8],[])))
 (AG D (Aqn 193 0) [Φ t0,iv t1,iv t7,iv (A.add δ t8 1)] [] λr o=>
 AF 0 [] (AH.mk [] 0 Θ) [] r o))
 (Δ ((Aqm [iv 0],[]))):=by kernel_rfl
theorem Aoa(x0:Int):BZ A D Al AhQ .n 194 Air [iv x0] [] =
 Ad D (φ 126) [iv 1] [] [.a,.B,.L,.N,.E] λb xs=>
 Ad D (φ 62) [ψ [Φ [[iv x0,bv b,Φ xs]],bv Ξ,Φ []]] [] [.a,.L,.B,.L,.N,.E] λxs1 b1 xs2=>
 Δ ((ψ [Φ xs1,bv b1,Φ xs2],[])):=by kernel_rfl
theorem AnK(x0_0:Rw)(x0_1:Bool)(x0_2 x1 x2:Rw):BZ A D Al R1 .n 132 Vn [ψ [Φ x0_0,bv x0_1,Φ x0_2],Φ x1,Φ x2] [] =
 Ad D (φ 125) [ψ [bv x0_1,Φ x0_2]] [] [.a,.L,.B,.L,.N,.E] λxs b xs1=>
 Ad D (φ 62) [ψ [Φ x0_0,bv x0_1,Φ x0_2]] [] [.a,.L,.B,.L,.N,.E] λxs2 _ _=>
 Ad D (Aqn 132 0) [Φ x1,Φ x2,υ 0 0,υ 1 0,Φ xs2,iv ↑(AP xs2),iv 0] [bk [Φ [],bv Ξ,Φ []],bk [Φ xs,bv b,Φ xs1]] [.t,.C,.x,.X,.Y] λc l6 o2=>
 br (Bf 1 c)
 (dk [.P 0 0,.P 1 0,.N,.T,.L,.B,.L,.N,.T,.L,.B,.L,.N,.E] [.l l6,.o o2] λ_ _ _ xs6 b3 xs7=>
 Δ ((ψ [Φ xs6,bv b3,Φ xs7],[])))
 (Θ):=by kernel_rfl
theorem YJ(t1 t2 b6_0:Rw)(b6_1:Bool)(b6_2 b7_0:Rw)(b7_1:Bool)(b7_2 t16:Rw)(t17 t18:Int):Dl A D Al R1 .n 132 0 (AL Vn 0).fst (AL Vn 0).snd [Φ t1,Φ t2,υ 0 0,υ 1 0,Φ t16,iv t17,iv t18] [bk [Φ b6_0,bv b6_1,Φ b6_2],bk [Φ b7_0,bv b7_1,Φ b7_2]] =
 br (A.lt t18 t17)
 (unI t18 λi=>
 Bh t16 i λcs=>
 dk [.I,.B,.L,.N] [.l cs] λn b xs=>
 Ad D (φ 193) [Φ t1,iv n] [] [.i,.E] λn1=>
 br (A.lt n1 0)
 (Ad D (φ 194) [iv n] [] [.a,.L,.B,.L,.N,.E] λxs1 b1 xs2=>
 Ad D (φ 148) [ψ [Φ xs1,bv b1,Φ xs2],ψ [bv b,Φ xs]] [] [.a,.L,.B,.L,.N,.E] λxs3 b2 xs4=>
 Ad D (φ 185) [ψ [Φ b7_0,bv b7_1,Φ b7_2],ψ [Φ xs3,bv b2,Φ xs4]] [] [.a,.L,.B,.L,.N,.E] λxs5 b3 xs6=>
 AG D (Aqn 132 0) [Φ t1,Φ t2,υ 0 0,υ 1 0,Φ t16,iv t17,iv (A.add δ t18 1)] [bk [Φ b6_0,bv b6_1,Φ b6_2],bk [Φ xs5,bv b3,Φ xs6]] λr4 o4=>
 AF 2 [0,1] (AH.mk [(1,bk [Φ xs5,bv b3,Φ xs6]),(0,bk [Φ b6_0,bv b6_1,Φ b6_2]),(2,bk [iv n,bv b,Φ xs])] 3 Θ) [0,1] r4 o4)
 (br (A.le (↑(AP t2)) n1)
 (Ad D (φ 194) [iv n] [] [.a,.L,.B,.L,.N,.E] λxs1 b1 xs2=>
 Ad D (φ 148) [ψ [Φ xs1,bv b1,Φ xs2],ψ [bv b,Φ xs]] [] [.a,.L,.B,.L,.N,.E] λxs3 b2 xs4=>
 Ad D (φ 185) [ψ [Φ b7_0,bv b7_1,Φ b7_2],ψ [Φ xs3,bv b2,Φ xs4]] [] [.a,.L,.B,.L,.N,.E] λxs5 b3 xs6=>
 AG D (Aqn 132 0) [Φ t1,Φ t2,υ 0 0,υ 1 0,Φ t16,iv t17,iv (A.add δ t18 1)] [bk [Φ b6_0,bv b6_1,Φ b6_2],bk [Φ xs5,bv b3,Φ xs6]] λr4 o4=>
 AF 2 [0,1] (AH.mk [(1,bk [Φ xs5,bv b3,Φ xs6]),(0,bk [Φ b6_0,bv b6_1,Φ b6_2]),(2,bk [iv n,bv b,Φ xs])] 3 Θ) [0,1] r4 o4)
 (unI n1 λi1=>
 Bh t2 i1 λcs1=>
 dk [.L,.B,.L,.N] [.l cs1] λxs1 b1 xs2=>
 Ad D (φ 148) [ψ [Φ xs1,bv b1,Φ xs2],ψ [bv b,Φ xs]] [] [.a,.L,.B,.L,.N,.E] λxs3 b2 xs4=>
 Ad D (φ 185) [ψ [Φ b7_0,bv b7_1,Φ b7_2],ψ [Φ xs3,bv b2,Φ xs4]] [] [.a,.L,.B,.L,.N,.E] λxs5 b3 xs6=>
 AG D (Aqn 132 0) [Φ t1,Φ t2,υ 0 0,υ 1 0,Φ t16,iv t17,iv (A.add δ t18 1)] [bk [Φ b6_0,bv b6_1,Φ b6_2],bk [Φ xs5,bv b3,Φ xs6]] λr3 o3=>
 AF 2 [0,1] (AH.mk [(1,bk [Φ xs5,bv b3,Φ xs6]),(0,bk [Φ b6_0,bv b6_1,Φ b6_2]),(2,bk [iv n,bv b,Φ xs])] 3 Θ) [0,1] r3 o3)))
 (Δ ((Aqm [iv 0,υ 0 0,υ 1 0],[Aqu (bk [Φ b6_0,bv b6_1,Φ b6_2]),Aqu (bk [Φ b7_0,bv b7_1,Φ b7_2])]))):=by kernel_rfl
theorem e59(x0_0:Rw)(x0_1:Bool)(x0_2:Rw)(x0_3:Bool)(x1 x2:Rw):BZ A D Al Al4 .n 59 AmA [ψ [Φ x0_0,bv x0_1,Φ x0_2,bv x0_3],Φ x1,Φ x2] [] =
 Ad D (φ 132) [ψ [Φ x0_0,bv x0_1,Φ x0_2],Φ x1,Φ x2] [] [.a,.L,.B,.L,.N,.E] λxs b xs1=>
 Δ ((ψ [Φ xs,bv b,Φ xs1,bv x0_3],[])):=by kernel_rfl
end
