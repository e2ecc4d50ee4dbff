/- What the sort functions -/
import Derived.Test.YtpncilciembjdaaGreatDoorJAQ
set_option linter.all false
open Bool renaming false->Ξ,true->U
open List renaming append_assoc->Atp,append_nil->AtY,drop->Atg,drop_eq_getElem_cons->χ,drop_eq_nil_of_le->Atc,drop_of_length_le->AvJ,drop_zero->ι,flatten_cons->Aug,foldl_cons->AuZ,getElem?_eq_getElem->δ,getElem_mem->Ats,length_append->γ,length_cons->Ate,length_map->Atm,length_set->AtL,length_singleton->AtP,map_cons->Atu,map_nil->AtO,mem_cons_self->Atq,mem_map->AtH,nil_append->Atw,reverse_cons->Avd,take->ε
open Nat renaming ble->Atl,le_refl->η,le_trans->AtA,strongRecOn->Aun
open Option renaming none->Θ,some->Δ
namespace Go.Proofs.YtpncilciembjdaaGreatDoor
noncomputable section
open ABlk renaming mk->Ψ
open AV renaming agg->ξ,ls->Φ,ptr->ψ,sl->π,tup->Ath
open BO renaming set->Atb
open IntKind renaming i64->Ω
open Key renaming fn->ω,lp->ο
open Go.RowKit
theorem Dx{a b:Nat}(h:a+b<4611686018427387904):Ah.conv .i64 (Ah.shr .u64 (Ah.conv .u64 (Ah.add .i64 (a:Int) (b:Int))) 1)=(((a+b) / 2:Nat):Int):=by
 rw[Fo (by omega) (by omega),show (a:Int)+(b:Int)=((a+b:Nat):Int) by omega,CD (by omega)];have:Ah.shr .u64 ((a+b:Nat):Int) 1=(((a+b) / 2:Nat):Int):=by
  show Int.fdiv ((a+b:Nat):Int) (2 ^ 1)=_
  have:(2 ^ 1:Int)=((2:Nat):Int):=by decide
  rw[this,Int.fdiv_eq_ediv_of_nonneg _ (by omega)];rfl
 rw[this]
 show IntKind.i64.wrap (((a+b) / 2:Nat):Int)=_
 rw[IntKind.wrap_i64];omega
theorem Jn{a b:Nat}(h:a+b<4611686018427387904):Ah.add .i64 (a:Int) (b:Int)=((a+b:Nat):Int):=by
 rw[Fo (by omega) (by omega)];omega
theorem Cy{a b:Nat}(hb:b<=a)(h:a<4611686018427387904):Ah.sub .i64 (a:Int) (b:Int)=((a-b:Nat):Int):=by
 rw[DL (by omega) (by omega)];omega
theorem Hy{a:Nat}(hb:1<=a)(h:a<4611686018427387904):Ah.sub .i64 (a:Int) 1=((a-1:Nat):Int):=by
 rw[DL (by omega) (by omega)];omega
abbrev Eh(l:List Pt):ABlk:=Ψ (Aj eP l) U U
section
variable {D:Orc} (K:Knows Aq Es D)
include K
theorem Am6(a b n:Nat)(l0:List Pt):∀(m i:Nat) (l:List Pt),n-i=m->i<=n->a+n<=b->b+n<=l.length->l.length<=1000000000->l.length=l0.length->SwR l0 l a b i->
  ∃ r:List Pt,D.ask (.lp 275 0) [.sl 0 0 l.length 3,iv (a:Int),iv (b:Int),iv (n:Int),iv (i:Int)] [Eh l]=Δ (.tup [iv 0,.sl 0 0 l.length 3],[.set (Eh r)])
   ∧ r.length=l.length/\r.Perm l/\SwR l0 r a b n:=by
 intro m
 induction m with
 |zero=>
  intro i l hm hi ha hb hl h0 hs;obtain rfl:i=n:=by omega
  refine⟨l,?_,rfl,List.Perm.refl _,hs⟩;refine Ax K Sz (Aai ..) ?_;exact At rfl
 |succ m ih=>
  intro i l hm hi ha hb hl h0 hs;have hI:a+i<l.length:=by omega
  have hJ:b+i<l.length:=by omega
  have hlen:=Im l (a+i) (b+i);obtain⟨r,g,hr,hp,ho⟩:=ih (i+1) (Dg l (a+i) (b+i)) (by omega) (by omega) ha (by omega) (by omega) (by omega) (Acw (by omega) (by omega) hs h0);rw[hlen]at g hr;refine⟨r,?_,hr,hp.trans (GH _ _ _),ho⟩;refine Ax K Sz (Aai ..) ?_;refine Au ?_;rw[Jn (a:=b) (b:=i) (by omega),Jn (a:=a) (b:=i) (by omega),BE (by omega)];rw[AC,AJ hJ];refine Af ?_;refine(By Av l (b+i) hJ _).trans ?_;simp only[eP,eN,Ai];rw[AC,AJ hI];refine Af ?_;refine(By Av l (a+i) hI _).trans ?_;simp only[eP,eN,Ai];have s1:=BX Av l (a+i) hI l[(b+i)];have s2:=BX Av (l.set (a+i) l[(b+i)]) (b+i) (by rw[AtL];exact hJ) l[(a+i)];rw[←DY hI hJ]at s2;simp only[eP,eN]at s1 s2;rw[AC,AJ hI];refine Af ?_;rw[show Atl (0+(a+i)*3+3) (Aj eP l).length=U by rw[AR Av];simp;omega];refine Af ?_;rw[AC,AJ hJ];refine Af ?_;rw[s1,s2];rw[show Atl (0+(b+i)*3+3) (Aj eP (l.set (a+i) l[(b+i)])).length=U by rw[AR Av,AtL];simp;omega];refine Af ?_;refine Ab g ?_;rfl
theorem VC{a b n:Nat}{l:List Pt}(ha:a+n<=b)(hb:b+n<=l.length)(hl:l.length<=1000000000) :
  ∃ r:List Pt,D.ask (.fn 275) [.sl 0 0 l.length 3,iv (a:Int),iv (b:Int),iv (n:Int),E5] [Eh l]=Δ (.tup [],[.set (Eh r)])
   ∧ r.length=l.length/\r.Perm l/\SwR l r a b n:=by
 obtain⟨r,g,h⟩:=Am6 K a b n l _ 0 l rfl (by omega) ha hb hl rfl (Acx l a b);refine⟨r,?_,h⟩;refine Az K Sz (Aq7 ..) ?_;refine Ab g ?_;rfl
theorem AmX(m:Nat):∀(s i j:Nat) (l:List Pt),i+j=s->0<i->0<j->i<=m->m+j<=l.length->l.length<=1000000000->
  ∃(r:List Pt) (d:Nat),D.ask (.lp 265 0) [.sl 0 0 l.length 3,iv (m:Int),E5,iv (i:Int),iv (j:Int)] [Eh l]=Δ (.tup [iv 0,.sl 0 0 l.length 3,iv (m:Int),E5,iv (d:Int)],[.set (Eh r)])
   ∧ r.length=l.length/\r.Perm l/\d<=m/\m+d<=l.length/\∀ r2:List Pt,SwR r r2 (m-d) m d->Rot l r2 (m-i) m (m+j):=by
 intro s
 induction s using Aun with
 |_ s ih=>
  intro i j l hs hi hj him hl hn
  by_cases he:i=j
  .subst he
   refine⟨l,i,?_,rfl,List.Perm.refl _,him,hl,λr2 h=>Ab6 him h⟩;refine Ax K Ps (Up ..) ?_;exact Ba rfl rfl
  by_cases hlt:j<i
  .obtain⟨r,g,hr,hp,hsw⟩:=VC K (a:=m-i) (b:=m) (n:=j) (l:=l) (by omega) hl hn
   obtain⟨r2,d,g2,hr2,hp2,hd1,hd2,hd3⟩:=ih (i-j+j) (by omega) (i-j) j r rfl (by omega) hj (by omega) (by omega) (by omega);rw[hr]at g2 hr2 hd2;refine⟨r2,d,?_,hr2,hp2.trans hp,hd1,hd2,λr3 h=>Ab4 him hlt hsw (hd3 r3 h)⟩;refine Ax K Ps (Up ..) ?_;refine AO ?_;refine Au ?_;rw[Cy him (by omega),Cy (a:=i) (b:=j) (by omega) (by omega)];refine Ab g ?_;simp only[E5,Ai];refine Ab g2 ?_;rfl
  .obtain⟨r,g,hr,hp,hsw⟩:=VC K (a:=m-i) (b:=m+j-i) (n:=i) (l:=l) (by omega) (by omega) hn
   obtain⟨r2,d,g2,hr2,hp2,hd1,hd2,hd3⟩:=ih (i+(j-i)) (by omega) i (j-i) r rfl hi (by omega) him (by omega) (by omega);rw[hr]at g2 hr2 hd2;refine⟨r2,d,?_,hr2,hp2.trans hp,hd1,hd2,λr3 h=>Yg him (by omega) hsw (hd3 r3 h)⟩;refine Ax K Ps (Up ..) ?_;refine AO ?_;refine At ?_;rw[Cy him (by omega),Jn (a:=m) (b:=j) (by omega),Cy (a:=m+j) (b:=i) (by omega) (by omega),Cy (a:=j) (b:=i) (by omega) (by omega)];refine Ab g ?_;simp only[E5,Ai];refine Ab g2 ?_;rfl
theorem Ab5{a m b:Nat}{l:List Pt}(ha:a<m)(hm:m<b)(hb:b<=l.length)(hl:l.length<=1000000000) :
  ∃ r:List Pt,D.ask (.fn 265) [.sl 0 0 l.length 3,iv (a:Int),iv (m:Int),iv (b:Int),E5] [Eh l]=Δ (.tup [],[.set (Eh r)])
   ∧ r.length=l.length/\r.Perm l/\Rot l r a m b:=by
 obtain⟨r,d,g,hr,hp,hd1,hd2,hd3⟩:=AmX K m _ (m-a) (b-m) l rfl (by omega) (by omega) (by omega) (by omega) hl;obtain⟨r2,g2,hr2,hp2,hsw⟩:=VC K (a:=m-d) (b:=m) (n:=d) (l:=r) (by omega) (by omega) (by omega);have h:=hd3 r2 hsw;rw[show m-(m-a)=a by omega,show m+(b-m)=b by omega]at h;rw[hr]at g2;refine⟨r2,?_,by omega,hp2.trans hp,h⟩;refine Az K Ps (Aq6 ..) ?_;rw[Cy (a:=m) (b:=a) (by omega) (by omega),Cy (a:=b) (b:=m) (by omega) (by omega)];refine Ab g ?_;simp only[E5,Ai];rw[Cy hd1 (by omega)];refine Ab g2 ?_;rfl
theorem Ait(a m b:Nat)(l:List Pt)(hl:l.length<=1000000000)(ha:a<m)(hb:b<=l.length)(hs:Srt Pt.v l m b):∀(k i j:Nat),j-i=k->m<=i->i<=j->j<=b->(∀ p,m<=p->p<i->kf Pt.v l p<kf Pt.v l a)->(∀ p,j<=p->p<b->kf Pt.v l a<=kf Pt.v l p)->
  ∃ x:Nat,D.ask (.lp 235 0) [.sl 0 0 l.length 3,iv (a:Int),E5,iv (i:Int),iv (j:Int)] [Eh l]=Δ (.tup [iv 0,.sl 0 0 l.length 3,iv (a:Int),iv (x:Int)],[.set (Eh l)])
   ∧ m<=x/\x<=b/\(∀ p,m<=p->p<x->kf Pt.v l p<kf Pt.v l a)/\(∀ p,x<=p->p<b->kf Pt.v l a<=kf Pt.v l p):=by
 intro k
 induction k using Aun with
 |_ k ih=>
  intro i j hk hmi hij hjb h1 h2
  by_cases he:i<j
  .have hH:(i+j) / 2<l.length:=by omega
   have hA:a<l.length:=by omega
   have kh:kf Pt.v l ((i+j) / 2)=l[(i+j) / 2].v:=Fy Pt.v hH;have ka:kf Pt.v l a=l[a].v:=Fy Pt.v hA
   by_cases hlt:l[(i+j) / 2].v<l[a].v
   .obtain⟨x,g,hx⟩:=ih (j-((i+j) / 2+1)) (by omega) ((i+j) / 2+1) j rfl (by omega) (by omega) hjb (λp p1 p2=>by
     by_cases hp:p=(i+j) / 2
     .rw[hp,kh,ka];exact hlt
     .have:=hs p ((i+j) / 2) p1 (by omega) (by omega)
      omega) h2
    refine⟨x,?_,hx⟩;refine Ax K CG (Um ..) ?_;refine Au ?_;refine At ?_ (by decide);rw[Dx (by omega),BE (by omega)];rw[AC,AJ hH];refine Af ?_;refine(By Av l ((i+j) / 2) hH _).trans ?_;simp only[eP,eN,Ai];rw[AC,AJ hA];refine Af ?_;refine(By Av l a hA _).trans ?_;simp only[eP,eN,Ai];refine Ab (G8 (FZ K) l[(i+j) / 2] l[a]) ?_;simp only[Ai];refine Au ?_ (E9.2 hlt);refine Ab g ?_;rfl
   .obtain⟨x,g,hx⟩:=ih ((i+j) / 2-i) (by omega) i ((i+j) / 2) rfl hmi (by omega) (by omega) h1 (λp p1 p2=>by
     by_cases hp:p=(i+j) / 2
     .rw[hp];omega
     .have:=hs ((i+j) / 2) p (by omega) (by omega) (by omega)
      omega)
    refine⟨x,?_,hx⟩;refine Ax K CG (Um ..) ?_;refine Au ?_;refine At ?_ (by decide);rw[Dx (by omega)];rw[AC,AJ hH];refine Af ?_;refine(By Av l ((i+j) / 2) hH _).trans ?_;simp only[eP,eN,Ai];rw[AC,AJ hA];refine Af ?_;refine(By Av l a hA _).trans ?_;simp only[eP,eN,Ai];refine Ab (G8 (FZ K) l[(i+j) / 2] l[a]) ?_;simp only[Ai];refine At ?_ (λh=>hlt (E9.1 h));refine Ab g ?_;rfl
  .obtain rfl:i=j:=by omega
   refine⟨i,?_,hmi,hjb,h1,h2⟩;refine Ax K CG (Um ..) ?_;exact At rfl
theorem Aiu(a x:Nat)(l0:List Pt):∀(n k:Nat) (l:List Pt),x-1-k=n->a<=k->k<x->x<=l.length->l.length<=1000000000->l.length=l0.length->Rot l0 l a (a+1) (k+1)->
  ∃ r:List Pt,D.ask (.lp 235 1) [.sl 0 0 l.length 3,iv (x:Int),iv (k:Int)] [Eh l]=Δ (.tup [iv 2,.sl 0 0 l.length 3],[.set (Eh r)])
   ∧ r.length=l.length/\r.Perm l/\Rot l0 r a (a+1) x:=by
 intro n
 induction n with
 |zero=>
  intro k l hn ha hk hx hl h0 ht;obtain rfl:x=k+1:=by omega
  refine⟨l,?_,rfl,List.Perm.refl _,ht⟩;refine Ax K CG (Aae ..) ?_;rw[Hy (by omega) (by omega)];exact At rfl
 |succ n ih=>
  intro k l hn ha hk hx hl h0 ht;have hI:k<l.length:=by omega
  have hJ:k+1<l.length:=by omega
  have hlen:=Im l k (k+1);obtain⟨r,g,hr,hp,ho⟩:=ih (k+1) (Dg l k (k+1)) (by omega) (by omega) (by omega) (by omega) (by omega) (by omega) (AmY ha (by omega) h0 ht);rw[hlen]at g hr;refine⟨r,?_,hr,hp.trans (GH _ _ _),ho⟩;refine Ax K CG (Aae ..) ?_;rw[Hy (by omega) (by omega)];refine Au ?_;rw[BE (by omega)];rw[AC,AJ hJ];refine Af ?_;refine(By Av l (k+1) hJ _).trans ?_;simp only[eP,eN,Ai];rw[AC,AJ hI];refine Af ?_;refine(By Av l k hI _).trans ?_;simp only[eP,eN,Ai];have s1:=BX Av l k hI l[(k+1)];have s2:=BX Av (l.set k l[(k+1)]) (k+1) (by rw[AtL];exact hJ) l[k];rw[←DY hI hJ]at s2;simp only[eP,eN]at s1 s2;rw[AC,AJ hI];refine Af ?_;rw[show Atl (0+k*3+3) (Aj eP l).length=U by rw[AR Av];simp;omega];refine Af ?_;rw[AC,AJ hJ];refine Af ?_;rw[s1,s2];rw[show Atl (0+(k+1)*3+3) (Aj eP (l.set k l[(k+1)])).length=U by rw[AR Av,AtL];simp;omega];refine Af ?_;refine Ab g ?_;rfl
theorem Aiv(a m:Nat)(l:List Pt)(hl:l.length<=1000000000)(hb:m<l.length)(hs:Srt Pt.v l a m):∀(k i j:Nat),j-i=k->a<=i->i<=j->j<=m->(∀ p,a<=p->p<i->kf Pt.v l p<=kf Pt.v l m)->(∀ p,j<=p->p<m->kf Pt.v l m<kf Pt.v l p)->
  ∃ x:Nat,D.ask (.lp 235 2) [.sl 0 0 l.length 3,iv (m:Int),E5,iv (i:Int),iv (j:Int)] [Eh l]=Δ (.tup [iv 4,.sl 0 0 l.length 3,iv (m:Int),iv (x:Int)],[.set (Eh l)])
   ∧ a<=x/\x<=m/\(∀ p,a<=p->p<x->kf Pt.v l p<=kf Pt.v l m)/\(∀ p,x<=p->p<m->kf Pt.v l m<kf Pt.v l p):=by
 intro k
 induction k using Aun with
 |_ k ih=>
  intro i j hk hmi hij hjb h1 h2
  by_cases he:i<j
  .have hH:(i+j) / 2<l.length:=by omega
   have kh:kf Pt.v l ((i+j) / 2)=l[(i+j) / 2].v:=Fy Pt.v hH;have ka:kf Pt.v l m=l[m].v:=Fy Pt.v hb
   by_cases hlt:l[m].v<l[(i+j) / 2].v
   .obtain⟨x,g,hx⟩:=ih ((i+j) / 2-i) (by omega) i ((i+j) / 2) rfl hmi (by omega) (by omega) h1 (λp p1 p2=>by
     by_cases hp:p=(i+j) / 2
     .rw[hp];omega
     .have:=hs ((i+j) / 2) p (by omega) (by omega) (by omega)
      omega)
    refine⟨x,?_,hx⟩;refine Ax K CG (Un ..) ?_;refine Au ?_;refine At ?_ (by decide);rw[Dx (by omega)];rw[AC,AJ hb];refine Af ?_;refine(By Av l m hb _).trans ?_;simp only[eP,eN,Ai];rw[AC,AJ hH];refine Af ?_;refine(By Av l ((i+j) / 2) hH _).trans ?_;simp only[eP,eN,Ai];refine Ab (G8 (FZ K) l[m] l[(i+j) / 2]) ?_;simp only[Ai];refine Au ?_ (E9.2 hlt);refine Ab g ?_;rfl
   .obtain⟨x,g,hx⟩:=ih (j-((i+j) / 2+1)) (by omega) ((i+j) / 2+1) j rfl (by omega) (by omega) hjb (λp p1 p2=>by
     by_cases hp:p=(i+j) / 2
     .rw[hp];omega
     .have:=hs p ((i+j) / 2) p1 (by omega) (by omega)
      omega) h2
    refine⟨x,?_,hx⟩;refine Ax K CG (Un ..) ?_;refine Au ?_;refine At ?_ (by decide);rw[Dx (by omega),BE (by omega)];rw[AC,AJ hb];refine Af ?_;refine(By Av l m hb _).trans ?_;simp only[eP,eN,Ai];rw[AC,AJ hH];refine Af ?_;refine(By Av l ((i+j) / 2) hH _).trans ?_;simp only[eP,eN,Ai];refine Ab (G8 (FZ K) l[m] l[(i+j) / 2]) ?_;simp only[Ai];refine At ?_ (λh=>hlt (E9.1 h));refine Ab g ?_;rfl
  .obtain rfl:i=j:=by omega
   refine⟨i,?_,hmi,hjb,h1,h2⟩;refine Ax K CG (Un ..) ?_;exact At rfl
theorem Aiw(m x:Nat)(l0:List Pt):∀(n k:Nat) (l:List Pt),k-x=n->x<=k->k<=m->m<l.length->l.length<=1000000000->l.length=l0.length->Rot l0 l k m (m+1)->
  ∃ r:List Pt,D.ask (.lp 235 3) [.sl 0 0 l.length 3,iv (x:Int),iv (k:Int)] [Eh l]=Δ (.tup [iv 6,.sl 0 0 l.length 3],[.set (Eh r)])
   ∧ r.length=l.length/\r.Perm l/\Rot l0 r x m (m+1):=by
 intro n
 induction n with
 |zero=>
  intro k l hn hx hk hm hl h0 ht;obtain rfl:x=k:=by omega
  refine⟨l,?_,rfl,List.Perm.refl _,ht⟩;refine Ax K CG (Aaf ..) ?_;exact At rfl
 |succ n ih=>
  intro k l hn hx hk hm hl h0 ht;obtain⟨j,rfl⟩:∃ j,k=j+1:=⟨k-1,by omega⟩;have hI:j+1<l.length:=by omega
  have hJ:j<l.length:=by omega
  have hlen:=Im l (j+1) j;obtain⟨r,g,hr,hp,ho⟩:=ih j (Dg l (j+1) j) (by omega) (by omega) (by omega) (by omega) (by omega) (by omega) (Ab3 (by omega) (by omega) h0 ht);rw[hlen]at g hr;refine⟨r,?_,hr,hp.trans (GH _ _ _),ho⟩;refine Ax K CG (Aaf ..) ?_;refine Au ?_;rw[Ow (by omega)];rw[AC,AJ hJ];refine Af ?_;refine(By Av l j hJ _).trans ?_;simp only[eP,eN,Ai];rw[AC,AJ hI];refine Af ?_;refine(By Av l (j+1) hI _).trans ?_;simp only[eP,eN,Ai];have s1:=BX Av l (j+1) hI l[j];have s2:=BX Av (l.set (j+1) l[j]) j (by rw[AtL];exact hJ) l[(j+1)];rw[←DY hI hJ]at s2;simp only[eP,eN]at s1 s2;rw[AC,AJ hI];refine Af ?_;rw[show Atl (0+(j+1)*3+3) (Aj eP l).length=U by rw[AR Av];simp;omega];refine Af ?_;rw[AC,AJ hJ];refine Af ?_;rw[s1,s2];rw[show Atl (0+j*3+3) (Aj eP (l.set (j+1) l[j])).length=U by rw[AR Av,AtL];simp;omega];refine Af ?_;refine Ab g ?_;rfl
theorem WQ(a m b mid x y:Nat)(l:List Pt)(hl:l.length<=1000000000)(hb:b<=l.length)(hs1:Srt Pt.v l a m)(hs2:Srt Pt.v l m b)(hx:a<=x)(hy:y<=m)(hn:mid+m<=x+b)(hm:y<=mid)(hmid:mid<=b)(hmb:m<=b):∀(k s r:Nat),r-s=k->Bs Pt.v l (mid+m) x y s r->
  ∃ z:Nat,D.ask (.lp 235 4) [.sl 0 0 l.length 3,iv (a:Int),iv (m:Int),iv (b:Int),E5,iv (mid:Int),iv ((mid+m:Nat):Int),iv (s:Int),iv (r:Int),iv ((mid+m-1:Nat):Int)] [Eh l]=Δ (.tup [iv 8,.sl 0 0 l.length 3,iv (a:Int),iv (m:Int),iv (b:Int),E5,iv (mid:Int),iv ((mid+m:Nat):Int),iv (z:Int)],[.set (Eh l)])
   ∧ Bs Pt.v l (mid+m) x y z z:=by
 intro k
 induction k using Aun with
 |_ k ih=>
  intro s r hk B;have:=B.xs;have:=B.sr;have:=B.ry
  by_cases he:s<r
  .have hH:(s+r) / 2<l.length:=by omega
   have hP:mid+m-1-(s+r) / 2<l.length:=by omega
   have kh:kf Pt.v l ((s+r) / 2)=l[(s+r) / 2].v:=Fy Pt.v hH;have kp:kf Pt.v l (mid+m-1-(s+r) / 2)=l[mid+m-1-(s+r) / 2].v:=Fy Pt.v hP
   by_cases hlt:l[mid+m-1-(s+r) / 2].v<l[(s+r) / 2].v
   .obtain⟨z,g,hz⟩:=ih ((s+r) / 2-s) (by omega) s ((s+r) / 2) rfl (B.dn Pt.v hs1 hs2 hx hy (by omega) (by omega) (by omega) (by omega) (by omega))
    refine⟨z,?_,hz⟩;refine Ax K CG (Uo ..) ?_;refine Au ?_;refine At ?_ (by decide);rw[Dx (by omega),Cy (a:=mid+m-1) (b:=(s+r) / 2) (by omega) (by omega)];rw[AC,AJ hP];refine Af ?_;refine(By Av l (mid+m-1-(s+r) / 2) hP _).trans ?_;simp only[eP,eN,Ai];rw[AC,AJ hH];refine Af ?_;refine(By Av l ((s+r) / 2) hH _).trans ?_;simp only[eP,eN,Ai];refine Ab (G8 (FZ K) l[mid+m-1-(s+r) / 2] l[(s+r) / 2]) ?_;simp only[Ai];refine Au ?_ (E9.2 hlt);refine Ab g ?_;rfl
   .obtain⟨z,g,hz⟩:=ih (r-((s+r) / 2+1)) (by omega) ((s+r) / 2+1) r rfl (B.up Pt.v hs1 hs2 hx hy (by omega) (by omega) (by omega) (by omega) (by omega))
    refine⟨z,?_,hz⟩;refine Ax K CG (Uo ..) ?_;refine Au ?_;refine At ?_ (by decide);rw[Dx (by omega),Cy (a:=mid+m-1) (b:=(s+r) / 2) (by omega) (by omega),BE (by omega)];rw[AC,AJ hP];refine Af ?_;refine(By Av l (mid+m-1-(s+r) / 2) hP _).trans ?_;simp only[eP,eN,Ai];rw[AC,AJ hH];refine Af ?_;refine(By Av l ((s+r) / 2) hH _).trans ?_;simp only[eP,eN,Ai];refine Ab (G8 (FZ K) l[mid+m-1-(s+r) / 2] l[(s+r) / 2]) ?_;simp only[Ai];refine At ?_ (λh=>hlt (E9.1 h));refine Ab g ?_;rfl
  .obtain rfl:s=r:=by omega
   refine⟨s,?_,B⟩;refine Ax K CG (Uo ..) ?_;exact At rfl
end
def YR(D:Orc)(n:Nat)(mid e b:Int)(cs:Aa):KR:=
 br (Ah.lt mid e)
  (br (Ah.lt e b)
   (AT D (.fn 235) [.sl 0 0 n 3,iv mid,iv e,iv b,E5] [Ψ cs U U] λr o=>
   Ky r λcs4=>
   E0 cs4<|
   Ez o λc l=>
   F7 U U c λcs5=>
   CW l<|
   Δ ((Ath [],[Atb (Ψ cs5 U U)])))
   (Δ ((Ath [],[Atb (Ψ cs U U)]))))
  (Δ ((Ath [],[Atb (Ψ cs U U)])))
def tl1(D:Orc)(n:Nat)(a s mid e b:Int)(cs:Aa):KR:=
 br (Ah.lt a s)
  (br (Ah.lt s mid)
   (AT D (.fn 235) [.sl 0 0 n 3,iv a,iv s,iv mid,E5] [Ψ cs U U] λr o=>
   Ky r λcs4=>
   E0 cs4<|
   Ez o λc l=>
   F7 U U c λcs5=>
   CW l<|
   YR D n mid e b cs5)
   (YR D n mid e b cs))
  (YR D n mid e b cs)
section
variable {D:Orc}
def Ms(D:Orc)(N:Nat):Prop:=∀(l:List Pt) (a m b:Nat),b-a<N->a<m->m<b->b<=l.length->l.length<=1000000000->Srt Pt.v l a m->Srt Pt.v l m b->
 ∃ r:List Pt,D.ask (.fn 235) [.sl 0 0 l.length 3,iv (a:Int),iv (m:Int),iv (b:Int),E5] [Eh l]=Δ (.tup [],[.set (Eh r)])
  ∧ r.length=l.length/\r.Perm l/\Srt Pt.v r a b/\Same0 l r a b
theorem Ana{N:Nat}(ih:Ms D N){l:List Pt}{mid e b:Nat}(hN:b-mid<N)(h1:mid<=e)(h2:e<=b)(hb:b<=l.length)(hl:l.length<=1000000000)(s1:Srt Pt.v l mid e)(s2:Srt Pt.v l e b) :
  ∃ r:List Pt,YR D l.length (mid:Int) (e:Int) (b:Int) (Aj eP l)=Δ (.tup [],[.set (Eh r)])/\r.length=l.length/\r.Perm l/\Srt Pt.v r mid b/\Same0 l r mid b:=by
 by_cases q1:mid<e
 .by_cases q2:e<b
  .obtain⟨r,g,hr,hp,ho,hs⟩:=ih l mid e b hN q1 q2 hb hl s1 s2
   refine⟨r,?_,hr,hp,ho,hs⟩;unfold YR;refine Au ?_;refine Au ?_;refine Ab g ?_;rfl
  .refine⟨l,?_,rfl,List.Perm.refl _,Kb Pt.v (.inr (by omega)) s1 s2,Df _ _ _⟩
   unfold YR;refine Au ?_;exact At rfl
 .refine⟨l,?_,rfl,List.Perm.refl _,Kb Pt.v (.inl (by omega)) s1 s2,Df _ _ _⟩
  unfold YR;exact At rfl
theorem Lq{N:Nat}(ih:Ms D N){l:List Pt}{a s mid e b:Nat}(hN:mid-a<N)(hN2:b-mid<N)(h1:a<=s)(h2:s<=mid)(h3:mid<=e)(h4:e<=b)(hb:b<=l.length)(hl:l.length<=1000000000)(s1:Srt Pt.v l a s)(s2:Srt Pt.v l s mid)(s3:Srt Pt.v l mid e)(s4:Srt Pt.v l e b)(lo:Low Pt.v l a mid b) :
  ∃ r:List Pt,tl1 D l.length (a:Int) (s:Int) (mid:Int) (e:Int) (b:Int) (Aj eP l)=Δ (.tup [],[.set (Eh r)])/\r.length=l.length/\r.Perm l/\Srt Pt.v r a b/\Same0 l r a b:=by
 have fin:∀{l1:List Pt},l1.length=l.length->l1.Perm l->Srt Pt.v l1 a mid->Same0 l l1 a mid->∃ r:List Pt,YR D l.length (mid:Int) (e:Int) (b:Int) (Aj eP l1)=Δ (.tup [],[.set (Eh r)])/\r.length=l.length/\r.Perm l/\Srt Pt.v r a b/\Same0 l r a b:=by
  intro l1 k1 k2 k3 k4;have lo1:=Abg Pt.v lo k2 k4 (by omega);obtain⟨r,g,hr,hp,ho,hs⟩:=Ana ih (l:=l1) (mid:=mid) (e:=e) (b:=b) hN2 h3 h4 (by omega) (by omega) (s3.same' Pt.v k4 (.inr (η _))) (s4.same' Pt.v k4 (.inr h3));rw[k1]at g hr;exact⟨r,g,hr,hp.trans k2,Aim Pt.v (k3.same' Pt.v hs (.inl (η _))) ho (XO Pt.v lo1 hp hs (by omega)),(k4.wide (η _) (by omega)).trans (hs.wide (by omega) (η _))⟩
 by_cases q1:a<s
 .by_cases q2:s<mid
  .obtain⟨r,g,hr,hp,ho,hs⟩:=ih l a s mid hN q1 q2 (by omega) hl s1 s2
   obtain⟨r2,g2,h⟩:=fin hr hp ho hs;refine⟨r2,?_,h⟩;unfold tl1;refine Au ?_;refine Au ?_;refine Ab g ?_;exact g2
  .obtain⟨r2,g2,h⟩:=fin (l1:=l) rfl (List.Perm.refl _) (Kb Pt.v (.inr (by omega)) s1 s2) (Df _ _ _)
   refine⟨r2,?_,h⟩;unfold tl1;refine Au ?_;exact(DO (by omega)).trans g2
 .obtain⟨r2,g2,h⟩:=fin (l1:=l) rfl (List.Perm.refl _) (Kb Pt.v (.inl (by omega)) s1 s2) (Df _ _ _)
  refine⟨r2,?_,h⟩;unfold tl1;exact(DO (by omega)).trans g2
variable (K:Knows Aq Es D)
include K
theorem Ais:∀ N,Ms D N:=by
 intro N
 induction N with
 |zero=>intro l a m b h;omega
 |succ N ih0=>
  intro l a m b hN ha hm hb hl hs1 hs2
  by_cases hA:m-a=1
  .obtain rfl:m=a+1:=by omega
   obtain⟨x,g1,x1,x2,x3,x4⟩:=Ait K a (a+1) b l hl (by omega) hb hs2 _ (a+1) b rfl (η _) (by omega) (η _) (λp p1 p2=>by omega) (λp p1 p2=>by omega);obtain⟨r,g2,r1,r2,r3⟩:=Aiu K a x l _ a l rfl (η _) (by omega) (by omega) hl rfl (FV (.inr rfl) (by omega) (by omega));refine⟨r,?_,r1,r2,SR Pt.v x1 x2 hs2 x3 x4 r3,λp hp=>r3.out p (by omega)⟩;refine Az K CG (R1 ..) ?_;rw[Cy (a:=a+1) (b:=a) (by omega) (by omega)];refine Ba ?_;refine Ab g1 ?_;simp only[E5,Ai];refine Ab g2 ?_;rfl
  by_cases hB:b-m=1
  .obtain rfl:b=m+1:=by omega
   obtain⟨x,g1,x1,x2,x3,x4⟩:=Aiv K a m l hl (by omega) hs1 _ a m rfl (η _) (by omega) (η _) (λp p1 p2=>by omega) (λp p1 p2=>by omega);obtain⟨r,g2,r1,r2,r3⟩:=Aiw K m x l _ m l rfl x2 (η _) (by omega) hl rfl (FV (.inl rfl) (by omega) (by omega));refine⟨r,?_,r1,r2,UW Pt.v x1 x2 hs1 x3 x4 r3,λp hp=>r3.out p (by omega)⟩;refine Az K CG (R1 ..) ?_;rw[Cy (a:=m) (b:=a) (by omega) (by omega)];refine AO ?_;rw[Cy (a:=m+1) (b:=m) (by omega) (by omega)];refine Ba ?_;refine Ab g1 ?_;simp only[E5,Ai];refine Af ?_;refine Ab g2 ?_;rfl
  have ih:Ms D N:=ih0
  by_cases hC:(a+b) / 2<m
  .obtain⟨z,g4,B⟩:=WQ K a m b ((a+b) / 2) ((a+b) / 2+m-b) ((a+b) / 2) l hl hb hs1 hs2 (by omega) (by omega) (by omega) (by omega) (by omega) (by omega) _ ((a+b) / 2+m-b) ((a+b) / 2) rfl ⟨η _,by omega,η _,λc c1 c2=>by omega,λc c1 c2=>by omega⟩
   have C:=B.cut Pt.v hs1 hs2 (by omega) (by omega) (by omega) (by omega) (.inr (by omega)) (.inr rfl);have:=C.asl;have:=C.sm;have:=C.me;have:=C.eb;have:=C.mid;have:=B.ry;have:=B.xs;have e0:Ah.sub .i64 (((a+b) / 2+m:Nat):Int) (z:Int)=(((a+b) / 2+m-z:Nat):Int):=Cy (by omega) (by omega)
   by_cases w1:z<m
   .by_cases w2:m<(a+b) / 2+m-z
    .obtain⟨l1,g5,k1,k2,k3⟩:=Ab5 K w1 w2 (by omega) hl
     obtain⟨f1,f2,f3,f4,f5⟩:=EH Pt.v C hs1 hs2 k3;obtain⟨r,g6,r1,r2,r3,r4⟩:=Lq ih (l:=l1) (a:=a) (s:=z) (mid:=(a+b) / 2) (e:=(a+b) / 2+m-z) (b:=b) (by omega) (by omega) (by omega) (by omega) (by omega) (by omega) (by omega) (by omega) f1 f2 f3 f4 f5;have sm:Same0 l l1 a b:=λp hp=>k3.out p (by omega)
     rw[k1]at g6 r1;refine⟨r,?_,r1,r2.trans k2,r3,sm.trans r4⟩;refine Az K CG (R1 ..) ?_;rw[Cy (a:=m) (b:=a) (by omega) (by omega)];refine AO ?_;rw[Cy (a:=b) (b:=m) (by omega) (by omega)];refine AO ?_;refine At ?_ (by decide);rw[Dx (a:=a) (b:=b) (by omega)];rw[Jn (a:=(a+b) / 2) (b:=m) (by omega),Hy (a:=(a+b) / 2+m) (by omega) (by omega)];rw[Cy (a:=(a+b) / 2+m) (b:=b) (by omega) (by omega)];refine Au ?_;refine Ab g4 ?_;simp only[E5,Ai];refine Af ?_;rw[e0];refine Au ?_;refine Au ?_;refine Ab g5 ?_;exact g6
    .obtain⟨f1,f2,f3,f4,f5⟩:=EH Pt.v C hs1 hs2 (FV (l:=l) (.inr (by omega)) (by omega) (by omega))
     obtain⟨r,g6,r1,r2,r3,r4⟩:=Lq ih (l:=l) (a:=a) (s:=z) (mid:=(a+b) / 2) (e:=(a+b) / 2+m-z) (b:=b) (by omega) (by omega) (by omega) (by omega) (by omega) (by omega) (by omega) (by omega) f1 f2 f3 f4 f5;refine⟨r,?_,r1,r2,r3,r4⟩;refine Az K CG (R1 ..) ?_;rw[Cy (a:=m) (b:=a) (by omega) (by omega)];refine AO ?_;rw[Cy (a:=b) (b:=m) (by omega) (by omega)];refine AO ?_;refine At ?_ (by decide);rw[Dx (a:=a) (b:=b) (by omega)];rw[Jn (a:=(a+b) / 2) (b:=m) (by omega),Hy (a:=(a+b) / 2+m) (by omega) (by omega)];rw[Cy (a:=(a+b) / 2+m) (b:=b) (by omega) (by omega)];refine Au ?_;refine Ab g4 ?_;simp only[E5,Ai];refine Af ?_;rw[e0];refine Au ?_;refine At ?_;exact g6
   .obtain⟨f1,f2,f3,f4,f5⟩:=EH Pt.v C hs1 hs2 (FV (l:=l) (.inl (by omega)) (by omega) (by omega))
    obtain⟨r,g6,r1,r2,r3,r4⟩:=Lq ih (l:=l) (a:=a) (s:=z) (mid:=(a+b) / 2) (e:=(a+b) / 2+m-z) (b:=b) (by omega) (by omega) (by omega) (by omega) (by omega) (by omega) (by omega) (by omega) f1 f2 f3 f4 f5;refine⟨r,?_,r1,r2,r3,r4⟩;refine Az K CG (R1 ..) ?_;rw[Cy (a:=m) (b:=a) (by omega) (by omega)];refine AO ?_;rw[Cy (a:=b) (b:=m) (by omega) (by omega)];refine AO ?_;refine At ?_ (by decide);rw[Dx (a:=a) (b:=b) (by omega)];rw[Jn (a:=(a+b) / 2) (b:=m) (by omega),Hy (a:=(a+b) / 2+m) (by omega) (by omega)];rw[Cy (a:=(a+b) / 2+m) (b:=b) (by omega) (by omega)];refine Au ?_;refine Ab g4 ?_;simp only[E5,Ai];refine Af ?_;rw[e0];refine At ?_;exact g6
  .obtain⟨z,g4,B⟩:=WQ K a m b ((a+b) / 2) a m l hl hb hs1 hs2 (by omega) (by omega) (by omega) (by omega) (by omega) (by omega) _ a m rfl ⟨η _,by omega,η _,λc c1 c2=>by omega,λc c1 c2=>by omega⟩
   have C:=B.cut Pt.v hs1 hs2 (by omega) (by omega) (by omega) (by omega) (.inl rfl) (.inl rfl);have:=C.asl;have:=C.sm;have:=C.me;have:=C.eb;have:=C.mid;have:=B.ry;have:=B.xs;have e0:Ah.sub .i64 (((a+b) / 2+m:Nat):Int) (z:Int)=(((a+b) / 2+m-z:Nat):Int):=Cy (by omega) (by omega)
   by_cases w1:z<m
   .by_cases w2:m<(a+b) / 2+m-z
    .obtain⟨l1,g5,k1,k2,k3⟩:=Ab5 K w1 w2 (by omega) hl
     obtain⟨f1,f2,f3,f4,f5⟩:=EH Pt.v C hs1 hs2 k3;obtain⟨r,g6,r1,r2,r3,r4⟩:=Lq ih (l:=l1) (a:=a) (s:=z) (mid:=(a+b) / 2) (e:=(a+b) / 2+m-z) (b:=b) (by omega) (by omega) (by omega) (by omega) (by omega) (by omega) (by omega) (by omega) f1 f2 f3 f4 f5;have sm:Same0 l l1 a b:=λp hp=>k3.out p (by omega)
     rw[k1]at g6 r1;refine⟨r,?_,r1,r2.trans k2,r3,sm.trans r4⟩;refine Az K CG (R1 ..) ?_;rw[Cy (a:=m) (b:=a) (by omega) (by omega)];refine AO ?_;rw[Cy (a:=b) (b:=m) (by omega) (by omega)];refine AO ?_;refine At ?_ (by decide);rw[Dx (a:=a) (b:=b) (by omega)];rw[Jn (a:=(a+b) / 2) (b:=m) (by omega),Hy (a:=(a+b) / 2+m) (by omega) (by omega)];refine At ?_;refine Ab g4 ?_;simp only[E5,Ai];refine Af ?_;rw[e0];refine Au ?_;refine Au ?_;refine Ab g5 ?_;exact g6
    .obtain⟨f1,f2,f3,f4,f5⟩:=EH Pt.v C hs1 hs2 (FV (l:=l) (.inr (by omega)) (by omega) (by omega))
     obtain⟨r,g6,r1,r2,r3,r4⟩:=Lq ih (l:=l) (a:=a) (s:=z) (mid:=(a+b) / 2) (e:=(a+b) / 2+m-z) (b:=b) (by omega) (by omega) (by omega) (by omega) (by omega) (by omega) (by omega) (by omega) f1 f2 f3 f4 f5;refine⟨r,?_,r1,r2,r3,r4⟩;refine Az K CG (R1 ..) ?_;rw[Cy (a:=m) (b:=a) (by omega) (by omega)];refine AO ?_;rw[Cy (a:=b) (b:=m) (by omega) (by omega)];refine AO ?_;refine At ?_ (by decide);rw[Dx (a:=a) (b:=b) (by omega)];rw[Jn (a:=(a+b) / 2) (b:=m) (by omega),Hy (a:=(a+b) / 2+m) (by omega) (by omega)];refine At ?_;refine Ab g4 ?_;simp only[E5,Ai];refine Af ?_;rw[e0];refine Au ?_;refine At ?_;exact g6
   .obtain⟨f1,f2,f3,f4,f5⟩:=EH Pt.v C hs1 hs2 (FV (l:=l) (.inl (by omega)) (by omega) (by omega))
    obtain⟨r,g6,r1,r2,r3,r4⟩:=Lq ih (l:=l) (a:=a) (s:=z) (mid:=(a+b) / 2) (e:=(a+b) / 2+m-z) (b:=b) (by omega) (by omega) (by omega) (by omega) (by omega) (by omega) (by omega) (by omega) f1 f2 f3 f4 f5;refine⟨r,?_,r1,r2,r3,r4⟩;refine Az K CG (R1 ..) ?_;rw[Cy (a:=m) (b:=a) (by omega) (by omega)];refine AO ?_;rw[Cy (a:=b) (b:=m) (by omega) (by omega)];refine AO ?_;refine At ?_ (by decide);rw[Dx (a:=a) (b:=b) (by omega)];rw[Jn (a:=(a+b) / 2) (b:=m) (by omega),Hy (a:=(a+b) / 2+m) (by omega) (by omega)];refine At ?_;refine Ab g4 ?_;simp only[E5,Ai];refine Af ?_;rw[e0];refine At ?_;exact g6
theorem XS:MS D:=λl a m b h1 h2 h3 h4 h5 h6=>Ais K (b-a+1) l a m b (by omega) h1 h2 h3 h4 h5 h6
theorem Tv{l:List Pt}(hl:l.length<=1000000000) :
  ∃ r:List Pt,D.ask (.fn 136) [.sl 0 0 l.length 3,E5] [Eh l]=Δ (.tup [],[.set (Eh r)])
   ∧ r.length=l.length/\r.Perm l/\Srt Pt.v r 0 r.length:=Aik K (XS K) hl
end
section
open Go.RowKit
def Aj9:MFn:=AE [] 138
def Ajv:Hnt:=⟨[(145,(.agg Bv,[]))],[],[(4,[.bool]),(6,[.ls])]⟩
def Aed:MFn:=AE [⟨74,(mB 917524),[(1000004,3)],[2,17],[(1,((mB 20),([],[])))]⟩] 62
def AaQ:Hnt:=⟨[(135,(.sl 0 3,[.row U])),(136,(.tup [],[.row U])),(138,(.agg Bv,[])),(139,(.agg Bv,[])),(140,(.sl 0 3,[.row U]))],[(0,[(1,([.ptr 0 0,.ptr 1 0],[.box Bx,.box [.sl 3 3,.bool,.ls],.del,.row U]))])],[(9,[.ls]),(14,Bv),(21,Bz),(22,Bz),(24,[.int .i64]),(27,[.ls]),(34,[.ls]),(36,Bz),(38,[.int .i64]),(40,[.int .i64]),(44,[.ls]),(47,[.ls]),(49,Bz),(51,Bv),(53,Bv),(55,Bz),(58,[.ls]),(60,[.int .i64]),(62,Bv),(70,[.ls]),(73,Bx)]⟩
def OA:List (Nat × MFn):=[(138,Aj9),(62,Aed)]
variable (A:Ar) (D:Orc)
theorem Aqt(x0_0:Bool)(x0_1:Rw):BZ A D Aq Ajv .n 138 Aj9 [ξ [bv x0_0,Φ x0_1]] [] =
 Ag D (ω 145) [bv x0_0,Φ x0_1] [] [.a,.B,.L,.N,.E] λb xs=>
 Δ ((ξ [bv b,Φ xs],[])):=by kernel_rfl
theorem e62(x0_0:Rw)(x0_1:Bool)(x0_2:Rw):BZ A D Aq AaQ .n 62 Aed [ξ [Φ x0_0,bv x0_1,Φ x0_2]] [] =
 Ag D (ω 135) [Φ x0_0] [] [.q 0 3,.R,.X,.E] λn cs=>
 Ag D (ω 136) [π 0 0 n 3,AV.fn (Fn.func 137) [] []] [Ψ cs U U] [.t,.N,.R,.X,.E] λcs2=>
 Ag D (ω 138) [ξ [bv x0_1,Φ x0_2]] [] [.a,.B,.L,.N,.E] λb xs=>
 br ((0+n*3).ble cs2.length) (AT D (ο 62 0) [ψ 0 0,ψ 1 0,Φ (Bk n 3 (ε (n*3) cs2)),iv ↑n,iv 0] [bk [Φ [],bv Ξ,Φ []],bk [π 2 0 0 3,bv b,Φ xs],Ψ [] U U] λr3 o3=>
 dk [.t,.C,.x,.X] [.v r3] λc2 l4=>
 br (Bg 1 c2)
 (dk [.P 0 0,.P 1 0,.N,.T,.L,.B,.L,.N,.T,.C,.q 3 3,.B,.L,.N,.D,.R,.X,.E] [.l l4,.o o3] λ_ _ _ n1 b2 xs3 cs7=>
 Ag D (ω 140) [π 0 0 n1 3,AV.fn (Fn.func 141) [] []] [Ψ cs7 U U] [.q 0 3,.R,.X,.E] λn2 cs8=>
 br ((0+n2*3).ble cs8.length) (Δ ((ξ [Φ (Bk n2 3 (ε (n2*3) cs8)),bv b2,Φ xs3],[]))) Θ)
 (Θ)) Θ:=by kernel_rfl
theorem Aja(r0:Rw)(r1:Bool)(r2:Rw)(n4:Nat)(k1:Bool)(k2:Rw)(c4:Aa)(t17:Rw)(t18 t19:Int):C2 A D Aq AaQ .n 62 0 (AN Aed 0).fst (AN Aed 0).snd [ψ 0 0,ψ 1 0,Φ t17,iv t18,iv t19] [bk [Φ r0,bv r1,Φ r2],bk [π 2 0 n4 3,bv k1,Φ k2],{ cells:=c4,st:=U,ex:=U }] =
 br (A.lt t19 t18)
 (unI t19 λi=>
 Bh t17 i λcs=>
 dk [.I,.B,.L,.N] [.l cs] λn b xs=>
 br (A.lt n 0)
 (AT D (ο 62 0) [ψ 0 0,ψ 1 0,Φ t17,iv t18,iv (A.add Ω t19 1)] [bk [Φ r0,bv r1,Φ r2],bk [π 2 0 n4 3,bv k1,Φ k2],Ψ c4 U U] λr o=>
 AI 3 [0,1,2] (AH.mk [(0,bk [Φ r0,bv r1,Φ r2]),(3,bk [iv n,bv b,Φ xs]),(1,bk [π 2 0 n4 3,bv k1,Φ k2]),(2,Ψ c4 U U)] 4 Θ) [0] r o)
 (br (A.le 0 (A.sub Ω (↑n4) 1))
 (unI (A.sub Ω (↑n4) 1) λi1=>
 br (i1.blt n4) (EX c4 (0+i1*3+0) 1 λcs1=>
 dk [.I,.N] [.l cs1] λn1=>
 br (A.eq n1 n)
 (unI (A.sub Ω (↑n4) 1) λi2=>
 br (i2.blt n4) (EX c4 (0+i2*3+1) 2 λcs2=>
 dk [.B,.L,.N] [.l cs2] λb1 xs1=>
 Ag D (ω 139) [ξ [bv b1,Φ xs1],ξ [bv b,Φ xs]] [] [.a,.B,.L,.N,.E] λb2 xs2=>
 unI (A.sub Ω (↑n4) 1) λi3=>
 br (i3.blt n4) (br ((0+i3*3+1+2).ble c4.length) (AT D (ο 62 0) [ψ 0 0,ψ 1 0,Φ t17,iv t18,iv (A.add Ω t19 1)] [bk [Φ r0,bv r1,Φ r2],bk [π 2 0 n4 3,bv k1,Φ k2],Ψ (AG c4 (0+i3*3+1) [bv b2,Φ xs2]) U U] λr3 o1=>
 AI 3 [0,1,2] (AH.mk [(0,bk [Φ r0,bv r1,Φ r2]),(2,Ψ (AG c4 (0+i3*3+1) [bv b2,Φ xs2]) U U),(3,bk [iv n,bv b,Φ xs]),(1,bk [π 2 0 n4 3,bv k1,Φ k2])] 4 Θ) [2,0] r3 o1) Θ) Θ) Θ)
 (Ag D (ω 138) [ξ [bv b,Φ xs]] [] [.a,.B,.L,.N,.E] λb1 xs1=>
 br (Bo (n4+1) 40) (br ((0+n4*3).ble c4.length) (AT D (ο 62 0) [ψ 0 0,ψ 1 0,Φ t17,iv t18,iv (A.add Ω t19 1)] [bk [Φ r0,bv r1,Φ r2],bk [π 2 0 (n4+1) 3,bv k1,Φ k2],Ψ (Atg 0 (ε (0+n4*3) c4)++[iv n,bv b1,Φ xs1]) U U] λr3 o1=>
 AI 3 [0,1,5] (AH.mk [(0,bk [Φ r0,bv r1,Φ r2]),(1,bk [π 5 0 (n4+1) 3,bv k1,Φ k2]),(5,Ψ (Atg 0 (ε (0+n4*3) c4)++[iv n,bv b1,Φ xs1]) U U),(4,Ψ [iv n,bv b1,Φ xs1] U U),(3,bk [iv n,bv b,Φ xs])] 6 Θ) [2,1,0] r3 o1) Θ) Θ)) Θ)
 (Ag D (ω 138) [ξ [bv b,Φ xs]] [] [.a,.B,.L,.N,.E] λb1 xs1=>
 br (Bo (n4+1) 40) (br ((0+n4*3).ble c4.length) (AT D (ο 62 0) [ψ 0 0,ψ 1 0,Φ t17,iv t18,iv (A.add Ω t19 1)] [bk [Φ r0,bv r1,Φ r2],bk [π 2 0 (n4+1) 3,bv k1,Φ k2],Ψ (Atg 0 (ε (0+n4*3) c4)++[iv n,bv b1,Φ xs1]) U U] λr3 o1=>
 AI 3 [0,1,5] (AH.mk [(0,bk [Φ r0,bv r1,Φ r2]),(1,bk [π 5 0 (n4+1) 3,bv k1,Φ k2]),(5,Ψ (Atg 0 (ε (0+n4*3) c4)++[iv n,bv b1,Φ xs1]) U U),(4,Ψ [iv n,bv b1,Φ xs1] U U),(3,bk [iv n,bv b,Φ xs])] 6 Θ) [2,1,0] r3 o1) Θ) Θ)))
 (Δ ((Ath [iv 0,ψ 0 0,ψ 1 0],[Atb (bk [Φ r0,bv r1,Φ r2]),Atb (bk [π 3 0 n4 3,bv k1,Φ k2]),BO.del,Atb (Ψ c4 U U)]))):=by kernel_rfl
end
structure PartF (D:Orc):Prop where
 clone:∀ l:List Pt,l.length<=1000000000->D.ask (.fn 135) [.ls (l.map eP)] []=Δ (.sl 0 0 l.length 3,[.set (Eh l)])
 grow:∀ n:Nat,n<=1000000000->D.ask (.fn 262) [.v (.slice Θ 0 0),iv (n:Int)] []=Δ (.sl 0 0 0 3,[.set (Eh [])])
structure SrtF (D:Orc) (M:Nat):Prop where
 le:M<=1000000
 cmpI:∀ x y:Int,D.ask (.fn 84) [iv x,iv y] []=Δ (iv (Iq x y),[])
 sort:∀ l:List Pt,l.length<=M->∃ r:List Pt,D.ask (.fn 136) [.sl 0 0 l.length 3,E5] [Eh l]=Δ (.tup [],[.set (Eh r)])/\r.length=l.length/\r.Perm l/\Srt Pt.v r 0 r.length
 del:∀(P:Pt->Bool) (l:List Pt) (hl:l.length<=1000000000) (hP:∀ p∈l,D.ask (.fn 141) [.agg (eP p)] []=Δ (bv (P p),[])),∃ cells:Aa,D.ask (.fn 140) [.sl 0 0 l.length 3,fnZ] [Ψ (Aj eP l) U U]
   = Δ (.sl 0 0 (l.filter λp=>!P p).length 3,[.set (Ψ cells U U)])
   ∧ cells.take ((l.filter λp=>!P p).length*3)=Aj eP (l.filter λp=>!P p)/\(l.filter λp=>!P p).length*3<=cells.length
 isz:ZF D->∀ p:Pt,Lz 1000000000 p.z->D.ask (.fn 141) [.agg (eP p)] []=Δ (bv (decide (zv p.z=0)),[])
theorem SrtF.mono{D:Orc}{M N:Nat}(S:SrtF D M)(h:N<=M):SrtF D N:=⟨AtA h S.le,S.cmpI,λl hl=>S.sort l (AtA hl h),S.del,S.isz⟩
section
variable (o:List Pt) (x:Pt)
theorem Ah6(k:Aa->KR):EX (Aj eP (o++[x])) (0+o.length*3+0) 1 k=k [iv x.v]:=by
 have hl:=AR Av o;rw[←Bl];unfold EX;rw[show Atl (0+o.length*3+0+1) (Aj eP o++eP x).length=U by rw[γ,hl,Av];simp<;>omega]
 show k (((Aj eP o++eP x).drop (0+o.length*3+0)).take 1)=_
 rw[List.drop_left' (by omega)];rfl
theorem Apz(k:Aa->KR):EX (Aj eP (o++[x])) (0+o.length*3+1) 2 k=k [bv x.z.neg,eN x.z.abs]:=by
 have hl:=AR Av o;rw[←Bl];unfold EX;rw[show Atl (0+o.length*3+1+2) (Aj eP o++eP x).length=U by rw[γ,hl,Av];simp]
 show k (((Aj eP o++eP x).drop (0+o.length*3+1)).take 2)=_
 rw[List.drop_append,AvJ (by omega),show 0+o.length*3+1-(Aj eP o).length=1 by omega];rfl
theorem ApI(z:Zi):AG (Aj eP (o++[x])) (0+o.length*3+1) [bv z.neg,eN z.abs]=Aj eP (o++[⟨x.v,z⟩]):=by
 have hl:=AR Av o;rw[←Bl,←Bl];unfold AG;rw[List.take_append,List.take_of_length_le (by omega),show 0+o.length*3+1-(Aj eP o).length=1 by omega,AvJ (by rw[γ,Av,hl];simp),AtY,Atp];rfl
end
section
variable {D:Orc} (Kt:Knows Aq OA D) (K:Knows Aq Oz D) (Z:ZF D) (C:PartF D)
include Z
include Kt in
theorem EO{z:Zi}(hz:Lz 1000000000 z):D.ask (.fn 138) [.agg (eZ z)] []=Δ (.agg (eZ (AY (zv z))),[]):=by
 refine Az Kt Ajv (Aqt ..) ?_;refine Ab (Z.frm z hz) ?_;rfl
include K in
theorem Pv{p:Pt}(hz:Lz 1000000000 p.z):D.ask (.fn 141) [.agg (eP p)] []=Δ (bv (decide (zv p.z=0)),[]):=by
 have g:=Z.sign p.z hz;refine Az K Ajx (Aqv ..) ?_;refine Ab g ?_;simp only[Ai]
 by_cases h:zv p.z=0
 .rw[B3 h,h]
  exact CO rfl
 .rw[Cn h]
  refine BA ?_;unfold C4;split
  .omega
  .split
   .omega
   .omega
include Kt in
theorem AbM{k:Nat}(ps:List Pt)(hl:ps.length<=1000000)(hk:k+ps.length<=900000000)(hz:∀ p∈ps,Lz k p.z)(r0:Rw)(r1:Bool)(r2:Rw)(k1:Bool)(k2:Rw):∀(m i:Nat) (s:List (Int × Int)),ps.length-i=m->i<=ps.length->s.length<=i->(∀ q∈s,InB (k+i) q.2)->
  D.ask (.lp 62 0) [.ptr 0 0,.ptr 1 0,.ls (ps.map eP),iv (ps.length:Int),iv (i:Int)] [⟨[.ls r0,bv r1,.ls r2],U,Ξ⟩,⟨[.sl 2 0 (s.map Bc).reverse.length 3,bv k1,.ls k2],U,Ξ⟩,Eh (s.map Bc).reverse]
   = Δ (.tup [iv 0,.ptr 0 0,.ptr 1 0],[.set ⟨[.ls r0,bv r1,.ls r2],U,Ξ⟩,.set ⟨[.sl 3 0 ((((ps.drop i).map pv).foldl Dt s).map Bc).reverse.length 3,bv k1,.ls k2],U,Ξ⟩,.del,.set (Eh ((((ps.drop i).map pv).foldl Dt s).map Bc).reverse)]):=by
 intro m
 induction m with
 |zero=>
  intro i s hm hi hs hb;rw[Atc (by omega),AtO,List.foldl_nil];refine Ax Kt AaQ (Aja ..) ?_;exact At rfl
 |succ m ih0=>
  intro i s hm hi hs hb;have h1:i<ps.length:=by omega
  have hzk:=hz ps[i] (Ats h1);have hzi:=hzk.mono (show k<=1000000000 by omega);rw[χ h1,Atu,AuZ];have ih:=ih0 (i+1) (Dt s (pv ps[i])) (by omega) (by omega) (by have:=JD s (pv ps[i]);omega) (JC hb (hzk.inb.mono (show k<=k+i by omega)));refine Ax Kt AaQ (Aja ..) ?_;refine Au ?_;rw[AC,AD (δ h1)];simp only[eP,eN,Ai];generalize hS:((ps.drop (i+1)).map pv).foldl Dt (Dt s (pv ps[i]))=S at ih ⊢
  by_cases hneg:ps[i].v<0
  .have e:Dt s (pv ps[i])=s:=by
    have hn:(pv ps[i]).1<0:=hneg
    cases s with
    |nil=>rw[Ej,Ac hn]
    |cons q r=>rw[DG,Ac hn]
   rw[e]at ih;refine Au ?_ hneg;rw[BE (by omega)];refine Ab ih ?_;rfl
  have hn:¬(pv ps[i]).1<0:=hneg;refine At ?_ hneg
  cases s with
  |nil=>
   rw[Ej,Ad hn]at ih;refine CQ ?_ (by decide);obtain⟨o,ho0⟩:∃ o:List Pt,o=[]:=⟨_,rfl⟩;have eo:(([pv ps[i]].map Bc).reverse)=o++[Bc (pv ps[i])]:=by rw[ho0];rfl
   rw[eo]at ih;have ho:o.length<=i:=by rw[ho0];exact Nat.zero_le _
   rw[show ((([]:List (Int × Int)).map Bc).reverse)=o from ho0.symm];have hf:Bo (o.length+1) 40=U:=AZ (by omega) (by omega);have hb1:Atl (0+o.length*3) (Aj eP o).length=U:=AQ Av o (by omega);have e3:Atg 0 (ε (0+o.length*3) (Aj eP o))++[iv ps[i].v,bv (AY (zv ps[i].z)).neg,eN (AY (zv ps[i].z)).abs]=Aj eP (o++[Bc (pv ps[i])]):=by
    rw[ι,Br Av o (by omega)];exact Bl eP o (Bc (pv ps[i]))
   refine Ab (EO Kt Z hzi) ?_;simp only[eZ,eN,Ai]at e3 ⊢;rw[hf];refine Af ?_;rw[hb1];refine Af ?_;rw[e3,BE (by omega)];rw[γ,AtP]at ih;refine Ab ih ?_;rfl
  |cons q r=>
   have eo:(((q::r).map Bc).reverse)=(r.map Bc).reverse++[Bc q]:=by simp
   have hq:=hb q (Atq ..);rw[eo];rw[DG,Ad hn]at ih;have hro:(r.map Bc).reverse.length<=i:=by simp at hs ⊢;omega
   by_cases heq:q.1=(pv ps[i]).1
   .rw[Ac heq,Atu,Avd]at ih
    generalize (r.map Bc).reverse=o at hro ih ⊢;have e1:Ah.sub .i64 (((o++[Bc q]).length:Nat):Int) 1=((o.length:Nat):Int):=by
     rw[γ,AtP];exact Ow (by omega)
    have hlt:o.length<(o++[Bc q]).length:=by simp
    have ga:=Z.add (AY q.2) ps[i].z (hq.lz.mono (by omega)) (hzk.mono (by omega));rw[BY]at ga;have sp:=ApI o (Bc q) (AY (q.2+zv ps[i].z));rw[e1];refine Cz ?_;rw[AC,AJ hlt];refine Af ?_;refine(Ah6 o (Bc q) _).trans ?_;simp only[Ai];refine Ba ?_ (show (Bc q).v=ps[i].v from heq);rw[AC,AJ hlt];refine Af ?_;refine(Apz o (Bc q) _).trans ?_;simp only[eN,Ai];refine Ab ga ?_;simp only[eZ,eN,Ai]at sp ⊢;rw[AC,AJ hlt];refine Af ?_;rw[show Atl (0+o.length*3+1+2) (Aj eP (o++[Bc q])).length=U by rw[AR Av];simp;omega];refine Af ?_;rw[sp,BE (by omega)];have el:(o++[Bc q]).length=(o++[Bc (q.1,q.2+(pv ps[i]).2)]).length:=by simp
    rw[el];refine Ab ih ?_;rfl
   .rw[Ad heq,Atu,Avd,eo]at ih
    have hlen:((r.map Bc).reverse++[Bc q]).length<=i:=by simp at hs ⊢;omega
    have e1:Ah.sub .i64 ((((r.map Bc).reverse++[Bc q]).length:Nat):Int) 1=(((r.map Bc).reverse.length:Nat):Int):=by
     rw[γ,AtP];exact Ow (by omega)
    have hlt:(r.map Bc).reverse.length<((r.map Bc).reverse++[Bc q]).length:=by simp
    rw[e1];refine Cz ?_;rw[AC,AJ hlt];refine Af ?_;refine(Ah6 _ (Bc q) _).trans ?_;simp only[Ai];refine AO ?_ (show ¬(Bc q).v=ps[i].v from heq);generalize (r.map Bc).reverse++[Bc q]=o at hlen ih ⊢;have ho:=hlen;have hf:Bo (o.length+1) 40=U:=AZ (by omega) (by omega);have hb1:Atl (0+o.length*3) (Aj eP o).length=U:=AQ Av o (by omega);have e3:Atg 0 (ε (0+o.length*3) (Aj eP o))++[iv ps[i].v,bv (AY (zv ps[i].z)).neg,eN (AY (zv ps[i].z)).abs]=Aj eP (o++[Bc (pv ps[i])]):=by
     rw[ι,Br Av o (by omega)];exact Bl eP o (Bc (pv ps[i]))
    refine Ab (EO Kt Z hzi) ?_;simp only[eZ,eN,Ai]at e3 ⊢;rw[hf];refine Af ?_;rw[hb1];refine Af ?_;rw[e3,BE (by omega)];rw[γ,AtP]at ih;refine Ab ih ?_;rfl
omit Z in
theorem Ail(K:Knows Aq Es D):SrtF D 1000000:=⟨η _,VS (FZ K),λ_ hl=>Tv K (AtA hl (by omega)),ZO (FZ K),λZ _ h=>Pv (FZ K) Z h⟩
end
section
variable {D:Orc} {M:Nat} (Kt:Knows Aq OA D) (Ks:SrtF D M) (Z:ZF D) (C:PartF D)
include Kt Ks Z C in
theorem Hs{n k:Nat}{t:Tm}(h:TmB n k t)(hn:n<=M)(hk:k+n<=900000000):D.ask (.fn 62) [.agg (eT t)] []=Δ (.agg (eT t.lf.pln.tm),[]):=by
 have hM:=Ks.le;obtain⟨ps,kz⟩:=t;have hlen:ps.length<=n:=h.len;obtain⟨r,gs,gr,gp,go⟩:=Ks.sort ps (by omega);have gc:=C.clone ps (by omega);have gk:=EO Kt Z (h.k.mono (show k<=1000000000 by omega));have hzr:∀ p∈r,Lz k p.z:=λp hp=>h.ps p (gp.mem_iff.1 hp)
 have gl:=AbM Kt Z r (k:=k) (by omega) (by omega) hzr [] Ξ [] (AY (zv kz)).neg ((AY (zv kz)).abs.map eL) _ 0 [] rfl (by omega) (by simp) (by simp);rw[ι]at gl;have hsrt:(r.map pv).Pairwise λa b=>a.1<=b.1:=by
  rw[List.pairwise_map];exact Kd Pt.v go
 have hpl:=V7 hsrt (gp.map pv);generalize hS:(r.map pv).foldl Dt []=S at gl hpl;have hsb:∀ p∈((S.map Bc).reverse),Lz 1000000000 p.z:=by
  have key:∀(t s:List (Int × Int)) (j:Nat),(∀ q∈s,InB (k+j) q.2)->(∀ q∈t,InB k q.2)->∀ q∈t.foldl Dt s,InB (k+j+t.length) q.2:=by
   intro t
   induction t with
   |nil=>intro s j hs _ q hq;exact hs q hq
   |cons p t ih=>
    intro s j hs ht q hq;have:=ih (Dt s p) (j+1) (JC hs ((ht p (Atq ..)).mono (show k<=k+j by omega))) (λq hq=>ht q (List.mem_cons_of_mem _ hq)) q hq;rw[Ate];exact this.mono (by omega)
  intro p hp;rw[List.mem_reverse,AtH]at hp;obtain⟨q,hq,rfl⟩:=hp;have:=key (r.map pv) [] 0 (by simp) (λq hq=>by
   rw[AtH]at hq;obtain⟨p,hp,rfl⟩:=hq;exact(hzr p hp).inb) q (by rw[hS];exact hq)
  rw[Atm]at this;exact(this.lz).mono (by omega)
 have hSl:S.length<=1000000:=by
  have key:∀(t s:List (Int × Int)),(t.foldl Dt s).length<=s.length+t.length:=by
   intro t
   induction t with
   |nil=>intro s;simp
   |cons p t ih=>
    intro s;have:=ih (Dt s p);have h2:=JD s p;rw[AuZ,Ate];omega
  have:=key (r.map pv) [];rw[hS,Atm]at this;simp at this;omega
 obtain⟨cells,gd,gt,gle⟩:=Ks.del (λp=>decide (zv p.z=0)) (S.map Bc).reverse (by simp;omega) λp hp=>Ks.isz Z _ (hsb p hp)
 have hfin:((S.map Bc).reverse).filter (λp=>!decide (zv p.z=0))=(Bu (ps.map pv)).map Bc:=by
  rw[←hpl,←List.map_reverse,List.filter_map]
  congr 1
  refine List.filter_congr λq _=>?_
  show (!decide (zv (AY q.2)=0))=_
  rw[BY]
 rw[hfin]at gd gt gle;refine Az Kt AaQ (e62 ..) ?_;refine Ab gc ?_;simp only[Ai];refine Ab gs ?_;simp only[Ai];refine Ab gk ?_;simp only[eZ,eN,Ai];rw[show Atl (0+ps.length*3) (Aj eP r).length=U from AQ Av r (by omega)];refine Af ?_;rw[BF Av r (by omega),←gr];refine Ab gl ?_;simp only[Ai];refine Ab gd ?_;simp only[Ai];rw[show Atl (0+((Bu (ps.map pv)).map Bc).length*3) cells.length=U by simp;simp at gle;omega];refine Af ?_;rw[gt,CX Av];rfl
end
section
open Go.RowKit
def PD:MFn:=AE [⟨36,(mB 3593),[],[],[(1,((mB 9),([],[])))]⟩,⟨36,(mB 234881088),[(6,3)],[],[(3,((mB 64),([],[])))]⟩] 230
def LP:Hnt:=⟨[(262,(.sl 0 3,[.row U]))],[(0,[(1,([.ls,.int .i64],[]))]),(1,[(3,([.sl 1 3],[.del,.row U]))])],[(13,[.ls]),(14,[.ls]),(29,[.ls]),(30,[.ls])]⟩
def Aj6:MFn:=AE [] 125
def Ajq:Hnt:=⟨[(138,(.agg Bv,[]))],[],[(3,Bv)]⟩
def Akm:MFn:=AE [] 185
def AjK:Hnt:=⟨[(62,(.agg Bx,[])),(139,(.agg Bv,[])),(230,(.ls,[]))],[],[(6,[.ls]),(8,[.ls]),(12,Bv),(14,Bv)]⟩
def Arv:MFn:=AE [] 68
def Wl:MFn:=AE [⟨35,(mB 114744),[(1000005,3)],[3,4],[(1,((mB 48),([],[3])))]⟩] 148
def So:Hnt:=⟨[(62,(.agg Bx,[])),(158,(.agg Bv,[]))],[(0,[(1,([.ptr 1 0,.ptr 2 0],[.del,.box Bx,.box [.sl 4 3,.bool,.ls],.del,.row U]))])],[(9,Bv),(10,Bv),(14,[.ls]),(18,Bz),(19,Bz),(21,[.ls]),(23,[.int .i64]),(25,Bv),(26,Bv),(33,Bx)]⟩
def Ao0:MFn:=AE [] 127
def Arm:MFn:=AE [] 27
def Arn:MFn:=AE [] 28
def Tz:List (Nat × MFn):=[(230,PD),(125,Aj6),(185,Akm),(68,Arv),(148,Wl),(127,Ao0),(27,Arm),(28,Arn)]
variable (A:Ar) (D:Orc)
theorem Aq4(x0:Rw):BZ A D Aq LP .n 230 PD [Φ x0] [] =
 Ag D (ο 230 0) [Φ x0,iv 0,Φ x0,iv ↑(Bb x0),iv 0] [] [.t,.C,.x,.X,.Y] λc l o=>
 br (Bg 1 c)
 (dk [.L,.I,.N,.E] [.l l,.o o] λxs n=>
 Ag D (ω 262) [AV.v (Value.slice Θ 0 0),iv n] [] [.q 0 3,.R,.X,.E] λn1 cs1=>
 Ag D (ο 230 1) [π 0 0 n1 3,Φ xs,iv ↑(Bb xs),iv 0] [Ψ cs1 U U] [.t,.C,.x,.X,.Y] λc2 l4 o2=>
 br (Bg 3 c2)
 (dk [.C,.q 1 3,.N,.D,.R,.X,.E] [.l l4,.o o2] λn2 cs3=>
 br ((0+n2*3).ble cs3.length) (Δ ((Φ (Bk n2 3 (ε (n2*3) cs3)),[]))) Θ)
 (Θ))
 (Θ):=by kernel_rfl
theorem Aac(t0:Rw)(t3:Int)(t9:Rw)(t10 t11:Int):C2 A D Aq LP .n 230 0 (AN PD 0).fst (AN PD 0).snd [Φ t0,iv t3,Φ t9,iv t10,iv t11] [] =
 br (A.lt t11 t10)
 (unI t11 λi=>
 Bh t9 i λcs=>
 dk [.L,.N] [.l cs] λxs=>
 br (A.lt (A.add Ω t3 ↑(Bb xs)) 0)
 (Θ)
 (AT D (ο 230 0) [Φ t0,iv (A.add Ω t3 ↑(Bb xs)),Φ t9,iv t10,iv (A.add Ω t11 1)] [] λr o=>
 AI 0 [] (AH.mk [] 0 Θ) [] r o))
 (Δ ((Ath [iv 0,Φ t0,iv t3],[]))):=by kernel_rfl
theorem Aad(n6:Nat)(c6:Aa)(t25:Rw)(t26 t27:Int):C2 A D Aq LP .n 230 1 (AN PD 1).fst (AN PD 1).snd [π 0 0 n6 3,Φ t25,iv t26,iv t27] [{ cells:=c6,st:=U,ex:=U }] =
 br (A.lt t27 t26)
 (unI t27 λi=>
 Bh t25 i λcs=>
 dk [.L,.N] [.l cs] λxs=>
 br (Fs 3 xs) (br ((Bb xs).beq 0)
 (AT D (ο 230 1) [π 0 0 n6 3,Φ t25,iv t26,iv (A.add Ω t27 1)] [Ψ c6 U U] λr o=>
 AI 1 [0] (AH.mk [(0,Ψ c6 U U)] 1 Θ) [] r o)
 (br (I9 (Ip xs)) (br (Bo (n6+Bb xs) 40) (br ((0+n6*3).ble c6.length) (AT D (ο 230 1) [π 0 0 (n6+Bb xs) 3,Φ t25,iv t26,iv (A.add Ω t27 1)] [Ψ (Atg 0 (ε (0+n6*3) c6)++Ip xs) U U] λr o=>
 AI 1 [1] (AH.mk [(1,Ψ (Atg 0 (ε (0+n6*3) c6)++Ip xs) U U)] 2 Θ) [0] r o) Θ) Θ) Θ)) Θ)
 (Δ ((Ath [iv 2,π 1 0 n6 3],[BO.del,Atb (Ψ c6 U U)]))):=by kernel_rfl
theorem Aqm(x0_0:Bool)(x0_1:Rw):BZ A D Aq Ajq .n 125 Aj6 [ξ [bv x0_0,Φ x0_1]] [] =
 Ag D (ω 138) [ξ [bv x0_0,Φ x0_1]] [] [.a,.B,.L,.N,.E] λb xs=>
 Δ ((ξ [Φ [],bv b,Φ xs],[])):=by kernel_rfl
theorem AqN(x0_0:Rw)(x0_1:Bool)(x0_2 x1_0:Rw)(x1_1:Bool)(x1_2:Rw):BZ A D Aq AjK .n 185 Akm [ξ [Φ x0_0,bv x0_1,Φ x0_2],ξ [Φ x1_0,bv x1_1,Φ x1_2]] [] =
 Ag D (ω 230) [Φ [[Φ x0_0],[Φ x1_0]]] [] [.l,.E] λxs=>
 Ag D (ω 139) [ξ [bv x0_1,Φ x0_2],ξ [bv x1_1,Φ x1_2]] [] [.a,.B,.L,.N,.E] λb xs1=>
 Ag D (ω 62) [ξ [Φ xs,bv b,Φ xs1]] [] [.a,.L,.B,.L,.N,.E] λxs2 b1 xs3=>
 Δ ((ξ [Φ xs2,bv b1,Φ xs3],[])):=by kernel_rfl
theorem Aqy(x0_0:Rw)(x0_1:Bool)(x0_2:Rw)(x1_0:Bool)(x1_1:Rw):BZ A D Aq So .n 148 Wl [ξ [Φ x0_0,bv x0_1,Φ x0_2],ξ [bv x1_0,Φ x1_1]] [] =
 Ag D (ω 158) [ξ [bv x0_1,Φ x0_2],ξ [bv x1_0,Φ x1_1]] [] [.a,.B,.L,.N,.E] λb xs=>
 Ag D (ο 148 0) [ψ 0 0,ψ 1 0,ψ 2 0,Φ x0_0,iv ↑(Bb x0_0),iv 0] [bk [bv x1_0,Φ x1_1],bk [Φ [],bv Ξ,Φ []],bk [π 3 0 0 3,bv b,Φ xs],Ψ [] U U] [.t,.C,.x,.X,.Y] λc l2 o1=>
 br (Bg 1 c)
 (dk [.P 1 0,.P 2 0,.N,.D,.T,.L,.B,.L,.N,.T,.C,.q 4 3,.B,.L,.N,.D,.R,.X,.E] [.l l2,.o o1] λ_ _ _ n b2 xs3 cs4=>
 br ((0+n*3).ble cs4.length) (AT D (ω 62) [ξ [Φ (Bk n 3 (ε (n*3) cs4)),bv b2,Φ xs3]] [] λr2 o2=>
 dk [.a,.L,.B,.L,.N,.E] [.v r2,.o o2] λxs4 b3 xs5=>
 Δ ((ξ [Φ xs4,bv b3,Φ xs5],[]))) Θ)
 (Θ):=by kernel_rfl
theorem ZU(i0:Bool)(i1 r0:Rw)(r1:Bool)(r2:Rw)(n5:Nat)(k1:Bool)(k2:Rw)(c5:Aa)(t14:Rw)(t15 t16:Int):C2 A D Aq So .n 148 0 (AN Wl 0).fst (AN Wl 0).snd [ψ 0 0,ψ 1 0,ψ 2 0,Φ t14,iv t15,iv t16] [bk [bv i0,Φ i1],bk [Φ r0,bv r1,Φ r2],bk [π 3 0 n5 3,bv k1,Φ k2],{ cells:=c5,st:=U,ex:=U }] =
 br (A.lt t16 t15)
 (unI t16 λi=>
 Bh t14 i λcs=>
 dk [.I,.B,.L,.N] [.l cs] λn b xs=>
 Ag D (ω 158) [ξ [bv b,Φ xs],ξ [bv i0,Φ i1]] [] [.a,.B,.L,.N,.E] λb1 xs1=>
 br (Bo (n5+1) 40) (br ((0+n5*3).ble c5.length) (AT D (ο 148 0) [ψ 0 0,ψ 1 0,ψ 2 0,Φ t14,iv t15,iv (A.add Ω t16 1)] [bk [bv i0,Φ i1],bk [Φ r0,bv r1,Φ r2],bk [π 3 0 (n5+1) 3,bv k1,Φ k2],Ψ (Atg 0 (ε (0+n5*3) c5)++[iv n,bv b1,Φ xs1]) U U] λr3 o1=>
 AI 4 [0,1,2,6] (AH.mk [(1,bk [Φ r0,bv r1,Φ r2]),(0,bk [bv i0,Φ i1]),(2,bk [π 6 0 (n5+1) 3,bv k1,Φ k2]),(6,Ψ (Atg 0 (ε (0+n5*3) c5)++[iv n,bv b1,Φ xs1]) U U),(5,Ψ [iv n,bv b1,Φ xs1] U U),(4,bk [iv n,bv b,Φ xs])] 7 Θ) [3,2,0,1] r3 o1) Θ) Θ)
 (Δ ((Ath [iv 0,ψ 1 0,ψ 2 0],[BO.del,Atb (bk [Φ r0,bv r1,Φ r2]),Atb (bk [π 4 0 n5 3,bv k1,Φ k2]),BO.del,Atb (Ψ c5 U U)]))):=by kernel_rfl
end
def eR(r:List Pt):Aa:=[.ls (r.map eP)]
theorem AbH(p:Pt):I9 (eP p)=U:=rfl
def PS(x:Zi)(p:Pt):Pt:=⟨p.v,AY (zv p.z*zv x)⟩
theorem AkP{a b:Nat}(h:a+b<4611686018427387904):Ah.add .i64 (a:Int) (b:Int)=((a+b:Nat):Int):=by
 rw[Fo (by omega) (by omega)];omega
section
variable {D:Orc} {M:Nat} (Kt:Knows Aq OA D) (Kf:Knows Aq Tz D) (Ks:SrtF D M) (Z:ZF D) (C:PartF D)
include Kf
theorem Ak2(rs:List (List Pt))(X:Rw)(hr:rs.length<=1000000):∀(m i s:Nat),rs.length-i=m->i<=rs.length->s+(rs.drop i).flatten.length<=1000000000->
  D.ask (.lp 230 0) [.ls X,iv (s:Int),.ls (rs.map eR),iv (rs.length:Int),iv (i:Int)] []=Δ (.tup [iv 0,.ls X,iv ((s+(rs.drop i).flatten.length:Nat):Int)],[]):=by
 intro m
 induction m with
 |zero=>
  intro i s hm hi hs;rw[Atc (by omega)];refine Ax Kf LP (Aac ..) ?_;exact At rfl
 |succ m ih=>
  intro i s hm hi hs;have h1:i<rs.length:=by omega
  rw[χ h1,Aug,γ]at hs ⊢;have ih:=ih (i+1) (s+rs[i].length) (by omega) (by omega) (by omega);rw[show s+rs[i].length+(rs.drop (i+1)).flatten.length=s+(rs[i].length+(rs.drop (i+1)).flatten.length) by omega]at ih;refine Ax Kf LP (Aac ..) ?_;refine Au ?_;rw[AC,AD (δ h1)];simp only[eR,Ai];rw[Ao,AkP (by omega),BE (by omega)];refine At ?_;refine Ab ih ?_;rfl
theorem Ak3(rs:List (List Pt))(hr:rs.length<=1000000):∀(m i:Nat) (out:List Pt),rs.length-i=m->i<=rs.length->out.length+(rs.drop i).flatten.length<=1000000000->
  D.ask (.lp 230 1) [.sl 0 0 out.length 3,.ls (rs.map eR),iv (rs.length:Int),iv (i:Int)] [Eh out]=Δ (.tup [iv 2,.sl 1 0 (out++(rs.drop i).flatten).length 3],[.del,.set (Eh (out++(rs.drop i).flatten))]):=by
 intro m
 induction m with
 |zero=>
  intro i out hm hi hs;rw[Atc (by omega),List.flatten_nil,AtY];refine Ax Kf LP (Aad ..) ?_;exact At rfl
 |succ m ih=>
  intro i out hm hi hs;have h1:i<rs.length:=by omega
  rw[χ h1,Aug]at hs ⊢;rw[γ]at hs;have ih:=ih (i+1) (out++rs[i]) (by omega) (by omega) (by rw[γ];omega);rw[Atp]at ih;refine Ax Kf LP (Aad ..) ?_;refine Au ?_;rw[AC,AD (δ h1)];revert hs ih;generalize rs[i]=r;intro hs ih;simp only[eR,Ai];rw[EJ Av,Ao,BE (by omega)];refine Af ?_
  by_cases h0:r=[]
  .subst h0
   rw[AtY]at ih;rw[Atw]at ih ⊢;refine Af ?_;refine Ab ih ?_;rfl
  .have hz:Nat.beq r.length 0=Ξ:=by
    cases r with
    |nil=>exact absurd rfl h0
    |cons x r=>rfl
   rw[hz];refine Fv ?_;rw[EM,JU AbH];refine Af ?_;rw[AZ (n:=out.length+r.length) (b:=40) (by omega) (by omega)];refine Af ?_;rw[show Atl (0+out.length*3) (Aj eP out).length=U from AQ Av out (by omega)];refine Af ?_;have e3:Atg 0 (ε (0+out.length*3) (Aj eP out))++Aj eP r=Aj eP (out++r):=by
    rw[ι,Br Av out (by omega)];simp[Aj]
   rw[e3];rw[show (out++r).length=out.length+r.length from γ]at ih;refine Ab ih ?_;rfl
include C in
theorem Xn(a b:List Pt)(h:a.length+b.length<=1000000):D.ask (.fn 230) [.ls [[.ls (a.map eP)],[.ls (b.map eP)]]] []=Δ (.ls ((a++b).map eP),[]):=by
 have hf:([a,b]).flatten=a++b:=by simp
 have g0:=Ak2 Kf [a,b] (([a,b]).map eR) (by simp) _ 0 0 rfl (by simp) (by rw[ι,hf,γ];omega);rw[ι,hf,Nat.zero_add]at g0;have gg:=C.grow (a++b).length (by rw[γ];omega);have g1:=Ak3 Kf [a,b] (by simp) _ 0 [] rfl (by simp) (by rw[ι,hf,γ];simp;omega);rw[ι,hf,Atw]at g1;refine Az Kf LP (Aq4 ..) ?_;refine Ab g0 ?_;simp only[Ai];refine Ab gg ?_;simp only[Ai];refine Ab g1 ?_;simp only[Ai];rw[show Atl (0+(a++b).length*3) (Aj eP (a++b)).length=U from AQ Av (a++b) (by omega)];refine Af ?_;rw[BF Av (a++b) rfl];rfl
include Kt Ks Z C
theorem AkQ{n m k:Nat}{a b:Tm}(ha:TmB n k a)(hb:TmB m k b)(hn:n+m<=M)(hk:k+1+(n+m)<=900000000):D.ask (.fn 185) [.agg (eT a),.agg (eT b)] []=Δ (.agg (eT (a.lf.add b.lf).tm),[]):=by
 have hM:=Ks.le;obtain⟨ap,ak⟩:=a;obtain⟨bp,bk⟩:=b;have l1:ap.length<=n:=ha.len;have l2:bp.length<=m:=hb.len;have gc:=Xn Kf C ap bp (by omega);have ga:=Z.add ak bk (ha.k.mono (by omega)) (hb.k.mono (by omega));have hT:TmB (n+m) (k+1) ⟨ap++bp,AY (zv ak+zv bk)⟩:=by
  refine⟨by simp;omega,λp hp=>?_,?_⟩
  .rcases List.mem_append.1 hp with h|h
   .exact(ha.ps p h).mono (by omega)
   .exact(hb.ps p h).mono (by omega)
  .exact(InB.add ha.k.inb hb.k.inb).lz
 have gp:=Hs Kt Ks Z C hT hn (by omega);have el:(⟨ap++bp,AY (zv ak+zv bk)⟩:Tm).lf.pln=Lf.add (Tm.lf ⟨ap,ak⟩) (Tm.lf ⟨bp,bk⟩):=by
  unfold Lf.add Tm.lf;simp only[List.map_append,BY]
 rw[el]at gp;refine Az Kf AjK (AqN ..) ?_;refine Ab gc ?_;simp only[Ai];refine Ab ga ?_;simp only[eZ,eN,Ai];refine Ab gp ?_;rfl
omit Kt Ks C in
theorem Acj{k j:Nat}{x:Zi}(hx:Lz j x)(hx24:x.abs.length<24)(ps:List Pt)(hl:ps.length<=1000000)(hz:∀ p∈ps,Lz k p.z)(hk:k<=400000000)(hj:j<=400000000)(r0:Rw)(r1:Bool)(r2:Rw)(k1:Bool)(k2:Rw):∀(m i:Nat) (out:List Pt),ps.length-i=m->i<=ps.length->out.length<=i->
  D.ask (.lp 148 0) [.ptr 0 0,.ptr 1 0,.ptr 2 0,.ls (ps.map eP),iv (ps.length:Int),iv (i:Int)] [⟨eZ x,U,Ξ⟩,⟨[.ls r0,bv r1,.ls r2],U,Ξ⟩,⟨[.sl 3 0 out.length 3,bv k1,.ls k2],U,Ξ⟩,Eh out]
   = Δ (.tup [iv 0,.ptr 1 0,.ptr 2 0],[.del,.set ⟨[.ls r0,bv r1,.ls r2],U,Ξ⟩,.set ⟨[.sl 4 0 (out++(ps.drop i).map (PS x)).length 3,bv k1,.ls k2],U,Ξ⟩,.del,.set (Eh (out++(ps.drop i).map (PS x)))]):=by
 intro m
 induction m with
 |zero=>
  intro i out hm hi ho;rw[Atc (by omega),AtO,AtY];refine Ax Kf So (ZU ..) ?_;exact At rfl
 |succ m ih=>
  intro i out hm hi ho;have h1:i<ps.length:=by omega
  have hzk:=hz ps[i] (Ats h1);have gm:=Z.mul ps[i].z x (hzk.mono (by omega)) (hx.mono (by omega)) (.inr hx24);rw[χ h1,Atu];have ih:=ih (i+1) (out++[PS x ps[i]]) (by omega) (by omega) (by simp;omega);rw[Atp,List.singleton_append,show (out++[PS x ps[i]]).length=out.length+1 by simp]at ih;have hf:Bo (out.length+1) 40=U:=AZ (by omega) (by omega);have hb1:Atl (0+out.length*3) (Aj eP out).length=U:=AQ Av out (by omega);have e3:Atg 0 (ε (0+out.length*3) (Aj eP out))++[iv ps[i].v,bv (AY (zv ps[i].z*zv x)).neg,eN (AY (zv ps[i].z*zv x)).abs]=Aj eP (out++[PS x ps[i]]):=by
   rw[ι,Br Av out (by omega)];exact Bl eP out (PS x ps[i])
  obtain⟨xn,xa⟩:=x;refine Ax Kf So (ZU ..) ?_;refine Au ?_;rw[AC,AD (δ h1)];simp only[eP,eN,Ai];refine Ab gm ?_;simp only[eZ,eN,Ai]at e3 ⊢;rw[hf];refine Af ?_;rw[hb1];refine Af ?_;rw[e3,BE (by omega)];refine Ab ih ?_;rfl
theorem Ack{n k j:Nat}{a:Tm}{x:Zi}(ha:TmB n k a)(hx:Lz j x)(hx24:x.abs.length<24)(hn:n<=M)(hj:j<=23)(hk:k+j+n<=400000000):D.ask (.fn 148) [.agg (eT a),.agg (eZ x)] []=Δ (.agg (eT (a.lf.scale (zv x)).tm),[]):=by
 have hM:=Ks.le;obtain⟨ap,ak⟩:=a;have l1:ap.length<=n:=ha.len;have gm:=Z.mul ak x (ha.k.mono (by omega)) (hx.mono (by omega)) (.inr hx24);have gl:=Acj Kf Z hx hx24 ap (by omega) ha.ps (by omega) (by omega) [] Ξ [] (AY (zv ak*zv x)).neg ((AY (zv ak*zv x)).abs.map eL) _ 0 [] rfl (by omega) (by simp);rw[ι,Atw]at gl;have hT:TmB n (k+j) ⟨ap.map (PS x),AY (zv ak*zv x)⟩:=by
  refine⟨by simpa using l1,λp hp=>?_,(InB.mul ha.k.inb hx.inb).lz⟩;rw[AtH]at hp;obtain⟨q,hq,rfl⟩:=hp;exact(InB.mul (ha.ps q hq).inb hx.inb).lz
 have gp:=Hs Kt Ks Z C hT hn (by omega);have el:(⟨ap.map (PS x),AY (zv ak*zv x)⟩:Tm).lf.pln=Lf.scale (Tm.lf ⟨ap,ak⟩) (zv x):=by
  unfold Lf.scale Tm.lf;simp only[List.map_map,BY]
  congr 2
  refine List.map_congr_left λp _=>?_
  show ((p.v,zv (AY (zv p.z*zv x))):Int × Int)=_
  rw[BY];rfl
 rw[el]at gp;obtain⟨xn,xa⟩:=x;refine Az Kf So (Aqy ..) ?_;refine Ab gm ?_;simp only[eZ,eN,Ai,Ao];refine Ab gl ?_;simp only[Ai];rw[show Atl (0+(ap.map (PS ⟨xn,xa⟩)).length*3) (Aj eP (ap.map (PS ⟨xn,xa⟩))).length=U from AQ Av _ (by omega)];refine Af ?_;rw[BF Av _ rfl];refine Ab gp ?_;rfl
omit Ks C in
theorem XX{z:Zi}(hz:Lz 1000000000 z):D.ask (.fn 125) [.agg (eZ z)] []=Δ (.agg (eT (Lf.num (zv z)).tm),[]):=by
 have g:=EO Kt Z hz;refine Az Kf Ajq (Aqm ..) ?_;refine Ab g ?_;rfl
end
theorem PJ:∀ l:List Pt,AU (Aj eP l)=U
 |[]=>rfl
 |x::r=>by
  have ih:=PJ r;have h1:Aj eP (x::r)=eP x++Aj eP r:=by simp[Aj]
  rw[h1,BH,List.all_append,←BH,←BH,ih];rfl
theorem M7{l:List Pt}(h:l.length<=1000000000):DS 3 (Ce 3 40) [.ls (l.map eP)] []=Δ (.sl 0 0 l.length 3,[.set (Eh l)]):=by
 unfold DS Ce;have h4:Atl (Bb (l.map eP)*40) 140737488355328=U:=by
  rw[Ao];simp;omega
 have h1:I9 (Ip (l.map eP))=U:=by rw[EM];exact JU AbH l
 have h2:AU (Ip (l.map eP))=U:=by rw[EM];exact PJ l
 simp only[EJ Av,h1,h2,h4,Bool.and_true,if_true,Option.map_some];rw[Ao,EM]
theorem Xy{n:Nat}(h:n<=1000000000):DS 3 (Dy 40) [.v (.slice Θ 0 0),iv (n:Int)] []=Δ (.sl 0 0 0 3,[.set (Eh [])]):=by
 have h4:Atl (n*40) 140737488355328=U:=by simp;omega
 show (if Atl (n*40) 140737488355328=U then Δ (0,([]:Aa)) else Θ).map _=_
 rw[Ac h4];rfl
section
open Go.RowKit
def Arx:MFn:=AE [⟨40,(mB 28722),[],[4,5],[(1,((mB 48),([],[])))]⟩] 86
def Arp:MFn:=AE [] 30
def ApO:List (Nat × MFn):=[(86,Arx),(30,Arp)]
variable (A:Ar) (D:Orc)
end
section
open Go.RowKit
def AoX:MFn:=AE [] 101
def AoZ:MFn:=AE [] 103
def Ao1:MFn:=AE [⟨19,(mB 387),[],[],[(0,((mB 16),([],[]))),(1,([],([],[])))]⟩] 171
def AoY:MFn:=AE [] 102
def Arr:MFn:=AE [] 36
def ApP:List (Nat × MFn):=[(101,AoX),(103,AoZ),(171,Ao1),(102,AoY),(36,Arr)]
variable (A:Ar) (D:Orc)
end
section
open Go.RowKit
def Akj:MFn:=AE [] 170
def AjH:Hnt:=⟨[(62,(.agg Bx,[]))],[],[(4,Bx),(7,[.bool])]⟩
def Apf:MFn:=AE [] 98
def AoI:Hnt:=⟨[(170,(.agg Er,[]))],[],[(3,Er)]⟩
def Ape:MFn:=AE [] 95
def AoH:Hnt:=⟨[],[],[]⟩
def Aki:MFn:=AE [] 166
def AjG:Hnt:=⟨[],[],[(4,[.int .i64]),(9,[.ls]),(13,[.ls]),(15,[.ls])]⟩
def Aj0:MFn:=AE [] 107
def Ajl:Hnt:=⟨[(95,(.agg AL,[])),(98,(.agg AL,[])),(165,(.ls,[])),(166,(.ls,[]))],[],[(4,[.int .i64]),(11,Er),(18,[.int .i64]),(19,AL)]⟩
def Wm:MFn:=AE [⟨19,(mB 456),[(3,6)],[],[(1,((mB 8),([],[])))]⟩] 165
def Sq:Hnt:=⟨[(107,(.agg AL,[]))],[(0,[(1,([.sl 1 6],[.del,.row U]))])],[(10,AL),(11,AL),(13,AL)]⟩
def Art:MFn:=AE [] 49
def Arz:MFn:=AE [] 92
def ArA:MFn:=AE [] 94
def Aru:MFn:=AE [] 54
def AcF:List (Nat × MFn):=[(170,Akj),(98,Apf),(95,Ape),(166,Aki),(107,Aj0),(165,Wm),(49,Art),(92,Arz),(94,ArA),(54,Aru)]
variable (A:Ar) (D:Orc)
theorem AqI(x0_0:Rw)(x0_1:Bool)(x0_2:Rw)(x0_3:Bool):BZ A D Aq AjH .n 170 Akj [ξ [Φ x0_0,bv x0_1,Φ x0_2,bv x0_3]] [] =
 Ag D (ω 62) [ξ [Φ x0_0,bv x0_1,Φ x0_2]] [] [.a,.L,.B,.L,.N,.E] λxs b xs1=>
 Δ ((ξ [Φ xs,bv b,Φ xs1,bv x0_3],[])):=by kernel_rfl
theorem e98(x0_0:Rw)(x0_1:Bool)(x0_2:Rw)(x0_3:Bool):BZ A D Aq AoI .n 98 Apf [ξ [Φ x0_0,bv x0_1,Φ x0_2,bv x0_3]] [] =
 Ag D (ω 170) [ξ [Φ x0_0,bv x0_1,Φ x0_2,bv x0_3]] [] [.a,.L,.B,.L,.B,.N,.E] λxs b xs1 b1=>
 Δ ((ξ [iv 2,Φ xs,bv b,Φ xs1,bv b1,Φ []],[])):=by kernel_rfl
theorem e95(x0:Bool):BZ A D Aq AoH .n 95 Ape [bv x0] [] =
 br x0
 (Δ ((ξ [iv 0,Φ [],bv Ξ,Φ [],bv Ξ,Φ []],[])))
 (Δ ((ξ [iv 1,Φ [],bv Ξ,Φ [],bv Ξ,Φ []],[]))):=by kernel_rfl
theorem AqH(x0_0:Int)(x0_1:Rw)(x0_2:Bool)(x0_3:Rw)(x0_4:Bool)(x0_5:Rw):BZ A D Aq AjG .n 166 Aki [ξ [iv x0_0,Φ x0_1,bv x0_2,Φ x0_3,bv x0_4,Φ x0_5]] [] =
 br (A.eq x0_0 4)
 (Δ ((Φ x0_5,[])))
 (br (A.eq x0_0 5)
 (Δ ((Φ x0_5,[])))
 (br (A.eq x0_0 3)
 (unI (A.min (↑(Bb x0_5)) 1) λi=>
 br (I4 0 i (Bb x0_5)) (br (Fs 6 x0_5) (Δ ((Φ (Ha (HD x0_5 i) 0),[]))) Θ) Θ)
 (Δ ((Φ [],[]))))):=by kernel_rfl
theorem Aqf(x0_0:Int)(x0_1:Rw)(x0_2:Bool)(x0_3:Rw)(x0_4:Bool)(x0_5:Rw):BZ A D Aq Ajl .n 107 Aj0 [ξ [iv x0_0,Φ x0_1,bv x0_2,Φ x0_3,bv x0_4,Φ x0_5]] [] =
 br (A.eq x0_0 0)
 (Ag D (ω 95) [bv U] [] [.a,.I,.L,.B,.L,.B,.L,.N,.E] λn xs b xs1 b1 xs2=>
 Δ ((ξ [iv n,Φ xs,bv b,Φ xs1,bv b1,Φ xs2],[])))
 (br (A.eq x0_0 2)
 (Ag D (ω 98) [ξ [Φ x0_1,bv x0_2,Φ x0_3,bv x0_4]] [] [.a,.I,.L,.B,.L,.B,.L,.N,.E] λn xs b xs1 b1 xs2=>
 Δ ((ξ [iv n,Φ xs,bv b,Φ xs1,bv b1,Φ xs2],[])))
 (br (A.eq x0_0 3)
 (Ag D (ω 166) [ξ [iv x0_0,Φ x0_1,bv x0_2,Φ x0_3,bv x0_4,Φ x0_5]] [] [.l,.E] λxs=>
 Ag D (ω 165) [Φ xs] [] [.l,.E] λxs1=>
 Δ ((ξ [iv x0_0,Φ [],bv Ξ,Φ [],bv Ξ,Φ xs1],[])))
 (br (A.eq x0_0 4)
 (Ag D (ω 166) [ξ [iv x0_0,Φ x0_1,bv x0_2,Φ x0_3,bv x0_4,Φ x0_5]] [] [.l,.E] λxs=>
 Ag D (ω 165) [Φ xs] [] [.l,.E] λxs1=>
 Δ ((ξ [iv x0_0,Φ [],bv Ξ,Φ [],bv Ξ,Φ xs1],[])))
 (br (A.eq x0_0 5)
 (Ag D (ω 166) [ξ [iv x0_0,Φ x0_1,bv x0_2,Φ x0_3,bv x0_4,Φ x0_5]] [] [.l,.E] λxs=>
 Ag D (ω 165) [Φ xs] [] [.l,.E] λxs1=>
 Δ ((ξ [iv x0_0,Φ [],bv Ξ,Φ [],bv Ξ,Φ xs1],[])))
 (Ag D (ω 95) [bv Ξ] [] [.a,.I,.L,.B,.L,.B,.L,.N,.E] λn xs b xs1 b1 xs2=>
 Δ ((ξ [iv n,Φ xs,bv b,Φ xs1,bv b1,Φ xs2],[]))))))):=by kernel_rfl
theorem AqG(x0:Rw):BZ A D Aq Sq .n 165 Wm [Φ x0] [] =
 Ag D (ο 165 0) [π 0 0 0 6,Φ x0,iv ↑(Bb x0),iv 0] [Ψ [] U U] [.t,.C,.x,.X,.Y] λc l o=>
 br (Bg 1 c)
 (dk [.C,.q 1 6,.N,.D,.R,.X,.E] [.l l,.o o] λn cs1=>
 br ((0+n*6).ble cs1.length) (Δ ((Φ (Bk n 6 (ε (n*6) cs1)),[]))) Θ)
 (Θ):=by kernel_rfl
theorem ZX(n3:Nat)(c3:Aa)(t6:Rw)(t7 t8:Int):C2 A D Aq Sq .n 165 0 (AN Wm 0).fst (AN Wm 0).snd [π 0 0 n3 6,Φ t6,iv t7,iv t8] [{ cells:=c3,st:=U,ex:=U }] =
 br (A.lt t8 t7)
 (unI t8 λi=>
 Bh t6 i λcs=>
 dk [.I,.L,.B,.L,.B,.L,.N] [.l cs] λn xs b xs1 b1 xs2=>
 Ag D (ω 107) [ξ [iv n,Φ xs,bv b,Φ xs1,bv b1,Φ xs2]] [] [.a,.I,.L,.B,.L,.B,.L,.N,.E] λn1 xs3 b2 xs4 b3 xs5=>
 br (Bo (n3+1) 96) (br ((0+n3*6).ble c3.length) (AT D (ο 165 0) [π 0 0 (n3+1) 6,Φ t6,iv t7,iv (A.add Ω t8 1)] [Ψ (Atg 0 (ε (0+n3*6) c3)++[iv n1,Φ xs3,bv b2,Φ xs4,bv b3,Φ xs5]) U U] λr1 o1=>
 AI 1 [3] (AH.mk [(3,Ψ (Atg 0 (ε (0+n3*6) c3)++[iv n1,Φ xs3,bv b2,Φ xs4,bv b3,Φ xs5]) U U),(2,Ψ [iv n1,Φ xs3,bv b2,Φ xs4,bv b3,Φ xs5] U U),(1,bk [iv n,Φ xs,bv b,Φ xs1,bv b1,Φ xs2])] 4 Θ) [0] r1 o1) Θ) Θ)
 (Δ ((Ath [iv 0,π 1 0 n3 6],[BO.del,Atb (Ψ c3 U U)]))):=by kernel_rfl
end
section
open Go.RowKit
def Wo:MFn:=AE [⟨19,(mB 387),[],[],[(0,((mB 16),([],[]))),(1,([],([],[])))]⟩] 193
def Ss:Hnt:=⟨[],[(0,[(0,([.int .i64],[])),(1,([],[]))])],[(14,[.int .i64]),(15,[.int .i64])]⟩
def Akp:MFn:=AE [] 194
def AjN:Hnt:=⟨[(62,(.agg Bx,[])),(126,(.agg Bv,[]))],[],[]⟩
def Wk:MFn:=AE [⟨53,(mB 458950),[],[6,7],[(1,((mB 192),([],[])))]⟩] 132
def Sn:Hnt:=⟨[(62,(.agg Bx,[])),(125,(.agg Bx,[])),(148,(.agg Bx,[])),(185,(.agg Bx,[])),(193,(.int .i64,[])),(194,(.agg Bx,[]))],[(0,[(1,([.ptr 0 0,.ptr 1 0],[.box Bx,.box Bx]))])],[(12,Bv),(14,Bx),(20,Bz),(21,Bz),(24,[.int .i64]),(34,Bx),(36,[.int .i64]),(39,Bv),(42,Bx),(45,Bx),(46,Bx),(48,Bv),(52,Bx)]⟩
def Ao7:MFn:=AE [] 59
def AoB:Hnt:=⟨[(132,(.agg Bx,[]))],[],[(8,Bx),(13,[.bool])]⟩
def AcL:List (Nat × MFn):=[(193,Wo),(194,Akp),(132,Wk),(59,Ao7)]
variable (A:Ar) (D:Orc)
theorem AqQ(x0:Rw)(x1:Int):BZ A D Aq Ss .n 193 Wo [Φ x0,iv x1] [] =
 Ag D (ο 193 0) [Φ x0,iv x1,iv ↑(Bb x0),iv 0] [] [.t,.C,.x,.X,.Y] λc l o=>
 br (Bg 0 c)
 (dk [.I,.N,.E] [.l l,.o o] λn=>
 Δ ((iv n,[])))
 (br (Bg 1 c)
 (E0 l<|
 CW o<|
 Δ ((iv (-1),[])))
 (Θ)):=by kernel_rfl
theorem Z1(t0:Rw)(t1 t7 t8:Int):C2 A D Aq Ss .n 193 0 (AN Wo 0).fst (AN Wo 0).snd [Φ t0,iv t1,iv t7,iv t8] [] =
 br (A.lt t8 t7)
 (unI t8 λi=>
 Bh t0 i λcs=>
 dk [.I,.N] [.l cs] λn=>
 br (A.eq t1 n)
 (Δ ((Ath [bv U,iv t8],[])))
 (AT D (ο 193 0) [Φ t0,iv t1,iv t7,iv (A.add Ω t8 1)] [] λr o=>
 AI 0 [] (AH.mk [] 0 Θ) [] r o))
 (Δ ((Ath [iv 0],[]))):=by kernel_rfl
theorem AqR(x0:Int):BZ A D Aq AjN .n 194 Akp [iv x0] [] =
 Ag D (ω 126) [iv 1] [] [.a,.B,.L,.N,.E] λb xs=>
 Ag D (ω 62) [ξ [Φ [[iv x0,bv b,Φ xs]],bv Ξ,Φ []]] [] [.a,.L,.B,.L,.N,.E] λxs1 b1 xs2=>
 Δ ((ξ [Φ xs1,bv b1,Φ xs2],[])):=by kernel_rfl
theorem Aqq(x0_0:Rw)(x0_1:Bool)(x0_2 x1 x2:Rw):BZ A D Aq Sn .n 132 Wk [ξ [Φ x0_0,bv x0_1,Φ x0_2],Φ x1,Φ x2] [] =
 Ag D (ω 125) [ξ [bv x0_1,Φ x0_2]] [] [.a,.L,.B,.L,.N,.E] λxs b xs1=>
 Ag D (ω 62) [ξ [Φ x0_0,bv x0_1,Φ x0_2]] [] [.a,.L,.B,.L,.N,.E] λxs2 _ _=>
 Ag D (ο 132 0) [Φ x1,Φ x2,ψ 0 0,ψ 1 0,Φ xs2,iv ↑(Bb xs2),iv 0] [bk [Φ [],bv Ξ,Φ []],bk [Φ xs,bv b,Φ xs1]] [.t,.C,.x,.X,.Y] λc l6 o2=>
 br (Bg 1 c)
 (dk [.P 0 0,.P 1 0,.N,.T,.L,.B,.L,.N,.T,.L,.B,.L,.N,.E] [.l l6,.o o2] λ_ _ _ xs6 b3 xs7=>
 Δ ((ξ [Φ xs6,bv b3,Φ xs7],[])))
 (Θ):=by kernel_rfl
theorem ZT(t1 t2 b6_0:Rw)(b6_1:Bool)(b6_2 b7_0:Rw)(b7_1:Bool)(b7_2 t16:Rw)(t17 t18:Int):C2 A D Aq Sn .n 132 0 (AN Wk 0).fst (AN Wk 0).snd [Φ t1,Φ t2,ψ 0 0,ψ 1 0,Φ t16,iv t17,iv t18] [bk [Φ b6_0,bv b6_1,Φ b6_2],bk [Φ b7_0,bv b7_1,Φ b7_2]] =
 br (A.lt t18 t17)
 (unI t18 λi=>
 Bh t16 i λcs=>
 dk [.I,.B,.L,.N] [.l cs] λn b xs=>
 Ag D (ω 193) [Φ t1,iv n] [] [.i,.E] λn1=>
 br (A.lt n1 0)
 (Ag D (ω 194) [iv n] [] [.a,.L,.B,.L,.N,.E] λxs1 b1 xs2=>
 Ag D (ω 148) [ξ [Φ xs1,bv b1,Φ xs2],ξ [bv b,Φ xs]] [] [.a,.L,.B,.L,.N,.E] λxs3 b2 xs4=>
 Ag D (ω 185) [ξ [Φ b7_0,bv b7_1,Φ b7_2],ξ [Φ xs3,bv b2,Φ xs4]] [] [.a,.L,.B,.L,.N,.E] λxs5 b3 xs6=>
 AT D (ο 132 0) [Φ t1,Φ t2,ψ 0 0,ψ 1 0,Φ t16,iv t17,iv (A.add Ω t18 1)] [bk [Φ b6_0,bv b6_1,Φ b6_2],bk [Φ xs5,bv b3,Φ xs6]] λr4 o4=>
 AI 2 [0,1] (AH.mk [(1,bk [Φ xs5,bv b3,Φ xs6]),(0,bk [Φ b6_0,bv b6_1,Φ b6_2]),(2,bk [iv n,bv b,Φ xs])] 3 Θ) [0,1] r4 o4)
 (br (A.le (↑(Bb t2)) n1)
 (Ag D (ω 194) [iv n] [] [.a,.L,.B,.L,.N,.E] λxs1 b1 xs2=>
 Ag D (ω 148) [ξ [Φ xs1,bv b1,Φ xs2],ξ [bv b,Φ xs]] [] [.a,.L,.B,.L,.N,.E] λxs3 b2 xs4=>
 Ag D (ω 185) [ξ [Φ b7_0,bv b7_1,Φ b7_2],ξ [Φ xs3,bv b2,Φ xs4]] [] [.a,.L,.B,.L,.N,.E] λxs5 b3 xs6=>
 AT D (ο 132 0) [Φ t1,Φ t2,ψ 0 0,ψ 1 0,Φ t16,iv t17,iv (A.add Ω t18 1)] [bk [Φ b6_0,bv b6_1,Φ b6_2],bk [Φ xs5,bv b3,Φ xs6]] λr4 o4=>
 AI 2 [0,1] (AH.mk [(1,bk [Φ xs5,bv b3,Φ xs6]),(0,bk [Φ b6_0,bv b6_1,Φ b6_2]),(2,bk [iv n,bv b,Φ xs])] 3 Θ) [0,1] r4 o4)
 (unI n1 λi1=>
 Bh t2 i1 λcs1=>
 dk [.L,.B,.L,.N] [.l cs1] λxs1 b1 xs2=>
 Ag D (ω 148) [ξ [Φ xs1,bv b1,Φ xs2],ξ [bv b,Φ xs]] [] [.a,.L,.B,.L,.N,.E] λxs3 b2 xs4=>
 Ag D (ω 185) [ξ [Φ b7_0,bv b7_1,Φ b7_2],ξ [Φ xs3,bv b2,Φ xs4]] [] [.a,.L,.B,.L,.N,.E] λxs5 b3 xs6=>
 AT D (ο 132 0) [Φ t1,Φ t2,ψ 0 0,ψ 1 0,Φ t16,iv t17,iv (A.add Ω t18 1)] [bk [Φ b6_0,bv b6_1,Φ b6_2],bk [Φ xs5,bv b3,Φ xs6]] λr3 o3=>
 AI 2 [0,1] (AH.mk [(1,bk [Φ xs5,bv b3,Φ xs6]),(0,bk [Φ b6_0,bv b6_1,Φ b6_2]),(2,bk [iv n,bv b,Φ xs])] 3 Θ) [0,1] r3 o3)))
 (Δ ((Ath [iv 0,ψ 0 0,ψ 1 0],[Atb (bk [Φ b6_0,bv b6_1,Φ b6_2]),Atb (bk [Φ b7_0,bv b7_1,Φ b7_2])]))):=by kernel_rfl
theorem e59(x0_0:Rw)(x0_1:Bool)(x0_2:Rw)(x0_3:Bool)(x1 x2:Rw):BZ A D Aq AoB .n 59 Ao7 [ξ [Φ x0_0,bv x0_1,Φ x0_2,bv x0_3],Φ x1,Φ x2] [] =
 Ag D (ω 132) [ξ [Φ x0_0,bv x0_1,Φ x0_2],Φ x1,Φ x2] [] [.a,.L,.B,.L,.N,.E] λxs b xs1=>
 Δ ((ξ [Φ xs,bv b,Φ xs1,bv x0_3],[])):=by kernel_rfl
end
