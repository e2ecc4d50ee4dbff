/- What the sort functions -/
import Derived.Test.YtlmhajfbpplpoaaGreatMAT
set_option linter.all false
open Bool renaming false->Θ,true->U,not_false->AyM,true_and->AvR
open List renaming append_assoc->AvO,append_nil->Awc,cons_append->AwP,drop->AvI,drop_eq_getElem_cons->ω,drop_eq_nil_of_le->ο,drop_of_length_le->Ayi,drop_zero->κ,ext_getElem?->Ayx,filter_cons->AyE,findIdx_cons->Ayy,flatten_cons->Aww,foldl_cons->Axu,getElem?_drop->AwI,getElem?_eq_getElem->Ω,getElem?_take->Awj,getElem_mem->AvN,length_append->ζ,length_cons->ε,length_map->Av8,length_set->Awf,length_singleton->Awo,length_take->Av6,map_cons->AvT,map_nil->AwR,mem_cons_of_mem->AvZ,mem_cons_self->AvX,mem_iff_getElem?->Ayk,mem_map->AwV,nil_append->AvV,reverse_cons->Ayz,singleton_append->Awu,take->AvG,take_append->AyG,take_append_drop->Ayl,take_of_length_le->AwJ
open Nat renaming add_mul->Aws,add_zero->Awr,ble->AvL,ble_eq_true_of_le->Awz,dvd_mul_left->Ayc,dvd_sub->AyD,dvd_zero->AyV,le_of_dvd->Ayo,le_refl->η,le_trans->Awe,lt_succ_self->AvS,min_eq_left->AwM,min_eq_right->Ayd,one_mul->Ax1,strongRecOn->AwN,zero_add->AvW,zero_le->Awh,zero_mul->AwK
open Option renaming some->V
namespace Go.Proofs.YtlmhajfbpplpoaaGreat
open ABlk renaming mk->Ψ
open AV renaming tup->γ
open BO renaming set->AvH
open Go.RowKit
theorem Srt.same{l r:List Pt}{a b p q:Nat}(h:Srt Pt.v l p q)(hs:Same0 l r a b)(hd:q<=a\/b<=p):Srt Pt.v r p q:=by
 intro x y h1 h2 h3;rw[hs.kf Pt.v (by omega),hs.kf Pt.v (by omega)];exact h x y h1 h2 h3
def WO(q t:Nat)(l:List Pt):Prop:=∀ p,q ∣ p->p+q<=t->Srt Pt.v l p (p+q)
theorem ApO{a:Nat}(h:a<4611686018427387000):Ai.add .i64 (a:Int) 20=((a+20:Nat):Int):=by
 rw[Ha (by omega) (by omega)];rfl
section
variable {D:Orc} (K:Knows Ak Qt D)
include K
theorem Apn:∀(m a:Nat) (l:List Pt),l.length-a=m->a<=l.length->l.length<=1000000000->20 ∣ a->WO 20 a l->
  ∃(r:List Pt) (c:Nat),D.ask (.lp 206 0) [.sl 0 0 l.length 3,iv (l.length:Int),GM,iv 20,iv (a:Int),iv ((a+20:Nat):Int)] [Ψ (Av eP l) U U]
   = V (.tup [iv 0,.sl 0 0 l.length 3,iv (l.length:Int),GM,iv 20,iv (c:Int)],[.set (Ψ (Av eP r) U U)])
   ∧ r.length=l.length/\r.Perm l/\c<=l.length/\l.length<c+20/\20 ∣ c/\WO 20 c r:=by
 intro m
 induction m using AwN with
 |_ m ih=>
  intro a l hm ha hl hd hb
  by_cases h:a+20<=l.length
  .obtain⟨r,g,hr,hp,ho,hsm⟩:=Ae6 K (a:=a) (b:=a+20) (l:=l) (by omega) h hl
   have hb2:WO 20 (a+20) r:=λp h1 h2=>by
    by_cases hpa:p=a
    .subst hpa
     exact ho
    .exact(hb p h1 (by omega)).same hsm (.inl (by omega))
   obtain⟨r2,c,g2,hr2,hp2,h3,h4,h5,h6⟩:=ih (r.length-(a+20)) (by omega) (a+20) r rfl (by omega) (by omega) (by omega) hb2;rw[hr]at g2 h3 h4;refine⟨r2,c,?_,by omega,hp2.trans hp,h3,h4,h5,h6⟩;refine Ax K Iy (AdU ..) ?_;refine CL ?_;refine Aa g ?_;simp only[GM,Ae];rw[ApO (by omega)];refine Aa g2 ?_;rfl
  .refine⟨l,a,?_,rfl,List.Perm.refl _,ha,by omega,hd,hb⟩
   refine Ax K Iy (AdU ..) ?_;exact C7 rfl
end
section
variable {D:Orc} (K:Knows Ak Fc D)
include K
omit K in
def OI(D:Orc):Prop:=∀(l:List Pt) (a m b:Nat),a<m->m<b->b<=l.length->l.length<=1000000000->Srt Pt.v l a m->Srt Pt.v l m b->
 ∃ r:List Pt,D.ask (.fn 243) [.sl 0 0 l.length 3,iv (a:Int),iv (m:Int),iv (b:Int),GM] [Ψ (Av eP l) U U]=V (.tup [],[.set (Ψ (Av eP r) U U)])
  ∧ r.length=l.length/\r.Perm l/\Srt Pt.v r a b/\Same0 l r a b
def TlS(q a:Nat)(l:List Pt):Prop:=∀ j,Srt Pt.v l (a+j*q) (min (a+(j+1)*q) l.length)
theorem Apq(M:OI D)(q:Nat)(hq:0<q)(hq2:q<=1000000000):∀(m a:Nat) (l:List Pt),l.length-a=m->a<=l.length->l.length<=1000000000->2*q ∣ a->WO (2*q) a l->TlS q a l->
  ∃(r:List Pt) (c:Nat),D.ask (.lp 206 2) [.sl 0 0 l.length 3,iv (l.length:Int),GM,iv (q:Int),iv (a:Int),iv ((a+2*q:Nat):Int)] [Ψ (Av eP l) U U]
   = V (.tup [iv 4,.sl 0 0 l.length 3,iv (l.length:Int),GM,iv (q:Int),iv (c:Int)],[.set (Ψ (Av eP r) U U)])
   ∧ r.length=l.length/\r.Perm l/\c<=l.length/\l.length<c+2*q/\2*q ∣ c/\WO (2*q) c r/\TlS q c r:=by
 intro m
 induction m using AwN with
 |_ m ih=>
  intro a l hm ha hl hd hb ht
  by_cases h:a+2*q<=l.length
  .have t0:=ht 0
   have t1:=ht 1;rw[AwK,Awr,AvW,Ax1,AwM (by omega)]at t0;rw[Ax1,show (1+1)*q=2*q from rfl,AwM h]at t1;obtain⟨r,g,hr,hp,ho,hsm⟩:=M l a (a+q) (a+2*q) (by omega) (by omega) h hl t0 t1;have hb2:WO (2*q) (a+2*q) r:=λp h1 h2=>by
    by_cases hpa:p=a
    .subst hpa
     exact ho
    .have:=Ayo (by omega) (AyD hd h1)
     exact(hb p h1 (by omega)).same hsm (.inl (by omega))
   have ht2:TlS q (a+2*q) r:=λj=>by
    have:=ht (j+2);rw[show a+(j+2)*q=a+2*q+j*q by rw[Aws];omega,show a+(j+2+1)*q=a+2*q+(j+1)*q by rw[Aws,Aws,Aws];omega]at this;rw[hr];exact this.same hsm (.inr (by omega))
   obtain⟨r2,c,g2,hr2,hp2,h3,h4,h5,h6,h7⟩:=ih (r.length-(a+2*q)) (by omega) (a+2*q) r rfl (by omega) (by omega) (Nat.dvd_add hd (Nat.dvd_refl _)) hb2 ht2;rw[hr]at g2 h3 h4;refine⟨r2,c,?_,by omega,hp2.trans hp,h3,h4,h5,h6,h7⟩;refine Ax K Iy (AdV ..) ?_;refine CL ?_;rw[show Ai.add .i64 (a:Int) (q:Int)=((a+q:Nat):Int) by rw[Ha (by omega) (by omega)];omega,
    show Ai.mul .i64 2 (q:Int)=((2*q:Nat):Int) by
     show IntKind.i64.wrap (2*(q:Int))=_
     rw[IntKind.wrap_i64];omega,
    show Ai.add .i64 ((a+2*q:Nat):Int) ((2*q:Nat):Int)=((a+2*q+2*q:Nat):Int) by rw[Ha (by omega) (by omega)];omega]
   refine Aa g ?_;simp only[GM,Ae];refine Aa g2 ?_;rfl
  .refine⟨l,a,?_,rfl,List.Perm.refl _,ha,by omega,hd,hb,ht⟩
   refine Ax K Iy (AdV ..) ?_;exact C7 rfl
omit K in
theorem YG{q c:Nat}{r:List Pt}(hq:0<q)(hd:q ∣ c)(hn:r.length<c+q)(hb:WO q c r)(hs:Srt Pt.v r c r.length):TlS q 0 r:=λj=>by
 rw[AvW,AvW];have e:(j+1)*q=j*q+q:=by rw[Aws];omega
 by_cases h1:j*q+q<=c
 .have:=hb (j*q) (Ayc q j) h1
  intro x y hx hxy hy;exact this x y hx hxy (by omega)
 .by_cases h2:j*q=c
  .intro x y hx hxy hy
   exact hs x y (by omega) hxy (by omega)
  .intro x y hx hxy hy
   exfalso
   by_cases h3:j*q<c
   .have:=Ayo (by omega) (AyD hd (Ayc q j))
    omega
   .have:=Ayo (by omega) (AyD (Ayc q j) hd)
    omega
theorem Apo(M:OI D):∀(m q:Nat) (l:List Pt),l.length-q=m->0<q->q<=2000000000->l.length<=1000000000->TlS q 0 l->
  ∃ r:List Pt,D.ask (.lp 206 1) [.sl 0 0 l.length 3,iv (l.length:Int),GM,iv (q:Int)] [Ψ (Av eP l) U U]
   = V (.tup [iv 2,.sl 0 0 l.length 3],[.set (Ψ (Av eP r) U U)])
   ∧ r.length=l.length/\r.Perm l/\Srt Pt.v r 0 r.length:=by
 intro m
 induction m using AwN with
 |_ m ih=>
  intro q l hm hq hq2 hl ht
  by_cases h:q<l.length
  .obtain⟨r,c,g,hr,hp,hc,hn,hd,hb,ht2⟩:=Apq K M q hq (by omega) _ 0 l rfl (by omega) hl (AyV _) (λp _ h2=>by omega) ht
   have t0:=ht2 0;have t1:=ht2 1;rw[AwK,Awr,AvW,Ax1]at t0;rw[Ax1,show (1+1)*q=2*q from rfl,Ayd (by omega)]at t1;rw[AvW]at g;have emul:Ai.mul .i64 2 (q:Int)=((2*q:Nat):Int):=by
    show IntKind.i64.wrap (2*(q:Int))=_
    rw[IntKind.wrap_i64];omega
   have emul2:Ai.mul .i64 (q:Int) 2=((2*q:Nat):Int):=by
    show IntKind.i64.wrap ((q:Int)*2)=_
    rw[IntKind.wrap_i64];omega
   have eadd:Ai.add .i64 (c:Int) (q:Int)=((c+q:Nat):Int):=by rw[Ha (by omega) (by omega)];omega
   by_cases h2:c+q<l.length
   .rw[AwM (by omega)]at t0
    obtain⟨r3,g3,hr3,hp3,ho3,hsm⟩:=M r c (c+q) r.length (by omega) (by omega) (η _) (by omega) t0 t1;have ht3:TlS (2*q) 0 r3:=YG (by omega) hd (by omega) (λp h1 h2=>(hb p h1 h2).same hsm (.inl (by omega))) (by rw[hr3];exact ho3);obtain⟨r4,g4,hr4,hp4,ho4⟩:=ih (r3.length-2*q) (by omega) (2*q) r3 rfl (by omega) (by omega) (by omega) ht3;rw[hr]at g3 hr3;rw[hr3]at g4 hr4;refine⟨r4,?_,hr4,hp4.trans (hp3.trans hp),ho4⟩;refine Ax K Iy (Xk ..) ?_;refine Ao ?_;rw[emul];refine Aa g ?_;simp only[GM,Ae];refine Af ?_;rw[eadd,emul2];refine Ao ?_;refine Aa g3 ?_;simp only[GM,Ae];refine Aa g4 ?_;rfl
   .rw[Ayd (by omega)]at t0
    have ht3:TlS (2*q) 0 r:=YG (by omega) hd (by omega) hb t0;obtain⟨r4,g4,hr4,hp4,ho4⟩:=ih (r.length-2*q) (by omega) (2*q) r rfl (by omega) (by omega) (by omega) ht3;rw[hr]at g4 hr4;refine⟨r4,?_,hr4,hp4.trans hp,ho4⟩;refine Ax K Iy (Xk ..) ?_;refine Ao ?_;rw[emul];refine Aa g ?_;simp only[GM,Ae];refine Af ?_;rw[eadd,emul2];refine Am ?_;refine Aa g4 ?_;rfl
  .refine⟨l,?_,rfl,List.Perm.refl _,?_⟩
   .refine Ax K Iy (Xk ..) ?_
    exact Am rfl
   .have t0:=ht 0
    rw[AwK,AvW,AvW,Ax1,Ayd (by omega)]at t0;exact t0
theorem Acm(M:OI D){l:List Pt}(hl:l.length<=1000000000) :
  ∃ r:List Pt,D.ask (.fn 206) [.sl 0 0 l.length 3,iv (l.length:Int),GM] [Ψ (Av eP l) U U]=V (.tup [],[.set (Ψ (Av eP r) U U)])
   ∧ r.length=l.length/\r.Perm l/\Srt Pt.v r 0 r.length:=by
 obtain⟨r,c,g,hr,hp,hc,hn,hd,hb⟩:=Apn (Jl K) _ 0 l rfl (by omega) hl (AyV _) (λp _ h2=>by omega);obtain⟨r2,g2,hr2,hp2,ho2,hsm⟩:=Ae6 (Jl K) (a:=c) (b:=r.length) (l:=r) (by omega) (η _) (by omega);have ht:TlS 20 0 r2:=YG (by omega) hd (by omega) (λp h1 h2=>(hb p h1 h2).same hsm (.inl (by omega))) (by rw[hr2];exact ho2);obtain⟨r3,g3,hr3,hp3,ho3⟩:=Apo K M _ 20 r2 rfl (by omega) (by omega) (by omega) ht;rw[hr]at g2 hr2;rw[hr2]at g3 hr3;refine⟨r3,?_,hr3,hp3.trans (hp2.trans hp),ho3⟩;refine Aq K Iy (AtA ..) ?_;refine Aa g ?_;simp only[GM,Ae];refine Aa g2 ?_;simp only[GM,Ae];refine Aa g3 ?_;rfl
theorem AjT(M:OI D){l:List Pt}(hl:l.length<=1000000000) :
  ∃ r:List Pt,D.ask (.fn 152) [.sl 0 0 l.length 3,GM] [Ψ (Av eP l) U U]=V (.tup [],[.set (Ψ (Av eP r) U U)])
   ∧ r.length=l.length/\r.Perm l/\Srt Pt.v r 0 r.length:=by
 obtain⟨r,g,h⟩:=Acm K M hl;refine⟨r,?_,h⟩;refine Aq K Ald (As4 ..) ?_;refine Aa g ?_;rfl
end
section
variable {α:Type} (key:α->Int)
structure Rot (l r:List α) (a m b:Nat):Prop where
 out:∀ p,p<a\/b<=p->r[p]? = l[p]?
 low:∀ p,a<=p->p<a+(b-m)->r[p]? = l[p+(m-a)]?
 high:∀ p,a+(b-m)<=p->p<b->r[p]? = l[p-(b-m)]?
structure SwR (l r:List α) (a b n:Nat):Prop where
 out:∀ p,p<a\/(a+n<=p/\p<b)\/b+n<=p->r[p]? = l[p]?
 low:∀ p,a<=p->p<a+n->r[p]? = l[p+(b-a)]?
 high:∀ p,b<=p->p<b+n->r[p]? = l[p-(b-a)]?
theorem CM{l:List α}{i j:Nat}(h:i=j):l[i]? = l[j]?:=by rw[h]
theorem Agx{c d r:List α}{i j m:Nat}(h0:i<=m)(h:j<i)(s:SwR c d (m-i) m j)(t:Rot d r (m-(i-j)) m (m+j)):Rot c r (m-i) m (m+j):=by
 refine⟨λp hp=>?_,λp h1 h2=>?_,λp h1 h2=>?_⟩
 .rw[t.out p (by omega),s.out p (by omega)]
 .rw[t.out p (by omega),s.low p (by omega) (by omega)]
 .by_cases h3:p<m-(i-j)+j
  .rw[t.low p (by omega) (by omega),s.high _ (by omega) (by omega)]
   exact CM (by omega)
  .rw[t.high p (by omega) (by omega),s.out _ (by omega)]
theorem Ab2{c d r:List α}{i j m:Nat}(h0:i<=m)(h:i<j)(s:SwR c d (m-i) (m+j-i) i)(t:Rot d r (m-i) m (m+(j-i))):Rot c r (m-i) m (m+j):=by
 refine⟨λp hp=>?_,λp h1 h2=>?_,λp h1 h2=>?_⟩
 .rw[t.out p (by omega),s.out p (by omega)]
 .by_cases h3:p<m-i+(j-i)
  .rw[t.low p (by omega) (by omega),s.out _ (by omega)]
  .rw[t.high p (by omega) (by omega),s.low _ (by omega) (by omega)]
   exact CM (by omega)
 .rw[t.out p (by omega),s.high p (by omega) (by omega)]
  exact CM (by omega)
theorem Agz{c r:List α}{i m:Nat}(h0:i<=m)(s:SwR c r (m-i) m i):Rot c r (m-i) m (m+i):=by
 refine⟨λp hp=>?_,λp h1 h2=>?_,λp h1 h2=>?_⟩
 .rw[s.out p (by omega)]
 .rw[s.low p (by omega) (by omega)]
 .rw[s.high p (by omega) (by omega)]
  exact CM (by omega)
theorem Md{l:List α}{a m b:Nat}(h:a=m\/m=b)(ha:a<=m)(hb:m<=b):Rot l l a m b:=by
 refine⟨λp hp=>rfl,λp h1 h2=>CM (by omega),λp h1 h2=>CM (by omega)⟩
theorem Ag1{l r:List α}{a b n:Nat}(hab:a+n<b)(hb:b+n<l.length)(s:SwR l r a b n)(hr:r.length=l.length):SwR l (DL r (a+n) (b+n)) a b (n+1):=by
 have ha:a+n<r.length:=by omega
 have hb2:b+n<r.length:=by omega
 have e1:∀ p,(DL r (a+n) (b+n))[p]? = if p=a+n then r[b+n]? else if p=b+n then r[a+n]? else r[p]?:=λp=>by
  grind [Ep]
 refine⟨λp hp=>?_,λp h1 h2=>?_,λp h1 h2=>?_⟩
 .rw[e1,Ad (by omega),Ad (by omega),s.out p (by omega)]
 .rw[e1]
  by_cases h:p=a+n
  .rw[Ac h,s.out _ (by omega)]
   exact CM (by omega)
  .rw[Ad h,Ad (by omega),s.low p h1 (by omega)]
 .rw[e1]
  by_cases h:p=b+n
  .rw[Ad (by omega),Ac h,s.out _ (by omega)]
   exact CM (by omega)
  .rw[Ad (by omega),Ad h,s.high p h1 (by omega)]
theorem Ag2(l:List α)(a b:Nat):SwR l l a b 0:=⟨λ_ _=>rfl,λ_ h1 h2=>by omega,λ_ h1 h2=>by omega⟩
theorem I1{l r:List α}{p q:Nat}(h:r[p]? = l[q]?):kf key r p=kf key l q:=by
 unfold kf;rw[h]
theorem Rot.kout{l r:List α}{a m b p:Nat}(h:Rot l r a m b)(hp:p<a\/b<=p):kf key r p=kf key l p:=I1 key (h.out p hp)
theorem Rot.klow{l r:List α}{a m b p:Nat}(h:Rot l r a m b)(h1:a<=p)(h2:p<a+(b-m)):kf key r p=kf key l (p+(m-a)):=I1 key (h.low p h1 h2)
theorem Rot.khigh{l r:List α}{a m b p:Nat}(h:Rot l r a m b)(h1:a+(b-m)<=p)(h2:p<b):kf key r p=kf key l (p-(b-m)):=I1 key (h.high p h1 h2)
theorem VA{l r:List α}{a b i:Nat}(hi:a+1<=i)(hib:i<=b)(hs:Srt key l (a+1) b)(h1:∀ p,a+1<=p->p<i->kf key l p<kf key l a)(h2:∀ p,i<=p->p<b->kf key l a<=kf key l p)(t:Rot l r a (a+1) i):Srt key r a b:=by
 intro p q hp hpq hq
 by_cases q1:q<i-1
 .rw[t.klow key (by omega) (by omega),t.klow key (by omega) (by omega)]
  exact hs _ _ (by omega) (by omega) (by omega)
 .by_cases q2:q=i-1
  .rw[t.klow key (by omega) (by omega),t.khigh key (by omega) (by omega),show q-(i-(a+1))=a by omega]
   have:=h1 (p+(a+1-a)) (by omega) (by omega);omega
  .rw[t.kout key (p:=q) (by omega)]
   by_cases p1:p<i-1
   .rw[t.klow key (by omega) (by omega)]
    exact hs _ _ (by omega) (by omega) (by omega)
   .by_cases p2:p=i-1
    .rw[t.khigh key (by omega) (by omega),show p-(i-(a+1))=a by omega]
     exact h2 q (by omega) hq
    .rw[t.kout key (by omega)]
     exact hs _ _ (by omega) (by omega) (by omega)
theorem X3{l r:List α}{a m i:Nat}(hi:a<=i)(him:i<=m)(hs:Srt key l a m)(h1:∀ p,a<=p->p<i->kf key l p<=kf key l m)(h2:∀ p,i<=p->p<m->kf key l m<kf key l p)(t:Rot l r i m (m+1)):Srt key r a (m+1):=by
 intro p q hp hpq hq
 by_cases p1:p<i
 .rw[t.kout key (p:=p) (by omega)]
  by_cases q1:q<i
  .rw[t.kout key (by omega)]
   exact hs _ _ (by omega) (by omega) (by omega)
  .by_cases q2:q=i
   .rw[t.klow key (by omega) (by omega),show q+(m-i)=m by omega]
    exact h1 p hp p1
   .rw[t.khigh key (by omega) (by omega)]
    exact hs _ _ (by omega) (by omega) (by omega)
 .rw[t.khigh key (p:=q) (by omega) (by omega)]
  by_cases p2:p=i
  .rw[t.klow key (by omega) (by omega),show p+(m-i)=m by omega]
   have:=h2 (q-(m+1-m)) (by omega) (by omega);omega
  .rw[t.khigh key (by omega) (by omega)]
   exact hs _ _ (by omega) (by omega) (by omega)
def Low(l:List α)(a m b:Nat):Prop:=∀ p q,a<=p->p<m->m<=q->q<b->kf key l p<=kf key l q
theorem AjU{l:List α}{a m b:Nat}(h1:Srt key l a m)(h2:Srt key l m b)(h3:Low key l a m b):Srt key l a b:=by
 intro p q hp hpq hq
 by_cases c:q<m
 .exact h1 p q hp hpq c
 .by_cases d:p<m
  .exact h3 p q hp d (by omega) hq
  .exact h2 p q (by omega) hpq hq
structure CutAt (l:List α) (a m b mid s e:Nat):Prop where
 asl:a<=s
 sm:s<=m
 me:m<=e
 eb:e<=b
 mid:s+(e-m)=mid
 up:∀ p q,a<=p->p<s->e<=q->q<b->kf key l p<=kf key l q
 dn:∀ p q,m<=p->p<e->s<=q->q<m->kf key l p<=kf key l q
theorem JA{l r:List α}{a m b mid s e:Nat}(c:CutAt key l a m b mid s e)(h1:Srt key l a m)(h2:Srt key l m b)(t:Rot l r s m e) :
  Srt key r a s/\Srt key r s mid/\Srt key r mid e/\Srt key r e b/\Low key r a mid b:=by
 have:=c.asl;have:=c.sm;have:=c.me;have:=c.eb;have:=c.mid;refine⟨λp q x y z=>?_,λp q x y z=>?_,λp q x y z=>?_,λp q x y z=>?_,λp q x y z w=>?_⟩
 .rw[t.kout key (by omega),t.kout key (by omega)]
  exact h1 _ _ (by omega) (by omega) (by omega)
 .rw[t.klow key (by omega) (by omega),t.klow key (by omega) (by omega)]
  exact h2 _ _ (by omega) (by omega) (by omega)
 .rw[t.khigh key (by omega) (by omega),t.khigh key (by omega) (by omega)]
  exact h1 _ _ (by omega) (by omega) (by omega)
 .rw[t.kout key (by omega),t.kout key (by omega)]
  exact h2 _ _ (by omega) (by omega) (by omega)
 .by_cases p1:p<s
  .rw[t.kout key (p:=p) (by omega)]
   by_cases q1:q<e
   .rw[t.khigh key (by omega) (by omega)]
    exact h1 _ _ (by omega) (by omega) (by omega)
   .rw[t.kout key (by omega)]
    exact c.up _ _ (by omega) (by omega) (by omega) (by omega)
  .rw[t.klow key (p:=p) (by omega) (by omega)]
   by_cases q1:q<e
   .rw[t.khigh key (by omega) (by omega)]
    exact c.dn _ _ (by omega) (by omega) (by omega) (by omega)
   .rw[t.kout key (by omega)]
    exact h2 _ _ (by omega) (by omega) (by omega)
theorem ZV{l r:List α}{a b:Nat}(hp:r.Perm l)(hs:Same0 l r a b){p:Nat}(h1:a<=p)(h2:p<b)(hb:b<=l.length):∃ q,a<=q/\q<b/\r[p]? = l[q]?:=by
 have hlen:=hp.length_eq;have ht:r.take a=l.take a:=by
  apply Ayx;intro i;rw[Awj,Awj];split
  .exact hs i (by omega)
  .rfl
 have hd:r.drop b=l.drop b:=by
  apply Ayx;intro i;rw[AwI,AwI];exact hs _ (by omega)
 have er:∀ x:List α,b<=x.length->x=x.take a++((x.drop a).take (b-a)++x.drop b):=λx hx=>by
  have e1:=(Ayl a x).symm;have e2:=(Ayl (b-a) (x.drop a)).symm;rw[List.drop_drop,show a+(b-a)=b by omega]at e2;rw[←e2];exact e1
 have hp2:(r.take a++((r.drop a).take (b-a)++r.drop b)).Perm (l.take a++((l.drop a).take (b-a)++l.drop b)):=by
  grind
 rw[ht,hd]at hp2;have hp3:=(List.perm_append_right_iff _).1 ((List.perm_append_left_iff _).1 hp2);have hpr:p<r.length:=by omega
 have hm:r[p]∈(r.drop a).take (b-a):=by
  rw[Ayk];refine⟨p-a,?_⟩;rw[Awj,Ac (by omega),AwI,show a+(p-a)=p by omega,Ω hpr]
 have hm2:=hp3.mem_iff.1 hm;rw[Ayk]at hm2;obtain⟨i,hi⟩:=hm2;rw[Awj]at hi;split at hi
 .grind
 .cases hi
theorem Afw{l r:List α}{a m b:Nat}(h:Low key l a m b)(hp:r.Perm l)(hs:Same0 l r a m)(hb:m<=l.length):Low key r a m b:=by
 intro p q x y z w;obtain⟨p2,h1,h2,h3⟩:=ZV hp hs x y hb;rw[I1 key h3,hs.kf key (by omega)];exact h p2 q h1 h2 z w
theorem Abr{l r:List α}{a m b:Nat}(h:Low key l a m b)(hp:r.Perm l)(hs:Same0 l r m b)(hb:b<=l.length):Low key r a m b:=by
 intro p q x y z w;obtain⟨q2,h1,h2,h3⟩:=ZV hp hs z w hb;rw[I1 key h3,hs.kf key (by omega)];exact h p q2 x y h1 h2
theorem Srt.same'{l r:List α}{a b p q:Nat}(h:Srt key l p q)(hs:Same0 l r a b)(hd:q<=a\/b<=p):Srt key r p q:=by
 intro x y h1 h2 h3;rw[hs.kf key (by omega),hs.kf key (by omega)];exact h x y h1 h2 h3
theorem Mk{l:List α}{a s m:Nat}(h:s=a\/s=m)(h1:Srt key l a s)(h2:Srt key l s m):Srt key l a m:=by
 grind
structure Bs (l:List α) (n x y s r:Nat):Prop where
 xs:x<=s
 sr:s<=r
 ry:r<=y
 lo:∀ c,x<=c->c<s->kf key l c<=kf key l (n-1-c)
 hi:∀ c,r<=c->c<y->kf key l (n-1-c)<kf key l c
section
variable {l:List α} {n x y s r a m b:Nat}
theorem Bs.up(B:Bs key l n x y s r)(h1:Srt key l a m)(h2:Srt key l m b)(hx:a<=x)(hy:y<=m)(hn:n<=x+b)(hm:m+y<=n){c:Nat}(hc:s<=c)(hr:c<r)(h:kf key l c<=kf key l (n-1-c)):Bs key l n x y (c+1) r:=by
 have:=B.xs;have:=B.sr;have:=B.ry;refine⟨by omega,by omega,B.ry,λd hd1 hd2=>?_,B.hi⟩
 by_cases hdc:d=c
 .rw[hdc];exact h
 .have e1:=h1 d c (by omega) (by omega) (by omega)
  have e2:=h2 (n-1-c) (n-1-d) (by omega) (by omega) (by omega);omega
theorem Bs.dn(B:Bs key l n x y s r)(h1:Srt key l a m)(h2:Srt key l m b)(hx:a<=x)(hy:y<=m)(hn:n<=x+b)(hm:m+y<=n){c:Nat}(hc:s<=c)(hr:c<r)(h:kf key l (n-1-c)<kf key l c):Bs key l n x y s c:=by
 have:=B.xs;have:=B.sr;have:=B.ry;refine⟨B.xs,hc,by omega,B.lo,λd hd1 hd2=>?_⟩
 by_cases hdc:d=c
 .rw[hdc];exact h
 .have e1:=h1 c d (by omega) (by omega) (by omega)
  have e2:=h2 (n-1-d) (n-1-c) (by omega) (by omega) (by omega);omega
theorem Bs.cut{mid:Nat}(B:Bs key l (mid+m) x y s s)(h1:Srt key l a m)(h2:Srt key l m b)(hx:a<=x)(hy:y<=m)(hn:mid+m<=x+b)(hm:y<=mid)(cx:x=a\/mid+m=x+b)(cy:y=m\/y=mid):CutAt key l a m b mid s (mid+m-s):=by
 have:=B.xs;have:=B.ry;refine⟨by omega,by omega,by omega,by omega,by omega,λp q c1 c2 c3 c4=>?_,λp q c1 c2 c3 c4=>?_⟩
 .have hs:x<s:=by omega
  have e:=B.lo (s-1) (by omega) (by omega);rw[show mid+m-1-(s-1)=mid+m-s by omega]at e;have e1:kf key l p<=kf key l (s-1):=by
   by_cases h:p=s-1
   .grind
   .exact h1 _ _ (by omega) (by omega) (by omega)
  have e2:kf key l (mid+m-s)<=kf key l q:=by
   by_cases h:q=mid+m-s
   .grind
   .exact h2 _ _ (by omega) (by omega) (by omega)
  omega
 .have hs:s<y:=by omega
  have e:=B.hi s (by omega) (by omega);have e1:kf key l p<=kf key l (mid+m-1-s):=by
   by_cases h:p=mid+m-1-s
   .grind
   .exact h2 _ _ (by omega) (by omega) (by omega)
  have e2:kf key l s<=kf key l q:=by
   by_cases h:q=s
   .grind
   .exact h1 _ _ (by omega) (by omega) (by omega)
  omega
end
theorem Api{l r:List α}{a k:Nat}(h:a<=k)(hk:k+1<l.length)(hr:r.length=l.length)(t:Rot l r a (a+1) (k+1)):Rot l (DL r k (k+1)) a (a+1) (k+2):=by
 have e1:∀ p,(DL r k (k+1))[p]? = if p=k then r[k+1]? else if p=k+1 then r[k]? else r[p]?:=λp=>by
  grind [Ep]
 refine⟨λp hp=>?_,λp h1 h2=>?_,λp h1 h2=>?_⟩
 .rw[e1,Ad (by omega),Ad (by omega),t.out p (by omega)]
 .rw[e1]
  by_cases h:p=k
  .rw[Ac h,t.out _ (by omega)]
   exact CM (by omega)
  .rw[Ad h,Ad (by omega),t.low p h1 (by omega)]
 .rw[e1,Ad (by omega),Ac (by omega),t.high k (by omega) (by omega)]
  exact CM (by omega)
theorem Agw{l r:List α}{m k:Nat}(h:k<m)(hk:m<l.length)(hr:r.length=l.length)(t:Rot l r (k+1) m (m+1)):Rot l (DL r (k+1) k) k m (m+1):=by
 have e1:∀ p,(DL r (k+1) k)[p]? = if p=k then r[k+1]? else if p=k+1 then r[k]? else r[p]?:=λp=>by
  grind [Ep]
 refine⟨λp hp=>?_,λp h1 h2=>?_,λp h1 h2=>?_⟩
 .rw[e1,Ad (by omega),Ad (by omega),t.out p (by omega)]
 .rw[e1,Ac (by omega),t.low (k+1) (by omega) (by omega)]
  exact CM (by omega)
 .rw[e1,Ad (by omega)]
  by_cases h:p=k+1
  .rw[Ac h,t.out _ (by omega)]
   exact CM (by omega)
  .rw[Ad h,t.high p (by omega) (by omega)]
end
theorem ER{a b:Nat}(h:a+b<4611686018427387904):Ai.conv .i64 (Ai.shr .u64 (Ai.conv .u64 (Ai.add .i64 (a:Int) (b:Int))) 1)=(((a+b) / 2:Nat):Int):=by
 rw[Ha (by omega) (by omega),show (a:Int)+(b:Int)=((a+b:Nat):Int) by omega,Cf (by omega)];have:Ai.shr .u64 ((a+b:Nat):Int) 1=(((a+b) / 2:Nat):Int):=by
  show Int.fdiv ((a+b:Nat):Int) (2 ^ 1)=_
  have:(2 ^ 1:Int)=((2:Nat):Int):=by decide
  rw[this,Int.fdiv_eq_ediv_of_nonneg _ (by omega)];rfl
 rw[this]
 show IntKind.i64.wrap (((a+b) / 2:Nat):Int)=_
 rw[IntKind.wrap_i64];omega
theorem OJ{a b:Nat}(h:a+b<4611686018427387904):Ai.add .i64 (a:Int) (b:Int)=((a+b:Nat):Int):=by
 rw[Ha (by omega) (by omega)];omega
theorem Di{a b:Nat}(hb:b<=a)(h:a<4611686018427387904):Ai.sub .i64 (a:Int) (b:Int)=((a-b:Nat):Int):=by
 rw[Hc (by omega) (by omega)];omega
theorem Nh{a:Nat}(hb:1<=a)(h:a<4611686018427387904):Ai.sub .i64 (a:Int) 1=((a-1:Nat):Int):=by
 rw[Hc (by omega) (by omega)];omega
abbrev Fo(l:List Pt):ABlk:=Ψ (Av eP l) U U
section
variable {D:Orc} (K:Knows Ak Fc D)
include K
theorem Apr(a b n:Nat)(l0:List Pt):∀(m i:Nat) (l:List Pt),n-i=m->i<=n->a+n<=b->b+n<=l.length->l.length<=1000000000->l.length=l0.length->SwR l0 l a b i->
  ∃ r:List Pt,D.ask (.lp 273 0) [.sl 0 0 l.length 3,iv (a:Int),iv (b:Int),iv (n:Int),iv (i:Int)] [Fo l]=V (.tup [iv 0,.sl 0 0 l.length 3],[.set (Fo r)])
   ∧ r.length=l.length/\r.Perm l/\SwR l0 r a b n:=by
 intro m
 induction m with
 |zero=>
  intro i l hm hi ha hb hl h0 hs;obtain rfl:i=n:=by omega
  refine⟨l,?_,rfl,List.Perm.refl _,hs⟩;refine Ax K Ve (Aea ..) ?_;exact Am rfl
 |succ m ih=>
  intro i l hm hi ha hb hl h0 hs;have hI:a+i<l.length:=by omega
  have hJ:b+i<l.length:=by omega
  have hlen:=JM l (a+i) (b+i);obtain⟨r,g,hr,hp,ho⟩:=ih (i+1) (DL l (a+i) (b+i)) (by omega) (by omega) ha (by omega) (by omega) (by omega) (Ag1 (by omega) (by omega) hs h0);rw[hlen]at g hr;refine⟨r,?_,hr,hp.trans (Io _ _ _),ho⟩;refine Ax K Ve (Aea ..) ?_;refine Ao ?_;rw[OJ (a:=b) (b:=i) (by omega),OJ (a:=a) (b:=i) (by omega),Bn (by omega)];rw[AA,Be hJ];refine Af ?_;refine(BC AE l (b+i) hJ _).trans ?_;simp only[eP,eN,Ae];rw[AA,Be hI];refine Af ?_;refine(BC AE l (a+i) hI _).trans ?_;simp only[eP,eN,Ae];have s1:=Db AE l (a+i) hI l[(b+i)];have s2:=Db AE (l.set (a+i) l[(b+i)]) (b+i) (by rw[Awf];exact hJ) l[(a+i)];rw[←Ep hI hJ]at s2;simp only[eP,eN]at s1 s2;rw[AA,Be hI];refine Af ?_;rw[show AvL (0+(a+i)*3+3) (Av eP l).length=U by rw[BK AE];simp;omega];refine Af ?_;rw[AA,Be hJ];refine Af ?_;rw[s1,s2];rw[show AvL (0+(b+i)*3+3) (Av eP (l.set (a+i) l[(b+i)])).length=U by rw[BK AE,Awf];simp;omega];refine Af ?_;refine Aa g ?_;rfl
theorem YC{a b n:Nat}{l:List Pt}(ha:a+n<=b)(hb:b+n<=l.length)(hl:l.length<=1000000000) :
  ∃ r:List Pt,D.ask (.fn 273) [.sl 0 0 l.length 3,iv (a:Int),iv (b:Int),iv (n:Int),GM] [Fo l]=V (.tup [],[.set (Fo r)])
   ∧ r.length=l.length/\r.Perm l/\SwR l r a b n:=by
 obtain⟨r,g,h⟩:=Apr K a b n l _ 0 l rfl (by omega) ha hb hl rfl (Ag2 l a b);refine⟨r,?_,h⟩;refine Aq K Ve (Aua ..) ?_;refine Aa g ?_;rfl
theorem Aph(m:Nat):∀(s i j:Nat) (l:List Pt),i+j=s->0<i->0<j->i<=m->m+j<=l.length->l.length<=1000000000->
  ∃(r:List Pt) (d:Nat),D.ask (.lp 260 0) [.sl 0 0 l.length 3,iv (m:Int),GM,iv (i:Int),iv (j:Int)] [Fo l]=V (.tup [iv 0,.sl 0 0 l.length 3,iv (m:Int),GM,iv (d:Int)],[.set (Fo r)])
   ∧ r.length=l.length/\r.Perm l/\d<=m/\m+d<=l.length/\∀ r2:List Pt,SwR r r2 (m-d) m d->Rot l r2 (m-i) m (m+j):=by
 intro s
 induction s using AwN with
 |_ s ih=>
  intro i j l hs hi hj him hl hn
  by_cases he:i=j
  .subst he
   refine⟨l,i,?_,rfl,List.Perm.refl _,him,hl,λr2 h=>Agz him h⟩;refine Ax K Ry (Xq ..) ?_;exact Aw rfl rfl
  by_cases hlt:j<i
  .obtain⟨r,g,hr,hp,hsw⟩:=YC K (a:=m-i) (b:=m) (n:=j) (l:=l) (by omega) hl hn
   obtain⟨r2,d,g2,hr2,hp2,hd1,hd2,hd3⟩:=ih (i-j+j) (by omega) (i-j) j r rfl (by omega) hj (by omega) (by omega) (by omega);rw[hr]at g2 hr2 hd2;refine⟨r2,d,?_,hr2,hp2.trans hp,hd1,hd2,λr3 h=>Agx him hlt hsw (hd3 r3 h)⟩;refine Ax K Ry (Xq ..) ?_;refine Ap ?_;refine Ao ?_;rw[Di him (by omega),Di (a:=i) (b:=j) (by omega) (by omega)];refine Aa g ?_;simp only[GM,Ae];refine Aa g2 ?_;rfl
  .obtain⟨r,g,hr,hp,hsw⟩:=YC K (a:=m-i) (b:=m+j-i) (n:=i) (l:=l) (by omega) (by omega) hn
   obtain⟨r2,d,g2,hr2,hp2,hd1,hd2,hd3⟩:=ih (i+(j-i)) (by omega) i (j-i) r rfl hi (by omega) him (by omega) (by omega);rw[hr]at g2 hr2 hd2;refine⟨r2,d,?_,hr2,hp2.trans hp,hd1,hd2,λr3 h=>Ab2 him (by omega) hsw (hd3 r3 h)⟩;refine Ax K Ry (Xq ..) ?_;refine Ap ?_;refine Am ?_;rw[Di him (by omega),OJ (a:=m) (b:=j) (by omega),Di (a:=m+j) (b:=i) (by omega) (by omega),Di (a:=j) (b:=i) (by omega) (by omega)];refine Aa g ?_;simp only[GM,Ae];refine Aa g2 ?_;rfl
theorem Agy{a m b:Nat}{l:List Pt}(ha:a<m)(hm:m<b)(hb:b<=l.length)(hl:l.length<=1000000000) :
  ∃ r:List Pt,D.ask (.fn 260) [.sl 0 0 l.length 3,iv (a:Int),iv (m:Int),iv (b:Int),GM] [Fo l]=V (.tup [],[.set (Fo r)])
   ∧ r.length=l.length/\r.Perm l/\Rot l r a m b:=by
 obtain⟨r,d,g,hr,hp,hd1,hd2,hd3⟩:=Aph K m _ (m-a) (b-m) l rfl (by omega) (by omega) (by omega) (by omega) hl;obtain⟨r2,g2,hr2,hp2,hsw⟩:=YC K (a:=m-d) (b:=m) (n:=d) (l:=r) (by omega) (by omega) (by omega);have h:=hd3 r2 hsw;rw[show m-(m-a)=a by omega,show m+(b-m)=b by omega]at h;rw[hr]at g2;refine⟨r2,?_,by omega,hp2.trans hp,h⟩;refine Aq K Ry (At5 ..) ?_;rw[Di (a:=m) (b:=a) (by omega) (by omega),Di (a:=b) (b:=m) (by omega) (by omega)];refine Aa g ?_;simp only[GM,Ae];rw[Di hd1 (by omega)];refine Aa g2 ?_;rfl
theorem Aj3(a m b:Nat)(l:List Pt)(hl:l.length<=1000000000)(ha:a<m)(hb:b<=l.length)(hs:Srt Pt.v l m b):∀(k i j:Nat),j-i=k->m<=i->i<=j->j<=b->(∀ p,m<=p->p<i->kf Pt.v l p<kf Pt.v l a)->(∀ p,j<=p->p<b->kf Pt.v l a<=kf Pt.v l p)->
  ∃ x:Nat,D.ask (.lp 243 0) [.sl 0 0 l.length 3,iv (a:Int),GM,iv (i:Int),iv (j:Int)] [Fo l]=V (.tup [iv 0,.sl 0 0 l.length 3,iv (a:Int),iv (x:Int)],[.set (Fo l)])
   ∧ m<=x/\x<=b/\(∀ p,m<=p->p<x->kf Pt.v l p<kf Pt.v l a)/\(∀ p,x<=p->p<b->kf Pt.v l a<=kf Pt.v l p):=by
 intro k
 induction k using AwN with
 |_ k ih=>
  intro i j hk hmi hij hjb h1 h2
  by_cases he:i<j
  .have hH:(i+j) / 2<l.length:=by omega
   have hA:a<l.length:=by omega
   have kh:kf Pt.v l ((i+j) / 2)=l[(i+j) / 2].v:=GP Pt.v hH;have ka:kf Pt.v l a=l[a].v:=GP Pt.v hA
   by_cases hlt:l[(i+j) / 2].v<l[a].v
   .obtain⟨x,g,hx⟩:=ih (j-((i+j) / 2+1)) (by omega) ((i+j) / 2+1) j rfl (by omega) (by omega) hjb (λp p1 p2=>by
     by_cases hp:p=(i+j) / 2
     .rw[hp,kh,ka];exact hlt
     .have:=hs p ((i+j) / 2) p1 (by omega) (by omega)
      omega) h2
    refine⟨x,?_,hx⟩;refine Ax K De (Xn ..) ?_;refine Ao ?_;refine Am ?_ (by decide);dsimp only;rw[ER (by omega),Bn (by omega)];rw[AA,Be hH];refine Af ?_;refine(BC AE l ((i+j) / 2) hH _).trans ?_;simp only[eP,eN,Ae];rw[AA,Be hA];refine Af ?_;refine(BC AE l a hA _).trans ?_;simp only[eP,eN,Ae];refine Aa (IR (Jl K) l[(i+j) / 2] l[a]) ?_;simp only[Ae];refine Ao ?_ (Gq.2 hlt);refine Aa g ?_;rfl
   .obtain⟨x,g,hx⟩:=ih ((i+j) / 2-i) (by omega) i ((i+j) / 2) rfl hmi (by omega) (by omega) h1 (λp p1 p2=>by
     by_cases hp:p=(i+j) / 2
     .rw[hp];omega
     .have:=hs ((i+j) / 2) p (by omega) (by omega) (by omega)
      omega)
    refine⟨x,?_,hx⟩;refine Ax K De (Xn ..) ?_;refine Ao ?_;refine Am ?_ (by decide);dsimp only;rw[ER (by omega)];rw[AA,Be hH];refine Af ?_;refine(BC AE l ((i+j) / 2) hH _).trans ?_;simp only[eP,eN,Ae];rw[AA,Be hA];refine Af ?_;refine(BC AE l a hA _).trans ?_;simp only[eP,eN,Ae];refine Aa (IR (Jl K) l[(i+j) / 2] l[a]) ?_;simp only[Ae];refine Am ?_ (λh=>hlt (Gq.1 h));refine Aa g ?_;rfl
  .obtain rfl:i=j:=by omega
   refine⟨i,?_,hmi,hjb,h1,h2⟩;refine Ax K De (Xn ..) ?_;exact Am rfl
theorem Aj4(a x:Nat)(l0:List Pt):∀(n k:Nat) (l:List Pt),x-1-k=n->a<=k->k<x->x<=l.length->l.length<=1000000000->l.length=l0.length->Rot l0 l a (a+1) (k+1)->
  ∃ r:List Pt,D.ask (.lp 243 1) [.sl 0 0 l.length 3,iv (x:Int),iv (k:Int)] [Fo l]=V (.tup [iv 2,.sl 0 0 l.length 3],[.set (Fo r)])
   ∧ r.length=l.length/\r.Perm l/\Rot l0 r a (a+1) x:=by
 intro n
 induction n with
 |zero=>
  intro k l hn ha hk hx hl h0 ht;obtain rfl:x=k+1:=by omega
  refine⟨l,?_,rfl,List.Perm.refl _,ht⟩;refine Ax K De (Ad2 ..) ?_;rw[Nh (by omega) (by omega)];exact Am rfl
 |succ n ih=>
  intro k l hn ha hk hx hl h0 ht;have hI:k<l.length:=by omega
  have hJ:k+1<l.length:=by omega
  have hlen:=JM l k (k+1);obtain⟨r,g,hr,hp,ho⟩:=ih (k+1) (DL l k (k+1)) (by omega) (by omega) (by omega) (by omega) (by omega) (by omega) (Api ha (by omega) h0 ht);rw[hlen]at g hr;refine⟨r,?_,hr,hp.trans (Io _ _ _),ho⟩;refine Ax K De (Ad2 ..) ?_;rw[Nh (by omega) (by omega)];refine Ao ?_;rw[Bn (by omega)];rw[AA,Be hJ];refine Af ?_;refine(BC AE l (k+1) hJ _).trans ?_;simp only[eP,eN,Ae];rw[AA,Be hI];refine Af ?_;refine(BC AE l k hI _).trans ?_;simp only[eP,eN,Ae];have s1:=Db AE l k hI l[(k+1)];have s2:=Db AE (l.set k l[(k+1)]) (k+1) (by rw[Awf];exact hJ) l[k];rw[←Ep hI hJ]at s2;simp only[eP,eN]at s1 s2;rw[AA,Be hI];refine Af ?_;rw[show AvL (0+k*3+3) (Av eP l).length=U by rw[BK AE];simp;omega];refine Af ?_;rw[AA,Be hJ];refine Af ?_;rw[s1,s2];rw[show AvL (0+(k+1)*3+3) (Av eP (l.set k l[(k+1)])).length=U by rw[BK AE,Awf];simp;omega];refine Af ?_;refine Aa g ?_;rfl
theorem Aj5(a m:Nat)(l:List Pt)(hl:l.length<=1000000000)(hb:m<l.length)(hs:Srt Pt.v l a m):∀(k i j:Nat),j-i=k->a<=i->i<=j->j<=m->(∀ p,a<=p->p<i->kf Pt.v l p<=kf Pt.v l m)->(∀ p,j<=p->p<m->kf Pt.v l m<kf Pt.v l p)->
  ∃ x:Nat,D.ask (.lp 243 2) [.sl 0 0 l.length 3,iv (m:Int),GM,iv (i:Int),iv (j:Int)] [Fo l]=V (.tup [iv 4,.sl 0 0 l.length 3,iv (m:Int),iv (x:Int)],[.set (Fo l)])
   ∧ a<=x/\x<=m/\(∀ p,a<=p->p<x->kf Pt.v l p<=kf Pt.v l m)/\(∀ p,x<=p->p<m->kf Pt.v l m<kf Pt.v l p):=by
 intro k
 induction k using AwN with
 |_ k ih=>
  intro i j hk hmi hij hjb h1 h2
  by_cases he:i<j
  .have hH:(i+j) / 2<l.length:=by omega
   have kh:kf Pt.v l ((i+j) / 2)=l[(i+j) / 2].v:=GP Pt.v hH;have ka:kf Pt.v l m=l[m].v:=GP Pt.v hb
   by_cases hlt:l[m].v<l[(i+j) / 2].v
   .obtain⟨x,g,hx⟩:=ih ((i+j) / 2-i) (by omega) i ((i+j) / 2) rfl hmi (by omega) (by omega) h1 (λp p1 p2=>by
     by_cases hp:p=(i+j) / 2
     .rw[hp];omega
     .have:=hs ((i+j) / 2) p (by omega) (by omega) (by omega)
      omega)
    refine⟨x,?_,hx⟩;refine Ax K De (Xo ..) ?_;refine Ao ?_;refine Am ?_ (by decide);dsimp only;rw[ER (by omega)];rw[AA,Be hb];refine Af ?_;refine(BC AE l m hb _).trans ?_;simp only[eP,eN,Ae];rw[AA,Be hH];refine Af ?_;refine(BC AE l ((i+j) / 2) hH _).trans ?_;simp only[eP,eN,Ae];refine Aa (IR (Jl K) l[m] l[(i+j) / 2]) ?_;simp only[Ae];refine Ao ?_ (Gq.2 hlt);refine Aa g ?_;rfl
   .obtain⟨x,g,hx⟩:=ih (j-((i+j) / 2+1)) (by omega) ((i+j) / 2+1) j rfl (by omega) (by omega) hjb (λp p1 p2=>by
     by_cases hp:p=(i+j) / 2
     .rw[hp];omega
     .have:=hs p ((i+j) / 2) p1 (by omega) (by omega)
      omega) h2
    refine⟨x,?_,hx⟩;refine Ax K De (Xo ..) ?_;refine Ao ?_;refine Am ?_ (by decide);dsimp only;rw[ER (by omega),Bn (by omega)];rw[AA,Be hb];refine Af ?_;refine(BC AE l m hb _).trans ?_;simp only[eP,eN,Ae];rw[AA,Be hH];refine Af ?_;refine(BC AE l ((i+j) / 2) hH _).trans ?_;simp only[eP,eN,Ae];refine Aa (IR (Jl K) l[m] l[(i+j) / 2]) ?_;simp only[Ae];refine Am ?_ (λh=>hlt (Gq.1 h));refine Aa g ?_;rfl
  .obtain rfl:i=j:=by omega
   refine⟨i,?_,hmi,hjb,h1,h2⟩;refine Ax K De (Xo ..) ?_;exact Am rfl
theorem Aj6(m x:Nat)(l0:List Pt):∀(n k:Nat) (l:List Pt),k-x=n->x<=k->k<=m->m<l.length->l.length<=1000000000->l.length=l0.length->Rot l0 l k m (m+1)->
  ∃ r:List Pt,D.ask (.lp 243 3) [.sl 0 0 l.length 3,iv (x:Int),iv (k:Int)] [Fo l]=V (.tup [iv 6,.sl 0 0 l.length 3],[.set (Fo r)])
   ∧ r.length=l.length/\r.Perm l/\Rot l0 r x m (m+1):=by
 intro n
 induction n with
 |zero=>
  intro k l hn hx hk hm hl h0 ht;obtain rfl:x=k:=by omega
  refine⟨l,?_,rfl,List.Perm.refl _,ht⟩;refine Ax K De (Ad3 ..) ?_;exact Am rfl
 |succ n ih=>
  intro k l hn hx hk hm hl h0 ht;obtain⟨j,rfl⟩:∃ j,k=j+1:=⟨k-1,by omega⟩;have hI:j+1<l.length:=by omega
  have hJ:j<l.length:=by omega
  have hlen:=JM l (j+1) j;obtain⟨r,g,hr,hp,ho⟩:=ih j (DL l (j+1) j) (by omega) (by omega) (by omega) (by omega) (by omega) (by omega) (Agw (by omega) (by omega) h0 ht);rw[hlen]at g hr;refine⟨r,?_,hr,hp.trans (Io _ _ _),ho⟩;refine Ax K De (Ad3 ..) ?_;refine Ao ?_;rw[Wm (by omega)];rw[AA,Be hJ];refine Af ?_;refine(BC AE l j hJ _).trans ?_;simp only[eP,eN,Ae];rw[AA,Be hI];refine Af ?_;refine(BC AE l (j+1) hI _).trans ?_;simp only[eP,eN,Ae];have s1:=Db AE l (j+1) hI l[j];have s2:=Db AE (l.set (j+1) l[j]) j (by rw[Awf];exact hJ) l[(j+1)];rw[←Ep hI hJ]at s2;simp only[eP,eN]at s1 s2;rw[AA,Be hI];refine Af ?_;rw[show AvL (0+(j+1)*3+3) (Av eP l).length=U by rw[BK AE];simp;omega];refine Af ?_;rw[AA,Be hJ];refine Af ?_;rw[s1,s2];rw[show AvL (0+j*3+3) (Av eP (l.set (j+1) l[j])).length=U by rw[BK AE,Awf];simp;omega];refine Af ?_;refine Aa g ?_;rfl
theorem Aam(a m b mid x y:Nat)(l:List Pt)(hl:l.length<=1000000000)(hb:b<=l.length)(hs1:Srt Pt.v l a m)(hs2:Srt Pt.v l m b)(hx:a<=x)(hy:y<=m)(hn:mid+m<=x+b)(hm:y<=mid)(hmid:mid<=b)(hmb:m<=b):∀(k s r:Nat),r-s=k->Bs Pt.v l (mid+m) x y s r->
  ∃ z:Nat,D.ask (.lp 243 4) [.sl 0 0 l.length 3,iv (a:Int),iv (m:Int),iv (b:Int),GM,iv (mid:Int),iv ((mid+m:Nat):Int),iv (s:Int),iv (r:Int),iv ((mid+m-1:Nat):Int)] [Fo l]=V (.tup [iv 8,.sl 0 0 l.length 3,iv (a:Int),iv (m:Int),iv (b:Int),GM,iv (mid:Int),iv ((mid+m:Nat):Int),iv (z:Int)],[.set (Fo l)])
   ∧ Bs Pt.v l (mid+m) x y z z:=by
 intro k
 induction k using AwN with
 |_ k ih=>
  intro s r hk B;have:=B.xs;have:=B.sr;have:=B.ry
  by_cases he:s<r
  .have hH:(s+r) / 2<l.length:=by omega
   have hP:mid+m-1-(s+r) / 2<l.length:=by omega
   have kh:kf Pt.v l ((s+r) / 2)=l[(s+r) / 2].v:=GP Pt.v hH;have kp:kf Pt.v l (mid+m-1-(s+r) / 2)=l[mid+m-1-(s+r) / 2].v:=GP Pt.v hP
   by_cases hlt:l[mid+m-1-(s+r) / 2].v<l[(s+r) / 2].v
   .obtain⟨z,g,hz⟩:=ih ((s+r) / 2-s) (by omega) s ((s+r) / 2) rfl (B.dn Pt.v hs1 hs2 hx hy (by omega) (by omega) (by omega) (by omega) (by omega))
    refine⟨z,?_,hz⟩;refine Ax K De (Xp ..) ?_;refine Ao ?_;refine Am ?_ (by decide);dsimp only;rw[ER (by omega),Di (a:=mid+m-1) (b:=(s+r) / 2) (by omega) (by omega)];rw[AA,Be hP];refine Af ?_;refine(BC AE l (mid+m-1-(s+r) / 2) hP _).trans ?_;simp only[eP,eN,Ae];rw[AA,Be hH];refine Af ?_;refine(BC AE l ((s+r) / 2) hH _).trans ?_;simp only[eP,eN,Ae];refine Aa (IR (Jl K) l[mid+m-1-(s+r) / 2] l[(s+r) / 2]) ?_;simp only[Ae];refine Ao ?_ (Gq.2 hlt);refine Aa g ?_;rfl
   .obtain⟨z,g,hz⟩:=ih (r-((s+r) / 2+1)) (by omega) ((s+r) / 2+1) r rfl (B.up Pt.v hs1 hs2 hx hy (by omega) (by omega) (by omega) (by omega) (by omega))
    refine⟨z,?_,hz⟩;refine Ax K De (Xp ..) ?_;refine Ao ?_;refine Am ?_ (by decide);dsimp only;rw[ER (by omega),Di (a:=mid+m-1) (b:=(s+r) / 2) (by omega) (by omega),Bn (by omega)];rw[AA,Be hP];refine Af ?_;refine(BC AE l (mid+m-1-(s+r) / 2) hP _).trans ?_;simp only[eP,eN,Ae];rw[AA,Be hH];refine Af ?_;refine(BC AE l ((s+r) / 2) hH _).trans ?_;simp only[eP,eN,Ae];refine Aa (IR (Jl K) l[mid+m-1-(s+r) / 2] l[(s+r) / 2]) ?_;simp only[Ae];refine Am ?_ (λh=>hlt (Gq.1 h));refine Aa g ?_;rfl
  .obtain rfl:s=r:=by omega
   refine⟨s,?_,B⟩;refine Ax K De (Xp ..) ?_;exact Am rfl
end
def tl2(D:Orc)(n:Nat)(mid e b:Int)(cs:Ab):KR:=
 br (Ai.lt mid e)
  (br (Ai.lt e b)
   (AJ D (.fn 243) [.sl 0 0 n 3,iv mid,iv e,iv b,GM] [Ψ cs U U] λr o=>
   Mt r λcs4=>
   EB cs4<|
   Fj o λc l=>
   GD U U c λcs5=>
   CB l<|
   V ((γ [],[AvH (Ψ cs5 U U)])))
   (V ((γ [],[AvH (Ψ cs U U)]))))
  (V ((γ [],[AvH (Ψ cs U U)])))
def tl1(D:Orc)(n:Nat)(a s mid e b:Int)(cs:Ab):KR:=
 br (Ai.lt a s)
  (br (Ai.lt s mid)
   (AJ D (.fn 243) [.sl 0 0 n 3,iv a,iv s,iv mid,GM] [Ψ cs U U] λr o=>
   Mt r λcs4=>
   EB cs4<|
   Fj o λc l=>
   GD U U c λcs5=>
   CB l<|
   tl2 D n mid e b cs5)
   (tl2 D n mid e b cs))
  (tl2 D n mid e b cs)
section
variable {D:Orc}
def Oi(D:Orc)(N:Nat):Prop:=∀(l:List Pt) (a m b:Nat),b-a<N->a<m->m<b->b<=l.length->l.length<=1000000000->Srt Pt.v l a m->Srt Pt.v l m b->
 ∃ r:List Pt,D.ask (.fn 243) [.sl 0 0 l.length 3,iv (a:Int),iv (m:Int),iv (b:Int),GM] [Fo l]=V (.tup [],[.set (Fo r)])
  ∧ r.length=l.length/\r.Perm l/\Srt Pt.v r a b/\Same0 l r a b
theorem Apv{N:Nat}(ih:Oi D N){l:List Pt}{mid e b:Nat}(hN:b-mid<N)(h1:mid<=e)(h2:e<=b)(hb:b<=l.length)(hl:l.length<=1000000000)(s1:Srt Pt.v l mid e)(s2:Srt Pt.v l e b) :
  ∃ r:List Pt,tl2 D l.length (mid:Int) (e:Int) (b:Int) (Av eP l)=V (.tup [],[.set (Fo r)])/\r.length=l.length/\r.Perm l/\Srt Pt.v r mid b/\Same0 l r mid b:=by
 by_cases q1:mid<e
 .by_cases q2:e<b
  .obtain⟨r,g,hr,hp,ho,hs⟩:=ih l mid e b hN q1 q2 hb hl s1 s2
   refine⟨r,?_,hr,hp,ho,hs⟩;unfold tl2;refine Ao ?_;refine Ao ?_;refine Aa g ?_;rfl
  .refine⟨l,?_,rfl,List.Perm.refl _,Mk Pt.v (.inr (by omega)) s1 s2,DH _ _ _⟩
   unfold tl2;refine Ao ?_;exact Am rfl
 .refine⟨l,?_,rfl,List.Perm.refl _,Mk Pt.v (.inl (by omega)) s1 s2,DH _ _ _⟩
  unfold tl2;exact Am rfl
theorem T6{N:Nat}(ih:Oi D N){l:List Pt}{a s mid e b:Nat}(hN:mid-a<N)(hN2:b-mid<N)(h1:a<=s)(h2:s<=mid)(h3:mid<=e)(h4:e<=b)(hb:b<=l.length)(hl:l.length<=1000000000)(s1:Srt Pt.v l a s)(s2:Srt Pt.v l s mid)(s3:Srt Pt.v l mid e)(s4:Srt Pt.v l e b)(lo:Low Pt.v l a mid b) :
  ∃ r:List Pt,tl1 D l.length (a:Int) (s:Int) (mid:Int) (e:Int) (b:Int) (Av eP l)=V (.tup [],[.set (Fo r)])/\r.length=l.length/\r.Perm l/\Srt Pt.v r a b/\Same0 l r a b:=by
 have fin:∀{l1:List Pt},l1.length=l.length->l1.Perm l->Srt Pt.v l1 a mid->Same0 l l1 a mid->∃ r:List Pt,tl2 D l.length (mid:Int) (e:Int) (b:Int) (Av eP l1)=V (.tup [],[.set (Fo r)])/\r.length=l.length/\r.Perm l/\Srt Pt.v r a b/\Same0 l r a b:=by
  intro l1 k1 k2 k3 k4;have lo1:=Afw Pt.v lo k2 k4 (by omega);obtain⟨r,g,hr,hp,ho,hs⟩:=Apv ih (l:=l1) (mid:=mid) (e:=e) (b:=b) hN2 h3 h4 (by omega) (by omega) (s3.same' Pt.v k4 (.inr (η _))) (s4.same' Pt.v k4 (.inr h3));rw[k1]at g hr;exact⟨r,g,hr,hp.trans k2,AjU Pt.v (k3.same' Pt.v hs (.inl (η _))) ho (Abr Pt.v lo1 hp hs (by omega)),(k4.wide (η _) (by omega)).trans (hs.wide (by omega) (η _))⟩
 by_cases q1:a<s
 .by_cases q2:s<mid
  .obtain⟨r,g,hr,hp,ho,hs⟩:=ih l a s mid hN q1 q2 (by omega) hl s1 s2
   obtain⟨r2,g2,h⟩:=fin hr hp ho hs;refine⟨r2,?_,h⟩;unfold tl1;refine Ao ?_;refine Ao ?_;refine Aa g ?_;exact g2
  .obtain⟨r2,g2,h⟩:=fin (l1:=l) rfl (List.Perm.refl _) (Mk Pt.v (.inr (by omega)) s1 s2) (DH _ _ _)
   refine⟨r2,?_,h⟩;unfold tl1;refine Ao ?_;exact(W3 (by omega)).trans g2
 .obtain⟨r2,g2,h⟩:=fin (l1:=l) rfl (List.Perm.refl _) (Mk Pt.v (.inl (by omega)) s1 s2) (DH _ _ _)
  refine⟨r2,?_,h⟩;unfold tl1;exact(W3 (by omega)).trans g2
variable (K:Knows Ak Fc D)
include K
theorem Aj2:∀ N,Oi D N:=by
 intro N
 induction N with
 |zero=>intro l a m b h;omega
 |succ N ih0=>
  intro l a m b hN ha hm hb hl hs1 hs2
  by_cases hA:m-a=1
  .obtain rfl:m=a+1:=by omega
   obtain⟨x,g1,x1,x2,x3,x4⟩:=Aj3 K a (a+1) b l hl (by omega) hb hs2 _ (a+1) b rfl (η _) (by omega) (η _) (λp p1 p2=>by omega) (λp p1 p2=>by omega);obtain⟨r,g2,r1,r2,r3⟩:=Aj4 K a x l _ a l rfl (η _) (by omega) (by omega) hl rfl (Md (.inr rfl) (by omega) (by omega));refine⟨r,?_,r1,r2,VA Pt.v x1 x2 hs2 x3 x4 r3,λp hp=>r3.out p (by omega)⟩;refine Aq K De (AaY ..) ?_;rw[Di (a:=a+1) (b:=a) (by omega) (by omega)];refine Aw ?_;refine Aa g1 ?_;simp only[GM,Ae];refine Aa g2 ?_;rfl
  by_cases hB:b-m=1
  .obtain rfl:b=m+1:=by omega
   obtain⟨x,g1,x1,x2,x3,x4⟩:=Aj5 K a m l hl (by omega) hs1 _ a m rfl (η _) (by omega) (η _) (λp p1 p2=>by omega) (λp p1 p2=>by omega);obtain⟨r,g2,r1,r2,r3⟩:=Aj6 K m x l _ m l rfl x2 (η _) (by omega) hl rfl (Md (.inl rfl) (by omega) (by omega));refine⟨r,?_,r1,r2,X3 Pt.v x1 x2 hs1 x3 x4 r3,λp hp=>r3.out p (by omega)⟩;refine Aq K De (AaY ..) ?_;rw[Di (a:=m) (b:=a) (by omega) (by omega)];refine Ap ?_;rw[Di (a:=m+1) (b:=m) (by omega) (by omega)];refine Aw ?_;refine Aa g1 ?_;simp only[GM,Ae];refine Af ?_;refine Aa g2 ?_;rfl
  have ih:Oi D N:=ih0
  by_cases hC:(a+b) / 2<m
  .obtain⟨z,g4,B⟩:=Aam K a m b ((a+b) / 2) ((a+b) / 2+m-b) ((a+b) / 2) l hl hb hs1 hs2 (by omega) (by omega) (by omega) (by omega) (by omega) (by omega) _ ((a+b) / 2+m-b) ((a+b) / 2) rfl ⟨η _,by omega,η _,λc c1 c2=>by omega,λc c1 c2=>by omega⟩
   have C:=B.cut Pt.v hs1 hs2 (by omega) (by omega) (by omega) (by omega) (.inr (by omega)) (.inr rfl);have:=C.asl;have:=C.sm;have:=C.me;have:=C.eb;have:=C.mid;have:=B.ry;have:=B.xs;have e0:Ai.sub .i64 (((a+b) / 2+m:Nat):Int) (z:Int)=(((a+b) / 2+m-z:Nat):Int):=Di (by omega) (by omega)
   by_cases w1:z<m
   .by_cases w2:m<(a+b) / 2+m-z
    .obtain⟨l1,g5,k1,k2,k3⟩:=Agy K w1 w2 (by omega) hl
     obtain⟨f1,f2,f3,f4,f5⟩:=JA Pt.v C hs1 hs2 k3;obtain⟨r,g6,r1,r2,r3,r4⟩:=T6 ih (l:=l1) (a:=a) (s:=z) (mid:=(a+b) / 2) (e:=(a+b) / 2+m-z) (b:=b) (by omega) (by omega) (by omega) (by omega) (by omega) (by omega) (by omega) (by omega) f1 f2 f3 f4 f5;have sm:Same0 l l1 a b:=λp hp=>k3.out p (by omega)
     rw[k1]at g6 r1;refine⟨r,?_,r1,r2.trans k2,r3,sm.trans r4⟩;refine Aq K De (AaY ..) ?_;rw[Di (a:=m) (b:=a) (by omega) (by omega)];refine Ap ?_;rw[Di (a:=b) (b:=m) (by omega) (by omega)];refine Ap ?_;refine Am ?_ (by decide);dsimp only;rw[ER (a:=a) (b:=b) (by omega)];rw[OJ (a:=(a+b) / 2) (b:=m) (by omega),Nh (a:=(a+b) / 2+m) (by omega) (by omega)];rw[Di (a:=(a+b) / 2+m) (b:=b) (by omega) (by omega)];refine Ao ?_;refine Aa g4 ?_;simp only[GM,Ae];refine Af ?_;rw[e0];refine Ao ?_;refine Ao ?_;refine Aa g5 ?_;exact g6
    .obtain⟨f1,f2,f3,f4,f5⟩:=JA Pt.v C hs1 hs2 (Md (l:=l) (.inr (by omega)) (by omega) (by omega))
     obtain⟨r,g6,r1,r2,r3,r4⟩:=T6 ih (l:=l) (a:=a) (s:=z) (mid:=(a+b) / 2) (e:=(a+b) / 2+m-z) (b:=b) (by omega) (by omega) (by omega) (by omega) (by omega) (by omega) (by omega) (by omega) f1 f2 f3 f4 f5;refine⟨r,?_,r1,r2,r3,r4⟩;refine Aq K De (AaY ..) ?_;rw[Di (a:=m) (b:=a) (by omega) (by omega)];refine Ap ?_;rw[Di (a:=b) (b:=m) (by omega) (by omega)];refine Ap ?_;refine Am ?_ (by decide);dsimp only;rw[ER (a:=a) (b:=b) (by omega)];rw[OJ (a:=(a+b) / 2) (b:=m) (by omega),Nh (a:=(a+b) / 2+m) (by omega) (by omega)];rw[Di (a:=(a+b) / 2+m) (b:=b) (by omega) (by omega)];refine Ao ?_;refine Aa g4 ?_;simp only[GM,Ae];refine Af ?_;rw[e0];refine Ao ?_;refine Am ?_;exact g6
   .omega
  .obtain⟨z,g4,B⟩:=Aam K a m b ((a+b) / 2) a m l hl hb hs1 hs2 (by omega) (by omega) (by omega) (by omega) (by omega) (by omega) _ a m rfl ⟨η _,by omega,η _,λc c1 c2=>by omega,λc c1 c2=>by omega⟩
   have C:=B.cut Pt.v hs1 hs2 (by omega) (by omega) (by omega) (by omega) (.inl rfl) (.inl rfl);have:=C.asl;have:=C.sm;have:=C.me;have:=C.eb;have:=C.mid;have:=B.ry;have:=B.xs;have e0:Ai.sub .i64 (((a+b) / 2+m:Nat):Int) (z:Int)=(((a+b) / 2+m-z:Nat):Int):=Di (by omega) (by omega)
   by_cases w1:z<m
   .by_cases w2:m<(a+b) / 2+m-z
    .obtain⟨l1,g5,k1,k2,k3⟩:=Agy K w1 w2 (by omega) hl
     obtain⟨f1,f2,f3,f4,f5⟩:=JA Pt.v C hs1 hs2 k3;obtain⟨r,g6,r1,r2,r3,r4⟩:=T6 ih (l:=l1) (a:=a) (s:=z) (mid:=(a+b) / 2) (e:=(a+b) / 2+m-z) (b:=b) (by omega) (by omega) (by omega) (by omega) (by omega) (by omega) (by omega) (by omega) f1 f2 f3 f4 f5;have sm:Same0 l l1 a b:=λp hp=>k3.out p (by omega)
     rw[k1]at g6 r1;refine⟨r,?_,r1,r2.trans k2,r3,sm.trans r4⟩;refine Aq K De (AaY ..) ?_;rw[Di (a:=m) (b:=a) (by omega) (by omega)];refine Ap ?_;rw[Di (a:=b) (b:=m) (by omega) (by omega)];refine Ap ?_;refine Am ?_ (by decide);dsimp only;rw[ER (a:=a) (b:=b) (by omega)];rw[OJ (a:=(a+b) / 2) (b:=m) (by omega),Nh (a:=(a+b) / 2+m) (by omega) (by omega)];refine Am ?_;refine Aa g4 ?_;simp only[GM,Ae];refine Af ?_;rw[e0];refine Ao ?_;refine Ao ?_;refine Aa g5 ?_;exact g6
    .omega
   .obtain⟨f1,f2,f3,f4,f5⟩:=JA Pt.v C hs1 hs2 (Md (l:=l) (.inl (by omega)) (by omega) (by omega))
    obtain⟨r,g6,r1,r2,r3,r4⟩:=T6 ih (l:=l) (a:=a) (s:=z) (mid:=(a+b) / 2) (e:=(a+b) / 2+m-z) (b:=b) (by omega) (by omega) (by omega) (by omega) (by omega) (by omega) (by omega) (by omega) f1 f2 f3 f4 f5;refine⟨r,?_,r1,r2,r3,r4⟩;refine Aq K De (AaY ..) ?_;rw[Di (a:=m) (b:=a) (by omega) (by omega)];refine Ap ?_;rw[Di (a:=b) (b:=m) (by omega) (by omega)];refine Ap ?_;refine Am ?_ (by decide);dsimp only;rw[ER (a:=a) (b:=b) (by omega)];rw[OJ (a:=(a+b) / 2) (b:=m) (by omega),Nh (a:=(a+b) / 2+m) (by omega) (by omega)];refine Am ?_;refine Aa g4 ?_;simp only[GM,Ae];refine Af ?_;rw[e0];refine Am ?_;exact g6
theorem Abw:OI D:=λl a m b h1 h2 h3 h4 h5 h6=>Aj2 K (b-a+1) l a m b (by omega) h1 h2 h3 h4 h5 h6
theorem AgY{l:List Pt}(hl:l.length<=1000000000) :
  ∃ r:List Pt,D.ask (.fn 152) [.sl 0 0 l.length 3,GM] [Fo l]=V (.tup [],[.set (Fo r)])
   ∧ r.length=l.length/\r.Perm l/\Srt Pt.v r 0 r.length:=AjT K (Abw K) hl
end
def fnZ:AV:=.fn (.func 157) [] []
section
variable {D:Orc} (K:Knows Ak Qt D)
include K
theorem Aog(P:Pt->Bool)(l:List Pt)(hl:l.length<=1000000000)(hP:∀ p∈l,D.ask (.fn 157) [.agg (eP p)] []=V (bv (P p),[])):∀(m i:Nat),l.length-i=m->i<=l.length->
  D.ask (.lp 208 0) [.sl 0 0 l.length 3,fnZ,iv (l.length:Int),iv (i:Int)] [Ψ (Av eP l) U U]
   = if i+(l.drop i).findIdx P<l.length then V (.tup [bv U,.sl 0 0 l.length 3,iv ((i+(l.drop i).findIdx P:Nat):Int)],[.set (Ψ (Av eP l) U U)]) else V (.tup [iv 0,.sl 0 0 l.length 3],[.set (Ψ (Av eP l) U U)]):=by
 intro m
 induction m with
 |zero=>
  intro i hm hi;rw[Ad (by omega)];refine Ax K Pj (SZ ..) ?_;exact Am rfl
 |succ m ih=>
  intro i hm hi;have h1:i<l.length:=by omega
  have g:=hP l[i] (AvN h1);have ih':=ih (i+1) (by omega) (by omega);rw[ω h1,Ayy]
  cases hp:P l[i]with
  |true=>
   rw[hp]at g;rw[Ac (by simpa using h1)];refine Ax K Pj (SZ ..) ?_;refine Ao ?_;rw[AA,Be h1];refine Af ?_;refine(BC AE l i h1 _).trans ?_;simp only[eP,eN,Ae];refine Aa g ?_;simp only[Ae];rfl
  |false=>
   rw[hp]at g;rw[show (bif Θ then 0 else(l.drop (i+1)).findIdx P+1)=(l.drop (i+1)).findIdx P+1 from rfl,show i+((l.drop (i+1)).findIdx P+1)=i+1+(l.drop (i+1)).findIdx P by omega]
   by_cases h:i+1+(l.drop (i+1)).findIdx P<l.length
   .rw[Ac h]at ih' ⊢
    refine Ax K Pj (SZ ..) ?_;refine Ao ?_;rw[AA,Be h1];refine Af ?_;refine(BC AE l i h1 _).trans ?_;simp only[eP,eN,Ae];refine Aa g ?_;simp only[Ae];rw[Bn (by omega)];refine Aa ih' ?_;rfl
   .rw[Ad h]at ih' ⊢
    refine Ax K Pj (SZ ..) ?_;refine Ao ?_;rw[AA,Be h1];refine Af ?_;refine(BC AE l i h1 _).trans ?_;simp only[eP,eN,Ae];refine Aa g ?_;simp only[Ae];rw[Bn (by omega)];refine Aa ih' ?_;rfl
theorem Aoh(P:Pt->Bool)(l:List Pt)(hl:l.length<=1000000000)(hP:∀ p∈l,D.ask (.fn 157) [.agg (eP p)] []=V (bv (P p),[])) :
  D.ask (.fn 208) [.sl 0 0 l.length 3,fnZ] [Ψ (Av eP l) U U]
   = V (iv (if l.findIdx P<l.length then(l.findIdx P:Int) else -1),[.set (Ψ (Av eP l) U U)]):=by
 have g:=Aog K P l hl hP _ 0 rfl (by omega);rw[κ,AvW]at g;refine Aq K Pj (AtC ..) ?_
 by_cases h:l.findIdx P<l.length
 .rw[Ac h]at g ⊢
  refine Aa g ?_;rfl
 .rw[Ad h]at g ⊢
  refine Aa g ?_;rfl
theorem AnW(P:Pt->Bool)(Q:Pt->Prop)(hP:∀ p,Q p->D.ask (.fn 157) [.agg (eP p)] []=V (bv (P p),[])):∀(m j i:Nat) (l:List Pt),l.length-j=m->i<=j->j<=l.length->l.length<=1000000000->(∀ p∈l.drop j,Q p)->
  ∃(r:List Pt) (c:Nat),D.ask (.lp 156 0) [.sl 0 0 l.length 3,fnZ,iv (i:Int),iv (j:Int)] [Ψ (Av eP l) U U]
   = V (.tup [iv 0,.sl 0 0 l.length 3,iv (c:Int)],[.set (Ψ (Av eP r) U U)])
   ∧ r.length=l.length/\c<=l.length/\r.take c=l.take i++(l.drop j).filter (λp=>!P p):=by
 intro m
 induction m with
 |zero=>
  intro j i l hm hi hj hl hq;refine⟨l,i,?_,rfl,by omega,?_⟩
  .refine Ax K Pf (Xj ..) ?_
   exact Am rfl
  .rw[ο (by omega),List.filter_nil,Awc]
 |succ m ih=>
  intro j i l hm hi hj hl hq;have h1:j<l.length:=by omega
  have h0:i<l.length:=by omega
  have ed:=ω h1;have g:=hP l[j] (hq _ (by rw[ed];exact AvX ..));rw[ed,AyE]
  cases hp:P l[j]with
  |true=>
   rw[hp]at g;obtain⟨r,c,g2,hr,hc,he⟩:=ih (j+1) i l (by omega) (by omega) (by omega) hl (λp h=>hq p (by rw[ed];exact AvZ _ h));refine⟨r,c,?_,hr,hc,he⟩;refine Ax K Pf (Xj ..) ?_;refine Ao ?_;rw[AA,Be h1];refine Af ?_;refine(BC AE l j h1 _).trans ?_;simp only[eP,eN,Ae];refine Aa g ?_;simp only[Ae];rw[Bn (by omega)];refine Aa g2 ?_;rfl
  |false=>
   rw[hp]at g;have hd:(l.set i l[j]).drop (j+1)=l.drop (j+1):=List.drop_set_of_lt (by omega);obtain⟨r,c,g2,hr,hc,he⟩:=ih (j+1) (i+1) (l.set i l[j]) (by rw[Awf];omega) (by omega) (by rw[Awf];omega) (by rw[Awf];exact hl) (λp h=>hq p (by rw[ed];rw[hd]at h;exact AvZ _ h));rw[Awf]at g2 hr hc;have s1:=Db AE l i h0 l[j];simp only[eP,eN]at s1;refine⟨r,c,?_,hr,hc,?_⟩
   .skip
    refine Ax K Pf (Xj ..) ?_;refine Ao ?_;rw[AA,Be h1];refine Af ?_;refine(BC AE l j h1 _).trans ?_;simp only[eP,eN,Ae];refine Aa g ?_;simp only[Ae];rw[AA,Be h0];refine Af ?_;rw[show AvL (0+i*3+3) (Av eP l).length=U by rw[BK AE];simp;omega];refine Af ?_;rw[s1,Bn (by omega),Bn (by omega)];refine Aa g2 ?_;rfl
   .rw[he,hd,List.take_succ_eq_append_getElem (by rw[Awf];exact h0),List.getElem_set_self,List.take_set_of_le (η _),AvO]
    rfl
omit K in
theorem O9(P:Pt->Bool):∀ l:List Pt,l.findIdx P<l.length->l.take (l.findIdx P)++(l.drop (l.findIdx P+1)).filter (λp=>!P p)=l.filter (λp=>!P p)
 |[],h=>by simp at h
 |x::r,h=>by
  rw[Ayy]at h ⊢
  cases hp:P x with
  |true=>simp[hp]
  |false=>
   rw[hp]at h;have:=O9 P r (by simpa using h);simp only[cond_false,List.take_succ_cons,List.drop_succ_cons,AyE,hp,AyM,if_true,AwP];rw[this]
omit K in
theorem UE(P:Pt->Bool)(l:List Pt)(h:¬ l.findIdx P<l.length):l.filter (λp=>!P p)=l:=by
 rw[List.filter_eq_self];intro p hp
 cases e:P p with
 |false=>rfl
 |true=>exact absurd (List.findIdx_lt_length_of_exists ⟨p,hp,e⟩) h
omit K in
theorem Qf:∀(l:List Pt) (i:Nat),i<=l.length->(Av eP l).take (i*3)=Av eP (l.take i)
 |[],i,_=>by simp[Av]
 |y::r,0,_=>by simp[Av]
 |y::r,i+1,h=>by
  rw[show (i+1)*3=3+i*3 by omega]
  show (eP y++Av eP r).take (3+i*3)=eP y++Av eP (r.take i)
  rw[AyG,AwJ (by rw[AE];omega),AE,show 3+i*3-3=i*3 by omega,Qf r i (by simpa using h)]
theorem AnX(P:Pt->Bool)(l:List Pt)(hl:l.length<=1000000000)(hP:∀ p∈l,D.ask (.fn 157) [.agg (eP p)] []=V (bv (P p),[])) :
  ∃ cells:Ab,D.ask (.fn 156) [.sl 0 0 l.length 3,fnZ] [Ψ (Av eP l) U U]
   = V (.sl 0 0 (l.filter λp=>!P p).length 3,[.set (Ψ cells U U)])
   ∧ cells.take ((l.filter λp=>!P p).length*3)=Av eP (l.filter λp=>!P p)/\(l.filter λp=>!P p).length*3<=cells.length:=by
 have g:=Aoh K P l hl hP
 by_cases h:l.findIdx P<l.length
 .rw[Ac h]at g
  obtain⟨r,c,g2,hr,hc,he⟩:=AnW K P (λp=>p∈l) hP _ (l.findIdx P+1) (l.findIdx P) l rfl (by omega) (by omega) hl (λp hp=>List.mem_of_mem_drop hp);rw[O9 P l h]at he;have hk:(l.filter λp=>!P p).length=c:=by
   rw[←he,Av6];omega
  rw[hk,←he];refine⟨Bv (Av eP r) (0+c*3) (Cr [iv 0,bv Θ,.v (.slice none 0 0)] ((l.length-c)*3)),?_,?_,?_⟩
  .refine Aq K Pf (Ap8 ..) ?_
   refine Aa g ?_;simp only[Ae];refine Ap ?_;rw[Bn (by omega)];refine Aa g2 ?_;simp only[Ae];rw[AA,show J1 c l.length l.length=U by unfold J1;rw[Awz hc,Awz (η _)]];refine Af ?_;rw[show AvL (0+c*3+(l.length-c)*3) (Av eP r).length=U by rw[BK AE];simp;omega];refine Af ?_;rw[AA,show J1 0 c l.length=U by unfold J1;rw[Awz (Awh _),Awz hc]];rfl
  .unfold Bv
   have hlen:((Av eP r).take (0+c*3)).length=c*3:=by
    rw[Av6,BK AE];omega
   rw[AvO,List.take_left' hlen,AvW,Qf r c (by omega)]
  .unfold Bv
   rw[ζ,ζ,Av6,BK AE];omega
 .rw[Ad h]at g
  rw[UE P l h];refine⟨Av eP l,?_,A0 AE l rfl,by rw[BK AE];exact η _⟩;refine Aq K Pf (Ap8 ..) ?_;refine Aa g ?_;simp only[Ae];exact Aw rfl rfl
end
structure PartF (D:Orc):Prop where
 clone:∀ l:List Pt,l.length<=1000000000->D.ask (.fn 151) [.ls (l.map eP)] []=V (.sl 0 0 l.length 3,[.set (Fo l)])
 grow:∀ n:Nat,n<=1000000000->D.ask (.fn 263) [.v (.slice none 0 0),iv (n:Int)] []=V (.sl 0 0 0 3,[.set (Fo [])])
structure SrtF (D:Orc) (M:Nat):Prop where
 le:M<=1000000
 cmpI:∀ x y:Int,D.ask (.fn 154) [iv x,iv y] []=V (iv (Gi x y),[])
 sort:∀ l:List Pt,l.length<=M->∃ r:List Pt,D.ask (.fn 152) [.sl 0 0 l.length 3,GM] [Fo l]=V (.tup [],[.set (Fo r)])/\r.length=l.length/\r.Perm l/\Srt Pt.v r 0 r.length
 del:∀(P:Pt->Bool) (l:List Pt) (hl:l.length<=1000000000) (hP:∀ p∈l,D.ask (.fn 157) [.agg (eP p)] []=V (bv (P p),[])),∃ cells:Ab,D.ask (.fn 156) [.sl 0 0 l.length 3,fnZ] [Ψ (Av eP l) U U]
   = V (.sl 0 0 (l.filter λp=>!P p).length 3,[.set (Ψ cells U U)])
   ∧ cells.take ((l.filter λp=>!P p).length*3)=Av eP (l.filter λp=>!P p)/\(l.filter λp=>!P p).length*3<=cells.length
 isz:ZF D->∀ p:Pt,Lz 1000000000 p.z->D.ask (.fn 157) [.agg (eP p)] []=V (bv (decide (zv p.z=0)),[])
theorem SrtF.mono{D:Orc}{M N:Nat}(S:SrtF D M)(h:N<=M):SrtF D N:=⟨Awe h S.le,S.cmpI,λl hl=>S.sort l (Awe hl h),S.del,S.isz⟩
section
variable (o:List Pt) (x:Pt)
theorem ArX(k:Ab->KR):Gf (Av eP (o++[x])) (0+o.length*3+0) 1 k=k [iv x.v]:=by
 have hl:=BK AE o;rw[←AW];unfold Gf;rw[show AvL (0+o.length*3+0+1) (Av eP o++eP x).length=U by rw[ζ,hl,AE];simp<;>omega]
 show k (((Av eP o++eP x).drop (0+o.length*3+0)).take 1)=_
 rw[List.drop_left' (by omega)];rfl
theorem AuO(k:Ab->KR):Gf (Av eP (o++[x])) (0+o.length*3+1) 2 k=k [bv x.z.neg,eN x.z.abs]:=by
 have hl:=BK AE o;rw[←AW];unfold Gf;rw[show AvL (0+o.length*3+1+2) (Av eP o++eP x).length=U by rw[ζ,hl,AE];simp]
 show k (((Av eP o++eP x).drop (0+o.length*3+1)).take 2)=_
 rw[List.drop_append,Ayi (by omega),show 0+o.length*3+1-(Av eP o).length=1 by omega];rfl
theorem AuR(z:Zi):Bv (Av eP (o++[x])) (0+o.length*3+1) [bv z.neg,eN z.abs]=Av eP (o++[⟨x.v,z⟩]):=by
 have hl:=BK AE o;rw[←AW,←AW];unfold Bv;rw[AyG,AwJ (by omega),show 0+o.length*3+1-(Av eP o).length=1 by omega,Ayi (by rw[ζ,AE,hl];simp),Awc,AvO];rfl
end
section
variable {D:Orc} (Kt:Knows Ak J7 D) (K:Knows Ak Qt D) (Z:ZF D) (C:PartF D)
include Z
include Kt in
theorem HH{z:Zi}(hz:Lz 1000000000 z):D.ask (.fn 155) [.agg (eZ z)] []=V (.agg (eZ (A3 (zv z))),[]):=by
 refine Aq Kt Alg (As7 ..) ?_;refine Aa (Z.frm z hz) ?_;rfl
include K in
theorem Abl{p:Pt}(hz:Lz 1000000000 p.z):D.ask (.fn 157) [.agg (eP p)] []=V (bv (decide (zv p.z=0)),[]):=by
 have g:=Z.sign p.z hz;refine Aq K Alh (As8 ..) ?_;refine Aa g ?_;simp only[Ae]
 by_cases h:zv p.z=0
 .rw[Ba h,h]
  exact ME rfl
 .rw[Bu h]
  refine MD ?_;unfold Ds;split
  .omega
  .split
   .omega
   .omega
include Kt in
theorem Af7{k:Nat}(ps:List Pt)(hl:ps.length<=1000000)(hk:k+ps.length<=900000000)(hz:∀ p∈ps,Lz k p.z)(r0:Rw)(r1:Bool)(r2:Rw)(k1:Bool)(k2:Rw):∀(m i:Nat) (s:List (Int × Int)),ps.length-i=m->i<=ps.length->s.length<=i->(∀ q∈s,InB (k+i) q.2)->
  D.ask (.lp 89 0) [.ptr 0 0,.ptr 1 0,.ls (ps.map eP),iv (ps.length:Int),iv (i:Int)] [⟨[.ls r0,bv r1,.ls r2],U,Θ⟩,⟨[.sl 2 0 (s.map BD).reverse.length 3,bv k1,.ls k2],U,Θ⟩,Fo (s.map BD).reverse]
   = V (.tup [iv 0,.ptr 0 0,.ptr 1 0],[.set ⟨[.ls r0,bv r1,.ls r2],U,Θ⟩,.set ⟨[.sl 3 0 ((((ps.drop i).map pv).foldl GO s).map BD).reverse.length 3,bv k1,.ls k2],U,Θ⟩,.del,.set (Fo ((((ps.drop i).map pv).foldl GO s).map BD).reverse)]):=by
 intro m
 induction m with
 |zero=>
  intro i s hm hi hs hb;rw[ο (by omega),AwR,List.foldl_nil];refine Ax Kt Ae1 (AkI ..) ?_;exact Am rfl
 |succ m ih0=>
  intro i s hm hi hs hb;have h1:i<ps.length:=by omega
  have hzk:=hz ps[i] (AvN h1);have hzi:=hzk.mono (show k<=1000000000 by omega);rw[ω h1,AvT,Axu];have ih:=ih0 (i+1) (GO s (pv ps[i])) (by omega) (by omega) (by have:=UM s (pv ps[i]);omega) (UL hb (hzk.inb.mono (show k<=k+i by omega)));refine Ax Kt Ae1 (AkI ..) ?_;refine Ao ?_;rw[AA,Az (Ω h1)];simp only[eP,eN,Ae];generalize hS:((ps.drop (i+1)).map pv).foldl GO (GO s (pv ps[i]))=S at ih ⊢
  by_cases hneg:ps[i].v<0
  .have e:GO s (pv ps[i])=s:=by
    have hn:(pv ps[i]).1<0:=hneg
    cases s with
    |nil=>rw[G2,Ac hn]
    |cons q r=>rw[Fz,Ac hn]
   rw[e]at ih;refine Ao ?_ hneg;rw[Bn (by omega)];refine Aa ih ?_;rfl
  have hn:¬(pv ps[i]).1<0:=hneg;refine Am ?_ hneg
  cases s with
  |nil=>
   rw[G2,Ad hn]at ih;refine C7 ?_ (by decide);obtain⟨o,ho0⟩:∃ o:List Pt,o=[]:=⟨_,rfl⟩;have eo:(([pv ps[i]].map BD).reverse)=o++[BD (pv ps[i])]:=by rw[ho0];rfl
   rw[eo]at ih;have ho:o.length<=i:=by rw[ho0];exact Awh _
   rw[show ((([]:List (Int × Int)).map BD).reverse)=o from ho0.symm];have hf:AU (o.length+1) 40=U:=AL (by omega) (by omega);have hb1:AvL (0+o.length*3) (Av eP o).length=U:=AK AE o (by omega);have e3:AvI 0 (AvG (0+o.length*3) (Av eP o))++[iv ps[i].v,bv (A3 (zv ps[i].z)).neg,eN (A3 (zv ps[i].z)).abs]=Av eP (o++[BD (pv ps[i])]):=by
    rw[κ,A0 AE o (by omega)];exact AW eP o (BD (pv ps[i]))
   refine Aa (HH Kt Z hzi) ?_;simp only[eZ,eN,Ae]at e3 ⊢;rw[hf];refine Af ?_;rw[hb1];refine Af ?_;rw[e3,Bn (by omega)];rw[ζ,Awo]at ih;refine Aa ih ?_;rfl
  |cons q r=>
   have eo:(((q::r).map BD).reverse)=(r.map BD).reverse++[BD q]:=by simp
   have hq:=hb q (AvX ..);rw[eo];rw[Fz,Ad hn]at ih;have hro:(r.map BD).reverse.length<=i:=by simp at hs ⊢;omega
   by_cases heq:q.1=(pv ps[i]).1
   .rw[Ac heq,AvT,Ayz]at ih
    generalize (r.map BD).reverse=o at hro ih ⊢;have e1:Ai.sub .i64 (((o++[BD q]).length:Nat):Int) 1=((o.length:Nat):Int):=by
     rw[ζ,Awo];exact Wm (by omega)
    have hlt:o.length<(o++[BD q]).length:=by simp
    have ga:=Z.add (A3 q.2) ps[i].z (hq.lz.mono (by omega)) (hzk.mono (by omega));rw[BU]at ga;have sp:=AuR o (BD q) (A3 (q.2+zv ps[i].z));rw[e1];refine CL ?_;rw[AA,Be hlt];refine Af ?_;refine(ArX o (BD q) _).trans ?_;simp only[Ae];refine Aw ?_ (show (BD q).v=ps[i].v from heq);rw[AA,Be hlt];refine Af ?_;refine(AuO o (BD q) _).trans ?_;simp only[eN,Ae];refine Aa ga ?_;simp only[eZ,eN,Ae]at sp ⊢;rw[AA,Be hlt];refine Af ?_;rw[show AvL (0+o.length*3+1+2) (Av eP (o++[BD q])).length=U by rw[BK AE];simp;omega];refine Af ?_;rw[sp,Bn (by omega)];have el:(o++[BD q]).length=(o++[BD (q.1,q.2+(pv ps[i]).2)]).length:=by simp
    rw[el];refine Aa ih ?_;rfl
   .rw[Ad heq,AvT,Ayz,eo]at ih
    have hlen:((r.map BD).reverse++[BD q]).length<=i:=by simp at hs ⊢;omega
    have e1:Ai.sub .i64 ((((r.map BD).reverse++[BD q]).length:Nat):Int) 1=(((r.map BD).reverse.length:Nat):Int):=by
     rw[ζ,Awo];exact Wm (by omega)
    have hlt:(r.map BD).reverse.length<((r.map BD).reverse++[BD q]).length:=by simp
    rw[e1];refine CL ?_;rw[AA,Be hlt];refine Af ?_;refine(ArX _ (BD q) _).trans ?_;simp only[Ae];refine Ap ?_ (show ¬(BD q).v=ps[i].v from heq);generalize (r.map BD).reverse++[BD q]=o at hlen ih ⊢;have ho:=hlen;have hf:AU (o.length+1) 40=U:=AL (by omega) (by omega);have hb1:AvL (0+o.length*3) (Av eP o).length=U:=AK AE o (by omega);have e3:AvI 0 (AvG (0+o.length*3) (Av eP o))++[iv ps[i].v,bv (A3 (zv ps[i].z)).neg,eN (A3 (zv ps[i].z)).abs]=Av eP (o++[BD (pv ps[i])]):=by
     rw[κ,A0 AE o (by omega)];exact AW eP o (BD (pv ps[i]))
    refine Aa (HH Kt Z hzi) ?_;simp only[eZ,eN,Ae]at e3 ⊢;rw[hf];refine Af ?_;rw[hb1];refine Af ?_;rw[e3,Bn (by omega)];rw[ζ,Awo]at ih;refine Aa ih ?_;rfl
omit Z in
theorem Ar4(K:Knows Ak Fc D):SrtF D 1000000:=⟨η _,YY (Jl K),λ_ hl=>AgY K (Awe hl (by omega)),AnX (Jl K),λZ _ h=>Abl (Jl K) Z h⟩
end
section
variable {D:Orc} {M:Nat} (Kt:Knows Ak J7 D) (Ks:SrtF D M) (Z:ZF D) (C:PartF D)
include Kt Ks Z C in
theorem E6{n k:Nat}{t:Tm}(h:TmB n k t)(hn:n<=M)(hk:k+n<=900000000):D.ask (.fn 89) [.agg (eT t)] []=V (.agg (eT t.lf.pln.tm),[]):=by
 have hM:=Ks.le;obtain⟨ps,kz⟩:=t;have hlen:ps.length<=n:=h.len;obtain⟨r,gs,gr,gp,go⟩:=Ks.sort ps (by omega);have gc:=C.clone ps (by omega);have gk:=HH Kt Z (h.k.mono (show k<=1000000000 by omega));have hzr:∀ p∈r,Lz k p.z:=λp hp=>h.ps p (gp.mem_iff.1 hp)
 have gl:=Af7 Kt Z r (k:=k) (by omega) (by omega) hzr [] Θ [] (A3 (zv kz)).neg ((A3 (zv kz)).abs.map eL) _ 0 [] rfl (by omega) (by simp) (by simp);rw[κ]at gl;have hsrt:(r.map pv).Pairwise λa b=>a.1<=b.1:=by
  rw[List.pairwise_map];exact TR Pt.v go
 have hpl:=Ain hsrt (gp.map pv);generalize hS:(r.map pv).foldl GO []=S at gl hpl;have hsb:∀ p∈((S.map BD).reverse),Lz 1000000000 p.z:=by
  have key:∀(t s:List (Int × Int)) (j:Nat),(∀ q∈s,InB (k+j) q.2)->(∀ q∈t,InB k q.2)->∀ q∈t.foldl GO s,InB (k+j+t.length) q.2:=by
   intro t
   induction t with
   |nil=>intro s j hs _ q hq;exact hs q hq
   |cons p t ih=>
    intro s j hs ht q hq;have:=ih (GO s p) (j+1) (UL hs ((ht p (AvX ..)).mono (show k<=k+j by omega))) (λq hq=>ht q (AvZ _ hq)) q hq;rw[ε];exact this.mono (by omega)
  intro p hp;rw[List.mem_reverse,AwV]at hp;obtain⟨q,hq,rfl⟩:=hp;have:=key (r.map pv) [] 0 (by simp) (λq hq=>by
   rw[AwV]at hq;obtain⟨p,hp,rfl⟩:=hq;exact(hzr p hp).inb) q (by rw[hS];exact hq)
  rw[Av8]at this;exact(this.lz).mono (by omega)
 have hSl:S.length<=1000000:=by
  have key:∀(t s:List (Int × Int)),(t.foldl GO s).length<=s.length+t.length:=by
   intro t
   induction t with
   |nil=>intro s;simp
   |cons p t ih=>
    intro s;have:=ih (GO s p);have h2:=UM s p;rw[Axu,ε];omega
  have:=key (r.map pv) [];rw[hS,Av8]at this;simp at this;omega
 obtain⟨cells,gd,gt,gle⟩:=Ks.del (λp=>decide (zv p.z=0)) (S.map BD).reverse (by simp;omega) λp hp=>Ks.isz Z _ (hsb p hp)
 have hfin:((S.map BD).reverse).filter (λp=>!decide (zv p.z=0))=(E7 (ps.map pv)).map BD:=by
  rw[←hpl,←List.map_reverse,List.filter_map]
  congr 1
  refine List.filter_congr λq _=>?_
  show (!decide (zv (A3 q.2)=0))=_
  rw[BU]
 rw[hfin]at gd gt gle;refine Aq Kt Ae1 (e89 ..) ?_;refine Aa gc ?_;simp only[Ae];refine Aa gs ?_;simp only[Ae];refine Aa gk ?_;simp only[eZ,eN,Ae];rw[show AvL (0+ps.length*3) (Av eP r).length=U from AK AE r (by omega)];refine Af ?_;rw[By AE r (by omega),←gr];refine Aa gl ?_;simp only[Ae];refine Aa gd ?_;simp only[Ae];rw[show AvL (0+((E7 (ps.map pv)).map BD).length*3) cells.length=U by simp;simp at gle;omega];refine Af ?_;rw[gt,Dk AE];rfl
end
def eR(r:List Pt):Ab:=[.ls (r.map eP)]
theorem Af0(p:Pt):LQ (eP p)=U:=rfl
def Sb(x:Zi)(p:Pt):Pt:=⟨p.v,A3 (zv p.z*zv x)⟩
theorem AnA{a b:Nat}(h:a+b<4611686018427387904):Ai.add .i64 (a:Int) (b:Int)=((a+b:Nat):Int):=by
 grind [Ha]
section
variable {D:Orc} {M:Nat} (Kt:Knows Ak J7 D) (Kf:Knows Ak Qu D) (Ks:SrtF D M) (Z:ZF D) (C:PartF D)
include Kf
theorem AnQ(rs:List (List Pt))(X:Rw)(hr:rs.length<=1000000):∀(m i s:Nat),rs.length-i=m->i<=rs.length->s+(rs.drop i).flatten.length<=1000000000->
  D.ask (.lp 250 0) [.ls X,iv (s:Int),.ls (rs.map eR),iv (rs.length:Int),iv (i:Int)] []=V (.tup [iv 0,.ls X,iv ((s+(rs.drop i).flatten.length:Nat):Int)],[]):=by
 intro m
 induction m with
 |zero=>
  intro i s hm hi hs;rw[ο (by omega)];refine Ax Kf NG (Ad4 ..) ?_;exact Am rfl
 |succ m ih=>
  intro i s hm hi hs;have h1:i<rs.length:=by omega
  rw[ω h1,Aww,ζ]at hs ⊢;have ih:=ih (i+1) (s+rs[i].length) (by omega) (by omega) (by omega);rw[show s+rs[i].length+(rs.drop (i+1)).flatten.length=s+(rs[i].length+(rs.drop (i+1)).flatten.length) by omega]at ih;refine Ax Kf NG (Ad4 ..) ?_;refine Ao ?_;rw[AA,Az (Ω h1)];simp only[eR,Ae];rw[Aj,AnA (by omega),Bn (by omega)];refine Am ?_;refine Aa ih ?_;rfl
theorem AnR(rs:List (List Pt))(hr:rs.length<=1000000):∀(m i:Nat) (out:List Pt),rs.length-i=m->i<=rs.length->out.length+(rs.drop i).flatten.length<=1000000000->
  D.ask (.lp 250 1) [.sl 0 0 out.length 3,.ls (rs.map eR),iv (rs.length:Int),iv (i:Int)] [Fo out]=V (.tup [iv 2,.sl 1 0 (out++(rs.drop i).flatten).length 3],[.del,.set (Fo (out++(rs.drop i).flatten))]):=by
 intro m
 induction m with
 |zero=>
  intro i out hm hi hs;rw[ο (by omega),List.flatten_nil,Awc];refine Ax Kf NG (Ad5 ..) ?_;exact Am rfl
 |succ m ih=>
  intro i out hm hi hs;have h1:i<rs.length:=by omega
  rw[ω h1,Aww]at hs ⊢;rw[ζ]at hs;have ih:=ih (i+1) (out++rs[i]) (by omega) (by omega) (by rw[ζ];omega);rw[AvO]at ih;refine Ax Kf NG (Ad5 ..) ?_;refine Ao ?_;rw[AA,Az (Ω h1)];revert hs ih;generalize rs[i]=r;intro hs ih;simp only[eR,Ae];rw[Hp AE,Aj,Bn (by omega)];refine Af ?_
  by_cases h0:r=[]
  .subst h0
   rw[Awc]at ih;rw[AvV]at ih ⊢;refine Af ?_;refine Aa ih ?_;rfl
  .have hz:Nat.beq r.length 0=Θ:=by
    cases r with
    |nil=>exact absurd rfl h0
    |cons x r=>rfl
   rw[hz];refine Bm ?_;rw[FO,LR Af0];refine Af ?_;rw[AL (n:=out.length+r.length) (b:=40) (by omega) (by omega)];refine Af ?_;rw[show AvL (0+out.length*3) (Av eP out).length=U from AK AE out (by omega)];refine Af ?_;have e3:AvI 0 (AvG (0+out.length*3) (Av eP out))++Av eP r=Av eP (out++r):=by
    rw[κ,A0 AE out (by omega)];simp[Av]
   rw[e3];rw[show (out++r).length=out.length+r.length from ζ]at ih;refine Aa ih ?_;rfl
include C in
theorem AaW(a b:List Pt)(h:a.length+b.length<=1000000):D.ask (.fn 250) [.ls [[.ls (a.map eP)],[.ls (b.map eP)]]] []=V (.ls ((a++b).map eP),[]):=by
 have hf:([a,b]).flatten=a++b:=by simp
 have g0:=AnQ Kf [a,b] (([a,b]).map eR) (by simp) _ 0 0 rfl (by simp) (by rw[κ,hf,ζ];omega);rw[κ,hf,AvW]at g0;have gg:=C.grow (a++b).length (by rw[ζ];omega);have g1:=AnR Kf [a,b] (by simp) _ 0 [] rfl (by simp) (by rw[κ,hf,ζ];simp;omega);rw[κ,hf,AvV]at g1;refine Aq Kf NG (AtX ..) ?_;refine Aa g0 ?_;simp only[Ae];refine Aa gg ?_;simp only[Ae];refine Aa g1 ?_;simp only[Ae];rw[show AvL (0+(a++b).length*3) (Av eP (a++b)).length=U from AK AE (a++b) (by omega)];refine Af ?_;rw[By AE (a++b) rfl];rfl
include Kt Ks Z C
theorem AnB{n m k:Nat}{a b:Tm}(ha:TmB n k a)(hb:TmB m k b)(hn:n+m<=M)(hk:k+1+(n+m)<=900000000):D.ask (.fn 223) [.agg (eT a),.agg (eT b)] []=V (.agg (eT (a.lf.add b.lf).tm),[]):=by
 have hM:=Ks.le;obtain⟨ap,ak⟩:=a;obtain⟨bp,bk⟩:=b;have l1:ap.length<=n:=ha.len;have l2:bp.length<=m:=hb.len;have gc:=AaW Kf C ap bp (by omega);have ga:=Z.add ak bk (ha.k.mono (by omega)) (hb.k.mono (by omega));have hT:TmB (n+m) (k+1) ⟨ap++bp,A3 (zv ak+zv bk)⟩:=by
  refine⟨by simp;omega,λp hp=>?_,?_⟩
  .rcases List.mem_append.1 hp with h|h
   .exact(ha.ps p h).mono (by omega)
   .exact(hb.ps p h).mono (by omega)
  .exact(InB.add ha.k.inb hb.k.inb).lz
 have gp:=E6 Kt Ks Z C hT hn (by omega);have el:(⟨ap++bp,A3 (zv ak+zv bk)⟩:Tm).lf.pln=Lf.add (Tm.lf ⟨ap,ak⟩) (Tm.lf ⟨bp,bk⟩):=by
  (first|grind [Lf.add,Tm.lf,BU] | grind [Lf.add,Tm.lf,List.map_append,BU])
 rw[el]at gp;refine Aq Kf AlB (AtH ..) ?_;refine Aa gc ?_;simp only[Ae];refine Aa ga ?_;simp only[eZ,eN,Ae];refine Aa gp ?_;rfl
omit Kt Ks C in
theorem AgO{k j:Nat}{x:Zi}(hx:Lz j x)(hx24:x.abs.length<24)(ps:List Pt)(hl:ps.length<=1000000)(hz:∀ p∈ps,Lz k p.z)(hk:k<=400000000)(hj:j<=400000000)(r0:Rw)(r1:Bool)(r2:Rw)(k1:Bool)(k2:Rw):∀(m i:Nat) (out:List Pt),ps.length-i=m->i<=ps.length->out.length<=i->
  D.ask (.lp 251 0) [.ptr 0 0,.ptr 1 0,.ptr 2 0,.ls (ps.map eP),iv (ps.length:Int),iv (i:Int)] [⟨eZ x,U,Θ⟩,⟨[.ls r0,bv r1,.ls r2],U,Θ⟩,⟨[.sl 3 0 out.length 3,bv k1,.ls k2],U,Θ⟩,Fo out]
   = V (.tup [iv 0,.ptr 1 0,.ptr 2 0],[.del,.set ⟨[.ls r0,bv r1,.ls r2],U,Θ⟩,.set ⟨[.sl 4 0 (out++(ps.drop i).map (Sb x)).length 3,bv k1,.ls k2],U,Θ⟩,.del,.set (Fo (out++(ps.drop i).map (Sb x)))]):=by
 intro m
 induction m with
 |zero=>
  intro i out hm hi ho;rw[ο (by omega),AwR,Awc];refine Ax Kf Va (Ad6 ..) ?_;exact Am rfl
 |succ m ih=>
  intro i out hm hi ho;have h1:i<ps.length:=by omega
  have hzk:=hz ps[i] (AvN h1);have gm:=Z.mul ps[i].z x (hzk.mono (by omega)) (hx.mono (by omega)) (.inr hx24);rw[ω h1,AvT];have ih:=ih (i+1) (out++[Sb x ps[i]]) (by omega) (by omega) (by simp;omega);rw[AvO,Awu,show (out++[Sb x ps[i]]).length=out.length+1 by simp]at ih;have hf:AU (out.length+1) 40=U:=AL (by omega) (by omega);have hb1:AvL (0+out.length*3) (Av eP out).length=U:=AK AE out (by omega);have e3:AvI 0 (AvG (0+out.length*3) (Av eP out))++[iv ps[i].v,bv (A3 (zv ps[i].z*zv x)).neg,eN (A3 (zv ps[i].z*zv x)).abs]=Av eP (out++[Sb x ps[i]]):=by
   rw[κ,A0 AE out (by omega)];exact AW eP out (Sb x ps[i])
  obtain⟨xn,xa⟩:=x;refine Ax Kf Va (Ad6 ..) ?_;refine Ao ?_;rw[AA,Az (Ω h1)];simp only[eP,eN,Ae];refine Aa gm ?_;simp only[eZ,eN,Ae]at e3 ⊢;rw[hf];refine Af ?_;rw[hb1];refine Af ?_;rw[e3,Bn (by omega)];refine Aa ih ?_;rfl
theorem AgP{n k j:Nat}{a:Tm}{x:Zi}(ha:TmB n k a)(hx:Lz j x)(hx24:x.abs.length<24)(hn:n<=M)(hj:j<=23)(hk:k+j+n<=400000000):D.ask (.fn 251) [.agg (eT a),.agg (eZ x)] []=V (.agg (eT (a.lf.scale (zv x)).tm),[]):=by
 have hM:=Ks.le;obtain⟨ap,ak⟩:=a;have l1:ap.length<=n:=ha.len;have gm:=Z.mul ak x (ha.k.mono (by omega)) (hx.mono (by omega)) (.inr hx24);have gl:=AgO Kf Z hx hx24 ap (by omega) ha.ps (by omega) (by omega) [] Θ [] (A3 (zv ak*zv x)).neg ((A3 (zv ak*zv x)).abs.map eL) _ 0 [] rfl (by omega) (by simp);rw[κ,AvV]at gl;have hT:TmB n (k+j) ⟨ap.map (Sb x),A3 (zv ak*zv x)⟩:=by
  refine⟨by simpa using l1,λp hp=>?_,(InB.mul ha.k.inb hx.inb).lz⟩;rw[AwV]at hp;obtain⟨q,hq,rfl⟩:=hp;exact(InB.mul (ha.ps q hq).inb hx.inb).lz
 have gp:=E6 Kt Ks Z C hT hn (by omega);have el:(⟨ap.map (Sb x),A3 (zv ak*zv x)⟩:Tm).lf.pln=Lf.scale (Tm.lf ⟨ap,ak⟩) (zv x):=by
  unfold Lf.scale Tm.lf;simp only[List.map_map,BU]
  congr 2
  refine List.map_congr_left λp _=>?_
  show ((p.v,zv (A3 (zv p.z*zv x))):Int × Int)=_
  rw[BU];rfl
 rw[el]at gp;obtain⟨xn,xa⟩:=x;refine Aq Kf Va (AtY ..) ?_;refine Aa gm ?_;simp only[eZ,eN,Ae,Aj];refine Aa gl ?_;simp only[Ae];rw[show AvL (0+(ap.map (Sb ⟨xn,xa⟩)).length*3) (Av eP (ap.map (Sb ⟨xn,xa⟩))).length=U from AK AE _ (by omega)];refine Af ?_;rw[By AE _ rfl];refine Aa gp ?_;rfl
theorem Ao0{n k:Nat}{a:Tm}(ha:TmB n k a)(hn:n<=M)(hk:k+1+n<=400000000):D.ask (.fn 224) [.agg (eT a)] []=V (.agg (eT (a.lf.scale (-1)).tm),[]):=by
 have hM:=Ks.le;have g1:=Z.of_ (-1) (by omega) (by omega);have hx:Lz 1 (A3 (-1)):=InB.lz (by unfold InB;decide);have g2:=AgP Kt Kf Ks Z C ha hx (by have:=hx.len;omega) hn (by omega) hk;rw[BU]at g2;refine Aq Kf AlC (AtI ..) ?_;refine Aa g1 ?_;simp only[eZ,eN,Ae];refine Aa g2 ?_;rfl
theorem AgZ{n m k:Nat}{a b:Tm}(ha:TmB n k a)(hb:TmB m k b)(hn:n+m<=M)(hk:k+2+2*(n+m)<=400000000):D.ask (.fn 173) [.agg (eT a),.agg (eT b)] []=V (.agg (eT (a.lf.sub b.lf).tm),[]):=by
 have hM:=Ks.le;have g1:=Ao0 Kt Kf Ks Z C hb (by omega) (by omega);have hn1:LB m (k+1+m) (b.lf.scale (-1)):=hb.lb.scale (by unfold InB;decide);have g2:=AnB Kt Kf Ks Z C (ha.mono (η _) (show k<=k+1+m by omega)) hn1.tb hn (by omega);rw[C5]at g2;refine Aq Kf Alm (Atd ..) ?_;refine Aa g1 ?_;simp only[eT,eN,Ae];refine Aa g2 ?_;rfl
omit Ks C in
theorem AbF{z:Zi}(hz:Lz 1000000000 z):D.ask (.fn 170) [.agg (eZ z)] []=V (.agg (eT (Lf.num (zv z)).tm),[]):=by
 have g:=HH Kt Z hz;refine Aq Kf Alj (Ata ..) ?_;refine Aa g ?_;rfl
theorem Akp{n k:Nat}{t:Tm}(h:TmB n k t)(hn:n<=M)(hk:k+n<=900000000):D.ask (.fn 172) [.agg (eT t)] []=V (.agg (eT t.lf.pln.tm++[bv U]),[]):=by
 have g:=E6 Kt Ks Z C h hn hk;refine Aq Kf All (Atc ..) ?_;refine Aa g ?_;rfl
theorem Vt{n k:Nat}{t:Tm}(h:TmB n k t)(hn:n<=M)(hk:k+n<=900000000):D.ask (.fn 174) [.agg (eT t)] []=V (.agg (eT t.lf.pln.tm++[bv Θ]),[]):=by
 have g:=E6 Kt Ks Z C h hn hk;refine Aq Kf Aln (Ate ..) ?_;refine Aa g ?_;rfl
end
theorem G6(k:Int)(t:Tm)(e:Bool)(ks:List Fm):I2 (.mk k t e ks)=if k=4\/k=5 then ks else if k=3 then ks.take 1 else []:=rfl
theorem FA{k:Int}{t:Tm}{e:Bool}{ks:List Fm}{x:Fm}(hx:x∈I2 (.mk k t e ks)):x∈ks:=by
 rw[G6]at hx;split at hx
 .exact hx
 .split at hx
  .exact List.mem_of_mem_take hx
  .cases hx
theorem Abm(k:Int)(t:Tm)(e:Bool)(ks:List Fm):(I2 (.mk k t e ks)).length<=ks.length:=by
 rw[G6];split
 .exact η _
 .split
  .simp;omega
  .simp
theorem C6(x:Fm):(eF x).length=6:=by
 obtain⟨k,t,e,ks⟩:=x;rw[eF];rfl
inductive FB (n k:Nat):Fm->Prop
 |mk {kind:Int} {t:Tm} {e:Bool} {ks:List Fm} (ht:TmB n k t) (hl:ks.length<=1000000) (h:∀ x∈ks,FB n k x):FB n k (.mk kind t e ks)
inductive FC (n k:Nat):Fm->Prop
 |mk {kind:Int} {t:Tm} {e:Bool} {ks:List Fm} (ht:kind=2->TmB n k t) (hl:(I2 (.mk kind t e ks)).length<=1000000) (h:∀ x∈I2 (.mk kind t e ks),FC n k x):FC n k (.mk kind t e ks)
theorem LB.sub{n m k:Nat}{a b:Lf}(ha:LB n k a)(hb:LB m k b):LB (n+m) (2*k+2+2*(n+m)) (a.sub b):=by
 have h1:LB m (k+1+m) (b.scale (-1)):=hb.scale (by unfold InB;decide);exact(ha.add h1).mono (η _) (by omega)
theorem E0{k:Int}{t:Tm}{e:Bool}{ks:List Fm}{x:Fm}(h:x∈ks):SizeOf.sizeOf x<SizeOf.sizeOf (Fm.mk k t e ks):=by
 have:=List.sizeOf_lt_of_mem h;simp only[Fm.mk.sizeOf_spec];omega
theorem FB.fc{n k:Nat}:∀(N:Nat) (x:Fm),SizeOf.sizeOf x<N->FB n k x->FC n k x:=by
 intro N
 induction N with
 |zero=>intro x h;omega
 |succ N ih=>
  intro x hN hx;obtain⟨ht,hl,h⟩:=hx;rename_i kd t e ks;exact .mk (λ_=>ht) (Awe (Abm kd t e ks) hl) λy hy=>ih y (by have:=E0 (k:=kd) (t:=t) (e:=e) (FA hy);omega) (h y (FA hy))
section
variable {D:Orc} {M:Nat} (Kt:Knows Ak J7 D) (Kf:Knows Ak Qu D) (Ks:SrtF D M) (Z:ZF D) (C:PartF D) (Ko:Knows Ak Sk D)
include Ko
theorem Hl(b:Bool):D.ask (.fn 64) [bv b] []=V (.agg (eF (Og b)),[]):=by
 refine Aq Ko AqL (e64 ..) ?_
 cases b<;>rfl
include Kt Ks Z C in
theorem Mz{n k:Nat}{t:Tm}(h:TmB n k t)(hn:n<=M)(hk:k+n<=900000000)(e:Bool):D.ask (.fn 171) [.agg [.ls (t.ps.map eP),bv t.k.neg,eN t.k.abs,bv e]] []=V (.agg (eF (D3 t.lf.pln e)),[]):=by
 have g:=E6 Kt Ks Z C h hn hk;obtain⟨ps,kz⟩:=t;have g2:D.ask (.fn 222) [.agg [.ls (ps.map eP),bv kz.neg,eN kz.abs,bv e]] []=V (.agg (eT (Tm.lf ⟨ps,kz⟩).pln.tm++[bv e]),[]):=by
  refine Aq Ko AlA (AtG ..) ?_;refine Aa g ?_;rfl
 refine Aq Ko Alk (Atb ..) ?_;refine Aa g2 ?_;rfl
theorem Tf(x:Fm):D.ask (.fn 225) [.agg (eF x)] []=V (.ls ((I2 x).map eF),[]):=by
 obtain⟨k,t,e,ks⟩:=x;refine Aq Ko AlD (AtJ ..) ?_;rw[B2];rw[G6]
 by_cases h4:k=4
 .rw[Ac (.inl h4)]
  exact ME h4
 refine Ap ?_ h4
 by_cases h5:k=5
 .rw[Ac (.inr h5)]
  exact ME h5
 refine Ap ?_ h5;rw[Ad (by omega)]
 by_cases h3:k=3
 .rw[Ac h3]
  refine Aw ?_ h3;rw[Aj,ArW,show min (ks.length:Int) 1=((min ks.length 1:Nat):Int) by omega,AA];rw[show J1 0 (min ks.length 1) ks.length=U by unfold J1;rw[Awz (Awh _),Awz (Nat.min_le_left ..)]];refine Af ?_;rw[Hp C6];refine Af ?_;rw[Jp,IT,κ,←List.map_take];have:ks.take (min ks.length 1)=ks.take 1:=by
   rw[List.take_eq_take_iff];omega
  rw[this]
 .rw[Ad h3]
  exact Ap rfl h3
theorem AaS(ks:List Fm)(hl:ks.length<=1000000)(g:∀ x∈ks,D.ask (.fn 175) [.agg (eF x)] []=V (.agg (eF (Br x)),[])):∀(m i:Nat) (out:List Fm),ks.length-i=m->i<=ks.length->out.length<=i->
  D.ask (.lp 176 0) [.sl 0 0 out.length 6,.ls (ks.map eF),iv (ks.length:Int),iv (i:Int)] [Ψ (Av eF out) U U]=V (.tup [iv 0,.sl 1 0 (out++(ks.drop i).map Br).length 6],[.del,.set (Ψ (Av eF (out++(ks.drop i).map Br)) U U)]):=by
 intro m
 induction m with
 |zero=>
  intro i out hm hi ho;rw[ο (by omega),AwR,Awc];refine Ax Ko UX (AdI ..) ?_;exact Am rfl
 |succ m ih=>
  intro i out hm hi ho;have h1:i<ks.length:=by omega
  have gx:=g ks[i] (AvN h1);rw[ω h1,AvT];have ih:=ih (i+1) (out++[Br ks[i]]) (by omega) (by omega) (by simp;omega);rw[AvO,Awu,show (out++[Br ks[i]]).length=out.length+1 by simp]at ih;have hf:AU (out.length+1) 96=U:=AL (by omega) (by omega);have hb1:AvL (0+out.length*6) (Av eF out).length=U:=AK C6 out (by omega);have e3:AvI 0 (AvG (0+out.length*6) (Av eF out))++eF (Br ks[i])=Av eF (out++[Br ks[i]]):=by
   rw[κ,A0 C6 out (by omega)];exact AW eF out _
  refine Ax Ko UX (AdI ..) ?_;refine Ao ?_;rw[AA,Az (Ω h1)];revert gx ih e3;generalize Br ks[i]=y;generalize ks[i]=x;obtain⟨xk,xt,xe,xs⟩:=x;obtain⟨yk,yt,ye,ys⟩:=y;intro gx ih e3;simp only[eF,eN,Ae]at gx e3 ⊢;refine Aa gx ?_;simp only[Ae];rw[hf];refine Af ?_;rw[hb1];refine Af ?_;rw[e3,Bn (by omega)];refine Aa ih ?_;rfl
theorem GW{ks:List Fm}(hl:ks.length<=1000000)(g:∀ x∈ks,D.ask (.fn 175) [.agg (eF x)] []=V (.agg (eF (Br x)),[])):D.ask (.fn 176) [.ls (ks.map eF)] []=V (.ls ((ks.map Br).map eF),[]):=by
 have gl:=AaS Ko ks hl g _ 0 [] rfl (by omega) (by simp);rw[κ,AvV]at gl;refine Aq Ko UX (Atg ..) ?_;rw[Aj];refine Aa gl ?_;simp only[Ae];rw[show AvL (0+(ks.map Br).length*6) (Av eF (ks.map Br)).length=U from AK C6 _ (by omega)];refine Af ?_;rw[By C6 _ rfl]
include Kt Ks Z C in
theorem AaP{n k:Nat}(hn:n<=M)(hk:k+n<=900000000):∀(N:Nat) (x:Fm),SizeOf.sizeOf x<N->FC n k x->D.ask (.fn 175) [.agg (eF x)] []=V (.agg (eF (Br x)),[]):=by
 intro N
 induction N with
 |zero=>intro x h;omega
 |succ N ih=>
  intro x hN hx;obtain⟨ht,hl,h⟩:=hx;rename_i kd t e ks;refine Aq Ko Alo (Atf ..) ?_;rw[Br]
  by_cases h0:kd=0
  .rw[Ac h0]
   refine Aw ?_ h0;refine Aa (Hl Ko U) ?_;rfl
  rw[Ad h0];refine Ap ?_ h0
  by_cases h2:kd=2
  .rw[Ac h2]
   refine Aw ?_ h2;refine Aa (Mz Kt Ks Z C Ko (ht h2) hn hk e) ?_;rfl
  rw[Ad h2];refine Ap ?_ h2
  by_cases h3:kd=3
  .rw[Ac h3,Nx]
   refine Aw ?_ h3;have hk:=Tf Ko (.mk kd t e ks);have gc:=GW Ko hl λx hx=>ih x (by have:=E0 (k:=kd) (t:=t) (e:=e) (FA hx);omega) (h x hx)
   simp only[eF,eN,Ae]at hk ⊢;refine Aa hk ?_;simp only[Ae];refine Aa gc ?_;rw[G6];rw[Ad (by omega),Ac h3,h3];unfold kF;rw[eF,B2];rfl
  rw[Ad h3];refine Ap ?_ h3
  by_cases h4:kd=4
  .rw[Ac (.inl h4),Gp]
   refine Aw ?_ h4;have hk:=Tf Ko (.mk kd t e ks);have gc:=GW Ko hl λx hx=>ih x (by have:=E0 (k:=kd) (t:=t) (e:=e) (FA hx);omega) (h x hx)
   simp only[eF,eN,Ae]at hk ⊢;refine Aa hk ?_;simp only[Ae];refine Aa gc ?_;rw[G6];rw[Ac (.inl h4)];unfold kF;rw[eF,B2];rfl
  refine Ap ?_ h4
  by_cases h5:kd=5
  .rw[Ac (.inr h5),Gp]
   refine Aw ?_ h5;have hk:=Tf Ko (.mk kd t e ks);have gc:=GW Ko hl λx hx=>ih x (by have:=E0 (k:=kd) (t:=t) (e:=e) (FA hx);omega) (h x hx)
   simp only[eF,eN,Ae]at hk ⊢;refine Aa hk ?_;simp only[Ae];refine Aa gc ?_;rw[G6];rw[Ac (.inr h5)];unfold kF;rw[eF,B2];rfl
  rw[Ad (by omega)];refine Ap ?_ h5;refine Aa (Hl Ko Θ) ?_;rfl
include Kt Ks Z C in
theorem GV{n k:Nat}(hn:n<=M)(hk:k+n<=900000000)(N:Nat)(x:Fm)(hN:SizeOf.sizeOf x<N)(h:FB n k x):D.ask (.fn 175) [.agg (eF x)] []=V (.agg (eF (Br x)),[]):=AaP Kt Ks Z C Ko hn hk N x hN (FB.fc N x hN h)
include Kt Ks Z C in
theorem Y2{n k:Nat}(hn:n<=M)(hk:k+n<=900000000){x:Fm}(h:FB n k x):D.ask (.fn 113) [.agg (eF x)] []=V (.agg (eF (kF 3 [Br x])),[]):=by
 have g:=GV Kt Ks Z C Ko hn hk _ x (AvS _) h;obtain⟨xk,xt,xe,xs⟩:=x;refine Aq Ko AkS (AsE ..) ?_;generalize Br (.mk xk xt xe xs)=y at g ⊢;obtain⟨yk,yt,ye,ys⟩:=y;simp only[eF,eN]at g;refine Aa g ?_;unfold kF;rw[eF,eFs,eFs,eF];rfl
include Kt Ks Z C in
theorem AhJ{n k:Nat}(hn:n<=M)(hk:k+n<=900000000){l:List Fm}(hl:l.length<=1000000)(h:∀ x∈l,FB n k x):D.ask (.fn 114) [.ls (l.map eF)] []=V (.agg (eF (kF 4 (l.map Br))),[]):=by
 have g:=GW Ko hl λx hx=>GV Kt Ks Z C Ko hn hk _ x (AvS _) (h x hx)
 refine Aq Ko AkT (AsF ..) ?_;refine Aa g ?_;unfold kF;rw[eF,B2];rfl
include Kt Ks Z C in
theorem AhL{n k:Nat}(hn:n<=M)(hk:k+n<=900000000){l:List Fm}(hl:l.length<=1000000)(h:∀ x∈l,FB n k x):D.ask (.fn 115) [.ls (l.map eF)] []=V (.agg (eF (kF 5 (l.map Br))),[]):=by
 have g:=GW Ko hl λx hx=>GV Kt Ks Z C Ko hn hk _ x (AvS _) (h x hx)
 refine Aq Ko AkU (AsG ..) ?_;refine Aa g ?_;unfold kF;rw[eF,B2];rfl
omit Ko in
theorem FJ{n k:Nat}{l:Lf}(h:LB n k l)(e:Bool):FB n k (D3 l e):=.mk h.tb (by simp) (by simp)
omit Ko in
theorem LL:LB 0 1 (Lf.num 1):=⟨by simp[Lf.num],by simp[Lf.num],by unfold InB Lf.num;decide⟩
omit Ko in
theorem AhX{l r:Lf}(hl:LB 64 5000 l)(hr:LB 64 5000 r)(op:Int):FB 128 30000 (MH op l r):=by
 have h1:=(hl.sub hr).mono (show 64+64<=128 by omega) (show _<=11000 by omega);have h2:=(hr.sub hl).mono (show 64+64<=128 by omega) (show _<=11000 by omega);have n1:=LL.mono (η 0) (show 1<=11000 by omega);have h3:=(h1.sub n1).mono (show 128+0<=128 by omega) (show _<=30000 by omega);have h4:=(h2.sub n1).mono (show 128+0<=128 by omega) (show _<=30000 by omega);have a0:TmB 128 30000 Tm0:=by rw[←Ti];exact LB.tb ⟨by simp[Nq],by simp[Nq],InB.zero _⟩
 have w1:=h1.mono (η 128) (show 11000<=30000 by omega);have w2:=h2.mono (η 128) (show 11000<=30000 by omega);unfold MH
 repeat' split
 .exact FJ w1 _
 .exact .mk a0 (by simp) (λx hx=>by rw[List.mem_singleton.1 hx];exact FJ w1 _)
 .exact FJ h4 _
 .exact FJ w2 _
 .exact FJ h3 _
 .exact FJ w1 _
 .exact .mk a0 (by simp) (by simp)
include Kt Kf Ks Z C
theorem AhY(hM:128<=M){l r:Tm}(hl:TmB 64 5000 l)(hr:TmB 64 5000 r)(op:Int):D.ask (.fn 112) [iv op,.agg (eT l),.agg (eT r)] []=V (.agg (eF (MH op l.lf r.lf)),[]):=by
 have g1:=Z.of_ 1 (by omega) (by omega);have g2:=AbF Kt Kf Z (z:=A3 1) ((InB.lz (k:=1) (by unfold InB;decide)).mono (by omega));rw[BU]at g2;have s1:∀{a b:Tm},TmB 64 5000 a->TmB 64 5000 b->D.ask (.fn 173) [.agg (eT a),.agg (eT b)] []=V (.agg (eT (a.lf.sub b.lf).tm),[]):=λha hb=>AgZ Kt Kf Ks Z C ha hb (by omega) (by omega)
 have b1:∀{a b:Tm},TmB 64 5000 a->TmB 64 5000 b->LB 128 11000 (a.lf.sub b.lf):=λha hb=>(ha.lb.sub hb.lb).mono (by omega) (by omega)
 have z1:∀{a b:Tm},TmB 64 5000 a->TmB 64 5000 b->∀ e:Bool,D.ask (.fn 171) [.agg [.ls ((a.lf.sub b.lf).tm.ps.map eP),bv (a.lf.sub b.lf).tm.k.neg,eN (a.lf.sub b.lf).tm.k.abs,bv e]] []=V (.agg (eF (D3 (a.lf.sub b.lf) e)),[]):=λha hb e=>by
  have:=Mz Kt Ks Z C Ko (b1 ha hb).tb (by omega) (by omega) e
  rwa [C5,Dx]at this
 have q0:∀{l r:Tm},TmB 64 5000 l->TmB 64 5000 r->D.ask (.fn 112) [iv 0,.agg (eT l),.agg (eT r)] []=V (.agg (eF (D3 (l.lf.sub r.lf) U)),[]):=λ{l r} hl hr=>by
  have gs:=s1 hl hr;have gz:=Akp Kt Kf Ks Z C (b1 hl hr).tb (by omega) (by omega);rw[C5,Dx]at gz;have go:=z1 hl hr U;obtain⟨lp,lk⟩:=l;obtain⟨rp,rk⟩:=r;refine Aq Ko NC (Xi ..) ?_;refine Aa g1 ?_;simp only[eZ,eN,Ae];refine Aa g2 ?_;simp only[eT,eN,Ae];refine Aw ?_ rfl;refine Aa gs ?_;simp only[eT,eN,Ae,AwP,AvV]at gz ⊢;refine Aa gz ?_;simp only[Ae];refine Aa go ?_;rfl
 have q3:∀{l r:Tm},TmB 64 5000 l->TmB 64 5000 r->D.ask (.fn 112) [iv 3,.agg (eT l),.agg (eT r)] []=V (.agg (eF (D3 (r.lf.sub l.lf) Θ)),[]):=λ{l r} hl hr=>by
  have gs:=s1 hr hl;have gz:=Vt Kt Kf Ks Z C (b1 hr hl).tb (by omega) (by omega);rw[C5,Dx]at gz;have go:=z1 hr hl Θ;obtain⟨lp,lk⟩:=l;obtain⟨rp,rk⟩:=r;refine Aq Ko NC (Xi ..) ?_;refine Aa g1 ?_;simp only[eZ,eN,Ae];refine Aa g2 ?_;simp only[eT,eN,Ae];refine Ap ?_ (by decide);refine Ap ?_ (by decide);refine Ap ?_ (by decide);refine Aw ?_ rfl;refine Aa gs ?_;simp only[eT,eN,Ae,AwP,AvV]at gz ⊢;refine Aa gz ?_;simp only[Ae];refine Aa go ?_;rfl
 have q2:∀{l r:Tm},TmB 64 5000 l->TmB 64 5000 r->D.ask (.fn 112) [iv 2,.agg (eT l),.agg (eT r)] []=V (.agg (eF (D3 ((r.lf.sub l.lf).sub (.num 1)) Θ)),[]):=λ{l r} hl hr=>by
  have gs:=s1 hr hl;have n1:=(LL.mono (η 0) (show 1<=11000 by omega)).tb;have gs2:=AgZ Kt Kf Ks Z C (b1 hr hl).tb n1 (by omega) (by omega);have b2:LB 128 30000 ((r.lf.sub l.lf).sub (.num 1)):=((b1 hr hl).sub (LL.mono (η 0) (show 1<=11000 by omega))).mono (by omega) (by omega);rw[C5,C5]at gs2;have gz:=Vt Kt Kf Ks Z C b2.tb (by omega) (by omega);rw[C5,Dx]at gz;have go:=Mz Kt Ks Z C Ko b2.tb (by omega) (by omega) Θ;rw[C5,Dx]at go;obtain⟨lp,lk⟩:=l;obtain⟨rp,rk⟩:=r;refine Aq Ko NC (Xi ..) ?_;refine Aa g1 ?_;simp only[eZ,eN,Ae];refine Aa g2 ?_;simp only[eT,eN,Ae];refine Ap ?_ (by decide);refine Ap ?_ (by decide);refine Aw ?_ rfl;refine Aa gs ?_;simp only[eT,eN,Ae,AwP,AvV]at gz gs2 ⊢;refine Aa gs2 ?_;simp only[Ae];refine Aa gz ?_;simp only[Ae];refine Aa go ?_;rfl
 unfold MH
 by_cases h0:op=0
 .rw[Ac h0,h0]
  exact q0 hl hr
 rw[Ad h0]
 by_cases h1:op=1
 .rw[Ac h1,h1]
  have g:=q0 hl hr;have gd:=Y2 Kt Ks Z C Ko (n:=128) (k:=11000) (by omega) (by omega) (FJ (b1 hl hr) U);rw[(CanF.atom _ _ (Dx _ _)).clone]at gd;obtain⟨lp,lk⟩:=l;obtain⟨rp,rk⟩:=r;refine Aq Ko NC (Xi ..) ?_;refine Aa g1 ?_;simp only[eZ,eN,Ae];refine Aa g2 ?_;simp only[eT,eN,Ae];refine Ap ?_ (by decide);refine Aw ?_ rfl;refine Aa g ?_;unfold D3 at gd ⊢;simp only[eF,eN,Ae]at gd ⊢;refine Aa gd ?_;unfold kF;rw[eF,eFs,eFs,eF];rfl
 rw[Ad h1]
 by_cases h2:op=2
 .rw[Ac h2,h2]
  exact q2 hl hr
 rw[Ad h2]
 by_cases h3:op=3
 .rw[Ac h3,h3]
  exact q3 hl hr
 rw[Ad h3]
 by_cases h4:op=4
 .rw[Ac h4,h4]
  have g:=q2 hr hl;obtain⟨lp,lk⟩:=l;obtain⟨rp,rk⟩:=r;refine Aq Ko NC (Xi ..) ?_;refine Aa g1 ?_;simp only[eZ,eN,Ae];refine Aa g2 ?_;simp only[eT,eN,Ae];refine Ap ?_ (by decide);refine Ap ?_ (by decide);refine Ap ?_ (by decide);refine Ap ?_ (by decide);refine Aw ?_ rfl;refine Aa g ?_;rfl
 rw[Ad h4]
 by_cases h5:op=5
 .rw[Ac h5,h5]
  have g:=q3 hr hl;obtain⟨lp,lk⟩:=l;obtain⟨rp,rk⟩:=r;refine Aq Ko NC (Xi ..) ?_;refine Aa g1 ?_;simp only[eZ,eN,Ae];refine Aa g2 ?_;simp only[eT,eN,Ae];refine Ap ?_ (by decide);refine Ap ?_ (by decide);refine Ap ?_ (by decide);refine Ap ?_ (by decide);refine Ap ?_ (by decide);refine Aw ?_ rfl;refine Aa g ?_;rfl
 rw[Ad h5];obtain⟨lp,lk⟩:=l;obtain⟨rp,rk⟩:=r;refine Aq Ko NC (Xi ..) ?_;refine Aa g1 ?_;simp only[eZ,eN,Ae];refine Aa g2 ?_;simp only[eT,eN,Ae];refine Ap ?_ h0;refine Ap ?_ h1;refine Ap ?_ h2;refine Ap ?_ h3;refine Ap ?_ h4;refine Ap ?_ h5;refine Aa (Hl Ko Θ) ?_;rfl
end
section
variable {D:Orc} {M:Nat} (Kt:Knows Ak J7 D) (Kf:Knows Ak Qu D) (Ks:SrtF D M) (Z:ZF D) (C:PartF D) (Kl:Knows Ak Aao D)
include Kl
theorem Ajq(a b:Int):D.ask (.lp 277 0) [iv 0,.ls [[iv a],[iv b]],iv 2,iv 2] []=V (.tup [iv 0,iv 0],[]):=by
 refine Ax Kl Rz (Xr ..) ?_;exact Am rfl
theorem Ajr(a b:Int):D.ask (.lp 277 0) [iv 0,.ls [[iv a],[iv b]],iv 2,iv 1] []=V (if b=0 then .tup [iv 0,iv 0] else .tup [bv U,iv b],[]):=by
 refine Ax Kl Rz (Xr ..) ?_;refine Ao ?_
 show br (Ai.eq b 0) _ _=_
 by_cases h:b=0
 .refine Aw ?_ h
  rw[Ac h];refine Aa (Ajq Kl a b) ?_;rfl
 .rw[Ad h]
  exact Ap rfl h
theorem Yf(a b:Int):D.ask (.fn 277) [.ls [[iv a],[iv b]]] []=V (iv (or2 a b),[]):=by
 have g:D.ask (.lp 277 0) [iv 0,.ls [[iv a],[iv b]],iv 2,iv 0] []=V (if or2 a b=0 then .tup [iv 0,iv 0] else .tup [bv U,iv (or2 a b)],[]):=by
  refine Ax Kl Rz (Xr ..) ?_;refine Ao ?_
  show br (Ai.eq a 0) _ _=_
  unfold or2
  by_cases h:a=0
  .refine Aw ?_ h
   rw[Ac h];refine Aa (Ajr Kl a b) ?_
   by_cases h2:b=0
   .rw[Ac h2];rfl
   .rw[Ad h2];rfl
  .rw[Ad h,Ad h]
   exact Ap rfl h
 refine Aq Kl Rz (Auc ..) ?_;refine Aa g ?_
 by_cases h:or2 a b=0
 .rw[Ac h,h];rfl
 .rw[Ad h];rfl
include Ks Z
theorem AhW{p q:Pt}(hp:Lz 1000000000 p.z)(hq:Lz 1000000000 q.z):D.ask (.fn 284) [.agg (eP p),.agg (eP q)] []=V (iv (Ri (pv p) (pv q)),[]):=by
 have g1:=Ks.cmpI p.v q.v;have g2:=Z.cmp p.z q.z hp hq;obtain⟨a,n,x⟩:=p;obtain⟨b,m,y⟩:=q;refine Aq Kl AlV (Aui ..) ?_;refine Aa g1 ?_;simp only[Ae];refine Aa g2 ?_;simp only[Ae];refine Aa (Yf Kl _ _) ?_;rfl
theorem Ah1{a b:List Pt}(la:a.length<=1000000)(lb:b.length<=1000000)(ha:∀ p∈a,Lz 1000000000 p.z)(hb:∀ p∈b,Lz 1000000000 p.z):∀(m i:Nat),a.length-i=m->i<=a.length->D.ask (.lp 286 0) [.ls (a.map eP),.ls (b.map eP),.fn (.func 284) [] [],.ls (a.map eP),iv (a.length:Int),iv (i:Int)] []=V (match Lo ((a.drop i).map pv) ((b.drop i).map pv) with|some n=>.tup [bv U,iv n] | none=>.tup [iv 0,.ls (a.map eP),.ls (b.map eP)],[]):=by
 intro m
 induction m with
 |zero=>
  intro i hm hi;rw[ο (by omega)];refine Ax Kl Vg (Aee ..) ?_;exact Am rfl
 |succ m ih=>
  intro i hm hi;have h1:i<a.length:=by omega
  have ih:=ih (i+1) (by omega) (by omega);rw[ω h1,AvT];refine Ax Kl Vg (Aee ..) ?_;refine Ao ?_;rw[AA,Az (Ω h1)];simp only[eP,eN,Ae];rw[Aj]
  by_cases h2:b.length<=i
  .refine CL ?_
   rw[ο h2];rfl
  .have h2:i<b.length:=by omega
   refine C7 ?_;rw[AA,Az (Ω h2)];simp only[eP,eN,Ae];have gc:=AhW Ks Z Kl (ha _ (AvN h1)) (hb _ (AvN h2));refine Aa gc ?_;simp only[Ae];rw[ω h2,AvT,Lo]
   by_cases h3:Ri (pv a[i]) (pv b[i])=0
   .refine Aw ?_ h3
    rw[Ac h3,Bn (by omega)];refine Aa ih ?_
    cases Lo ((a.drop (i+1)).map pv) ((b.drop (i+1)).map pv)<;>rfl
   .rw[Ad h3]
    exact Ap rfl h3
theorem Ads{a b:List Pt}(la:a.length<=1000000)(lb:b.length<=1000000)(ha:∀ p∈a,Lz 1000000000 p.z)(hb:∀ p∈b,Lz 1000000000 p.z):D.ask (.fn 286) [.ls (a.map eP),.ls (b.map eP),.fn (.func 284) [] []] []=V (iv (Us (a.map pv) (b.map pv)),[]):=by
 refine Aq Kl Vg (Auk ..) ?_;rw[Aj];refine Aa (Ah1 Ks Z Kl la lb ha hb _ 0 rfl (by omega)) ?_;rw[κ,κ];unfold Us
 cases Lo (a.map pv) (b.map pv) with
 |some n=>rfl
 |none=>
  simp only[Ae]
  show br (Ai.lt _ _) _ _=_
  rw[Aj,Aj];simp only[Av8]
  by_cases h:a.length<b.length
  .refine Ao ?_
   rw[Ac h]
  .refine Am ?_
   rw[Ad h]
include Kt C
theorem AhZ{n k:Nat}{t u:Tm}(ht:TmB n k t)(hu:TmB n k u)(hn:n<=M)(hk:k+n<=900000000):D.ask (.fn 278) [.agg (eT t),.agg (eT u)] []=V (iv (AaT t.lf.pln u.lf.pln),[]):=by
 have hM:=Ks.le;have g1:=E6 Kt Ks Z C ht hn hk;have g2:=E6 Kt Ks Z C hu hn hk;have b1:=ht.lb.pln.tb;have b2:=hu.lb.pln.tb;have e1:(t.lf.pln.tm.ps).map pv=t.lf.pln.ps:=congrArg Lf.ps (C5 t.lf.pln);have e2:(u.lf.pln.tm.ps).map pv=u.lf.pln.ps:=congrArg Lf.ps (C5 u.lf.pln);have k1:zv t.lf.pln.tm.k=t.lf.pln.k:=congrArg Lf.k (C5 t.lf.pln);have k2:zv u.lf.pln.tm.k=u.lf.pln.k:=congrArg Lf.k (C5 u.lf.pln);have g3:=Ads Ks Z Kl (a:=t.lf.pln.tm.ps) (b:=u.lf.pln.tm.ps) (Awe b1.len (Awe hn hM)) (Awe b2.len (Awe hn hM)) (λp hp=>(b1.ps p hp).mono (by omega)) (λp hp=>(b2.ps p hp).mono (by omega));have g4:=Z.cmp t.lf.pln.tm.k u.lf.pln.tm.k (b1.k.mono (by omega)) (b2.k.mono (by omega));rw[e1,e2]at g3;rw[k1,k2]at g4;unfold AaT;revert g1 g2 g3 g4;generalize t.lf.pln.tm=x;generalize u.lf.pln.tm=y;intro g1 g2 g3 g4;obtain⟨tp,tz⟩:=t;obtain⟨up,uz⟩:=u;obtain⟨xp,xn,xa⟩:=x;obtain⟨yp,yn,ya⟩:=y;refine Aq Kl AlS (Aud ..) ?_;refine Aa g1 ?_;simp only[eT,eN,Ae];refine Aa g2 ?_;simp only[eT,eN,Ae];refine Aa g3 ?_;simp only[Ae];refine Aa g4 ?_;simp only[Ae];refine Aa (Yf Kl _ _) ?_;rfl
theorem AbV{n k:Nat}{t u:Tm}(ht:TmB n k t)(hu:TmB n k u)(hn:n<=M)(hk:k+n<=900000000)(e f:Bool):D.ask (.fn 270) [.agg (eT t++[bv e]),.agg (eT u++[bv f])] []=V (iv (SS t.lf.pln u.lf.pln e f),[]):=by
 have g1:=AhZ Kt Ks Z C Kl ht hu hn hk;have gr:∀(t:Tm) (e:Bool),D.ask (.fn 279) [.agg (eT t++[bv e])] []=V (iv (Z8 e),[]):=by
  rintro⟨p,z⟩ e;refine Aq Kl AlT (Aue ..) ?_
  cases e<;>rfl
 unfold SS;revert g1;generalize AaT t.lf.pln u.lf.pln=c;intro g1;have r1:=gr t e;have r2:=gr u f;obtain⟨tp,tz⟩:=t;obtain⟨up,uz⟩:=u;refine Aq Kl AlO (At7 ..) ?_;refine Aa g1 ?_;simp only[Ae];refine Aa r1 ?_;simp only[Ae];refine Aa r2 ?_;simp only[Ae];refine Aa (Ks.cmpI _ _) ?_;simp only[Ae];refine Aa (Yf Kl _ _) ?_;rfl
theorem Ym{n k:Nat}{t u:Tm}(ht:TmB n k t)(hu:TmB n k u)(hn:n<=M)(hk:k+n<=900000000)(e f:Bool):D.ask (.fn 254) [.agg (eT t++[bv e]),.agg (eT u++[bv f])] []=V (bv (decide (SS t.lf.pln u.lf.pln e f=0)),[]):=by
 have g2:=AbV Kt Ks Z C Kl ht hu hn hk e f;revert g2;generalize SS t.lf.pln u.lf.pln e f=c;intro g2;obtain⟨tp,tz⟩:=t;obtain⟨up,uz⟩:=u;refine Aq Kl AlL (AtZ ..) ?_;refine Aa g2 ?_;simp only[Ae]
 by_cases h:c=0
 .refine Aw ?_ h
  rw[Ba h]
 .refine Ap ?_ h
  rw[Bu h]
end
theorem FB.kids{n k:Nat}{x:Fm}(h:FB n k x):x.kids.length<=1000000/\(∀ y∈x.kids,FB n k y)/\TmB n k x.tm:=by
 cases h with
 |mk ht hl h=>exact⟨hl,h,ht⟩
section
variable {D:Orc} {M:Nat} (Kt:Knows Ak J7 D) (Ks:SrtF D M) (Z:ZF D) (C:PartF D) (Ko:Knows Ak Sk D) (Kl:Knows Ak Aao D)
include Kl
theorem Aib{ks js:List Fm}(hl:ks.length=js.length)(hs:ks.length<=1000000)(g:∀ x∈ks,∀ y∈js,D.ask (.fn 233) [.agg (eF x),.agg (eF y)] []=V (bv (WM x y),[])):∀(m i:Nat),ks.length-i=m->i<=ks.length->D.ask (.lp 255 0) [.ls (js.map eF),.fn (.func 233) [] [],.ls (ks.map eF),iv (ks.length:Int),iv (i:Int)] []=V (if JP (ks.drop i) (js.drop i) then .tup [iv 0] else .tup [bv U,bv Θ],[]):=by
 intro m
 induction m with
 |zero=>
  intro i hm hi;rw[ο (by omega),JP];refine Ax Kl Vb (Ad7 ..) ?_;exact Am rfl
 |succ m ih=>
  intro i hm hi;have h1:i<ks.length:=by omega
  have h2:i<js.length:=by omega
  have ih:=ih (i+1) (by omega) (by omega);have gx:=g ks[i] (AvN h1) js[i] (AvN h2);rw[ω h1,ω h2,MN];refine Ax Kl Vb (Ad7 ..) ?_;refine Ao ?_;rw[AA,Az (Ω h1)];revert gx;generalize ks[i]=x;intro gx;obtain⟨xk,xt,xe,xs⟩:=x;simp only[eF,eN,Ae]at gx ⊢;rw[AA,Az (Ω h2)];revert gx;generalize js[i]=y;intro gx;obtain⟨yk,yt,ye,ys⟩:=y;simp only[eF,eN,Ae]at gx ⊢;refine Aa gx ?_;simp only[Ae]
  cases WM (.mk xk xt xe xs) (.mk yk yt ye ys) with
  |false=>exact Bm rfl
  |true=>
   refine Af ?_;rw[Bn (by omega)];refine Aa ih ?_;rw[AvR]
   cases JP (ks.drop (i+1)) (js.drop (i+1))<;>rfl
theorem Aic{ks js:List Fm}(hs:ks.length<=1000000)(ht:js.length<=1000000)(g:∀ x∈ks,∀ y∈js,D.ask (.fn 233) [.agg (eF x),.agg (eF y)] []=V (bv (WM x y),[])):D.ask (.fn 255) [.ls (ks.map eF),.ls (js.map eF),.fn (.func 233) [] []] []=V (bv (decide (ks.length=js.length)&&JP ks js),[]):=by
 refine Aq Kl Vb (At0 ..) ?_;rw[Aj,Aj]
 by_cases hl:ks.length=js.length
 .refine Aw ?_
  have gl:=Aib Kl hl hs g _ 0 rfl (by omega);rw[κ,κ]at gl;refine Aa gl ?_;rw[Ba hl,AvR]
  cases JP ks js<;>rfl
 .refine Ap ?_
  rw[Bu hl,Bool.false_and]
include Kt Ks Z C Ko
theorem Aa4{n k:Nat}(hn:n<=M)(hk:k+n<=900000000):∀(N:Nat) (X Y:Fm),SizeOf.sizeOf X<N->FB n k X->FB n k Y->CanF X->CanF Y->∀ x y:Fm,D.ask (.fn 175) [.agg (eF x)] []=V (.agg (eF X),[])->D.ask (.fn 175) [.agg (eF y)] []=V (.agg (eF Y),[])->D.ask (.fn 233) [.agg (eF x),.agg (eF y)] []=V (bv (WM X Y),[]):=by
 intro N
 induction N with
 |zero=>intro x y h;omega
 |succ N ih=>
  intro X Y hN fx fy cx cy x y g1 g2;have bx:=fx.kids;have bY:=fy.kids;have kx:=cx.kids;have ky:=cy.kids;obtain⟨xk,xt,xe,xs⟩:=X;obtain⟨yk,yt,ye,ys⟩:=Y;simp only[Fm.kids,Fm.tm]at bx bY kx ky;have g3:=Ym Kt Ks Z C Kl bx.2.2 bY.2.2 hn hk xe ye;have gcl:∀ a,FB n k a->CanF a->D.ask (.fn 175) [.agg (eF a)] []=V (.agg (eF a),[]):=λa fa ca=>by
   have:=GV Kt Ks Z C Ko hn hk _ a (AvS _) fa
   rwa [ca.clone]at this
  have g4:=Aic Kl bx.1 bY.1 λa ha b hb=>ih a b (by have:=E0 (k:=xk) (t:=xt) (e:=xe) ha;omega) (bx.2.1 a ha) (bY.2.1 b hb) (kx a ha) (ky b hb) a b (gcl a (bx.2.1 a ha) (kx a ha)) (gcl b (bY.2.1 b hb) (ky b hb))
  obtain⟨ik,it,ie,is'⟩:=x;obtain⟨jk,jt,je,js⟩:=y;rw[Xt];simp only[eF,eN,B2]at g1 g2 ⊢;refine Aq Kl AlG (AtQ ..) ?_;refine Aa g1 ?_;simp only[Ae];refine Aa g2 ?_;simp only[Ae]
  by_cases h1:xk=yk
  .refine Aw ?_ h1
   rw[Ba h1,AvR]
   by_cases h2:xk=2
   .refine Aw ?_ h2
    refine Aa g3 ?_;simp only[Ae];rw[Ba h2,Bool.not_true,Bool.false_or]
    cases decide (SS xt.lf.pln yt.lf.pln xe ye=0) with
    |false=>exact Bm rfl
    |true=>
     refine Af ?_;refine Aa g4 ?_;simp only[Ae];rw[AvR]
     cases (decide (xs.length=ys.length)&&JP xs ys)<;>rfl
   .refine Ap ?_ h2
    refine Aa g4 ?_;simp only[Ae];rw[Bu h2,AyM,Bool.true_or,AvR]
    cases (decide (xs.length=ys.length)&&JP xs ys)<;>rfl
  .refine Ap ?_ h1
   rw[Bu h1];simp
theorem Aex{n k:Nat}(hn:n<=M)(hk:k+n<=900000000)(N:Nat)(x y:Fm)(hN:SizeOf.sizeOf x<N)(fx:FB n k x)(fy:FB n k y)(cx:CanF x)(cy:CanF y):D.ask (.fn 233) [.agg (eF x),.agg (eF y)] []=V (bv (WM x y),[]):=by
 have g1:=GV Kt Ks Z C Ko hn hk _ x (AvS _) fx;have g2:=GV Kt Ks Z C Ko hn hk _ y (AvS _) fy;rw[cx.clone]at g1;rw[cy.clone]at g2;exact Aa4 Kt Ks Z C Ko Kl hn hk N x y hN fx fy cx cy x y g1 g2
end
def Ob(m:Mo):Int:=if m.num=Ag [] then 1 else zv (E5 m.num).1
def Ew(m:Mo):Int:=if m.neg then -Ob m else Ob m
section
variable (vars:List ByteArray)
def EA:List Mo->Lf->Option Lf
 |[],out=>V out
 |m::r,out=>if m.var=Ag [] then EA r ⟨out.ps,out.k+Ew m⟩ else match vars.findIdx? (m.var = ·) with
  |none=>none
  |some v=>EA r ⟨out.ps++[((v:Int),Ew m)],out.k⟩
def CX(ms:List Mo):Lf × Bool:=if Ji ms then(match EA vars ms Nq with
 |some l=>(l.pln,U)
 |none=>(Nq,Θ)) else(Nq,Θ)
mutual
def Dv:Tr->Fm × Bool
 |.mk k l r op _ _ ks=>if k=2 then(MH op (CX vars l).1 (CX vars r).1,(CX vars l).2&&(CX vars r).2) else match CK ks with
  |none=>(kF 0 [],Θ)
  |some fs=>(if k=0 then Og U else if k=3\/k=4\/k=5 then kF k fs else Og Θ,U)
def CK:List Tr->Option (List Fm)
 |[]=>V []
 |x::r=>if(Dv x).2 then(match CK r with
  |none=>none
  |some fs=>V ((Dv x).1::fs)) else none
end
