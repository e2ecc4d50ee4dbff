/- What is known of zint's -/
import Derived.Test.YtlmhajfbpplpoaaGreatOBI
import Derived.Test.YtlmhajfbpplpoaaGreatOBC
set_option linter.all false
open Bool renaming not_false->AsJ,true_and->ApP
open Int renaming le_refl->Asb
open List renaming append_assoc->ApZ,append_nil->Aqx,cons_append->AqN,drop->Apx,drop_eq_getElem_cons->χ,drop_eq_nil_of_le->Apz,drop_of_length_le->Asc,drop_zero->π,ext_getElem?->Asw,filter_cons->AsD,findIdx_cons->Asx,flatten_cons->AqJ,foldl_cons->Arf,getElem?_drop->Aqv,getElem?_eq_getElem->Φ,getElem?_set_ne->Aqt,getElem?_set_self->AqA,getElem?_take->Ap2,getElem_mem->ApG,length_append->υ,length_cons->Apw,length_map->ApO,length_set->Ap0,length_singleton->Aqb,length_take->ApQ,map_cons->ApS,map_nil->Aq3,mem_cons_of_mem->ApM,mem_cons_self->ApK,mem_iff_getElem?->Asg,mem_map->AqH,nil_append->ApU,reverse_cons->Asz,singleton_append->Arh,take->ο,take_append->AsF,take_append_drop->Ash,take_of_length_le->AqB
open Nat renaming add_mul->Aqf,add_zero->Aqh,ble->ApA,ble_eq_true_of_le->Aqr,dvd_mul_left->ArZ,dvd_sub->AsC,dvd_zero->AsW,le_of_dvd->Asn,le_refl->ω,le_trans->Aqm,lt_succ_self->Aqe,min_eq_left->AqE,min_eq_right->Ar2,one_mul->ArK,strongRecOn->AqF,zero_add->ApN,zero_le->Aqk,zero_mul->AqV
namespace Go.Proofs.YtlmhajfbpplpoaaGreat
open ABlk renaming mk->Δ
open AV renaming tup->ψ
open BO renaming set->γ
open Go.RowKit
structure ZF (D:Orc):Prop where
 frm:∀ z:Zi,Lz 1000000000 z->D.ask (.fn 145) [bv z.neg,eN z.abs] []=some (.agg (eZ (AF (zv z))),[])
 neg:∀ z:Zi,Lz 1000000000 z->D.ask (.fn 86) [.agg (eZ z)] []=some (.agg (eZ (AF (-zv z))),[])
 sign:∀ z:Zi,Lz 1000000000 z->D.ask (.fn 158) [.agg (eZ z)] []=some (iv (Cw (zv z)),[])
 of_:∀ n:Int,-9223372036854775808<=n->n<9223372036854775808->D.ask (.fn 84) [iv n] []=some (.agg (eZ (AF n)),[])
 cmp:∀ a b:Zi,Lz 1000000000 a->Lz 1000000000 b->D.ask (.fn 285) [.agg (eZ a),.agg (eZ b)] []=some (iv (FJ (zv a) (zv b)),[])
 add:∀ a b:Zi,Lz 900000000 a->Lz 900000000 b->D.ask (.fn 87) [.agg (eZ a),.agg (eZ b)] []=some (.agg (eZ (AF (zv a+zv b))),[])
 mul:∀ a b:Zi,Lz 400000000 a->Lz 400000000 b->a.abs.length<24\/b.abs.length<24->D.ask (.fn 264) [.agg (eZ a),.agg (eZ b)] []=some (.agg (eZ (AF (zv a*zv b))),[])
 parse:∀ s:ByteArray,D.ask (.fn 85) [sv s] []=some (.tup [.agg (eZ (Ga s).1),iv (Ga s).2],[])
theorem AmJ{D:Orc}(K:Knows Al KD D)(Z:Knows Al Qh D)(C:CloneF D):ZF D where
 frm z h:=by
  have:=Fp K Z C z.neg h.lim (by unfold Cu;exact h.len);exact this
 neg z h:=Af1 K Z C h
 sign z h:=OO K Z C h
 of_ n h1 h2:=Akj K Z C n h1 h2
 cmp a b ha hb:=AfZ K Z C ha hb
 add a b ha hb:=AfY K Z C (ω _) ha hb
 mul a b ha hb h:=Af0 K Z C (ω _) (ω _) ha hb h
 parse s:=Y5 K Z C s
theorem WC(s:ByteArray):Lz 4000 (Ga s).1:=by
 unfold Ga;split
 .rename_i h
  have h1:=E1 (Ha s).1;have h2:=HY (Ha s).1;have:Lz 4000 ⟨(Ha s).2,(Hb (Ha s).1).1⟩:=⟨h1,h2⟩;exact this.inb.lz
 .exact⟨BM,by simp⟩
theorem Srt.same{l r:List Pt}{a b p q:Nat}(h:Srt Pt.v l p q)(hs:Same0 l r a b)(hd:q<=a\/b<=p):Srt Pt.v r p q:=by
 intro x y h1 h2 h3;rw[hs.kf Pt.v (by omega),hs.kf Pt.v (by omega)];exact h x y h1 h2 h3
def T4(q t:Nat)(l:List Pt):Prop:=∀ p,q ∣ p->p+q<=t->Srt Pt.v l p (p+q)
theorem Akw{a:Nat}(h:a<4611686018427387000):Af.add .i64 (a:Int) 20=((a+20:Nat):Int):=by
 rw[G7 (by omega) (by omega)];rfl
section
variable {D:Orc} (K:Knows Al Fb D)
include K
theorem Aka:∀(m a:Nat) (l:List Pt),l.length-a=m->a<=l.length->l.length<=1000000000->20 ∣ a->T4 20 a l->
  ∃(r:List Pt) (c:Nat),D.ask (.lp 206 0) [.sl 0 0 l.length 3,iv (l.length:Int),Fu,iv 20,iv (a:Int),iv ((a+20:Nat):Int)] [Δ (Ap eP l) true true]
   = some (.tup [iv 0,.sl 0 0 l.length 3,iv (l.length:Int),Fu,iv 20,iv (c:Int)],[.set (Δ (Ap eP r) true true)])
   ∧ r.length=l.length/\r.Perm l/\c<=l.length/\l.length<c+20/\20 ∣ c/\T4 20 c r:=by
 intro m
 induction m using AqF with
 |_ m ih=>
  intro a l hm ha hl hd hb
  by_cases h:a+20<=l.length
  .obtain⟨r,g,hr,hp,ho,hsm⟩:=Aa2 K (a:=a) (b:=a+20) (l:=l) (by omega) h hl
   have hb2:T4 20 (a+20) r:=λp h1 h2=>by
    by_cases hpa:p=a
    .subst hpa
     exact ho
    .exact(hb p h1 (by omega)).same hsm (.inl (by omega))
   obtain⟨r2,c,g2,hr2,hp2,h3,h4,h5,h6⟩:=ih (r.length-(a+20)) (by omega) (a+20) r rfl (by omega) (by omega) (by omega) hb2;rw[hr]at g2 h3 h4;refine⟨r2,c,?_,by omega,hp2.trans hp,h3,h4,h5,h6⟩;refine K.lp' G3 _ rfl (by kernel_rfl) ((Z7 ..).trans ?_);refine Cn (by omega) ?_;refine Ab g ?_;simp only[Fu,ND,DK,Aa];rw[Akw (by omega)];refine Ab g2 ?_;rfl
  .refine⟨l,a,?_,rfl,List.Perm.refl _,ha,by omega,hd,hb⟩
   refine K.lp' G3 _ rfl (by kernel_rfl) ((Z7 ..).trans ?_);exact Cv (by omega) rfl
omit K in
def M3(D:Orc):Prop:=∀(l:List Pt) (a m b:Nat),a<m->m<b->b<=l.length->l.length<=1000000000->Srt Pt.v l a m->Srt Pt.v l m b->
 ∃ r:List Pt,D.ask (.fn 243) [.sl 0 0 l.length 3,iv (a:Int),iv (m:Int),iv (b:Int),Fu] [Δ (Ap eP l) true true]=some (.tup [],[.set (Δ (Ap eP r) true true)])
  ∧ r.length=l.length/\r.Perm l/\Srt Pt.v r a b/\Same0 l r a b
def TlS(q a:Nat)(l:List Pt):Prop:=∀ j,Srt Pt.v l (a+j*q) (min (a+(j+1)*q) l.length)
theorem Akc(M:M3 D)(q:Nat)(hq:0<q)(hq2:q<=1000000000):∀(m a:Nat) (l:List Pt),l.length-a=m->a<=l.length->l.length<=1000000000->2*q ∣ a->T4 (2*q) a l->TlS q a l->
  ∃(r:List Pt) (c:Nat),D.ask (.lp 206 2) [.sl 0 0 l.length 3,iv (l.length:Int),Fu,iv (q:Int),iv (a:Int),iv ((a+2*q:Nat):Int)] [Δ (Ap eP l) true true]
   = some (.tup [iv 4,.sl 0 0 l.length 3,iv (l.length:Int),Fu,iv (q:Int),iv (c:Int)],[.set (Δ (Ap eP r) true true)])
   ∧ r.length=l.length/\r.Perm l/\c<=l.length/\l.length<c+2*q/\2*q ∣ c/\T4 (2*q) c r/\TlS q c r:=by
 intro m
 induction m using AqF with
 |_ m ih=>
  intro a l hm ha hl hd hb ht
  by_cases h:a+2*q<=l.length
  .have t0:=ht 0
   have t1:=ht 1;rw[AqV,Aqh,ApN,ArK,AqE (by omega)]at t0;rw[ArK,show (1+1)*q=2*q from rfl,AqE h]at t1;obtain⟨r,g,hr,hp,ho,hsm⟩:=M l a (a+q) (a+2*q) (by omega) (by omega) h hl t0 t1;have hb2:T4 (2*q) (a+2*q) r:=λp h1 h2=>by
    by_cases hpa:p=a
    .subst hpa
     exact ho
    .have:=Asn (by omega) (AsC hd h1)
     exact(hb p h1 (by omega)).same hsm (.inl (by omega))
   have ht2:TlS q (a+2*q) r:=λj=>by
    have:=ht (j+2);rw[show a+(j+2)*q=a+2*q+j*q by rw[Aqf];omega,show a+(j+2+1)*q=a+2*q+(j+1)*q by rw[Aqf,Aqf,Aqf];omega]at this;rw[hr];exact this.same hsm (.inr (by omega))
   obtain⟨r2,c,g2,hr2,hp2,h3,h4,h5,h6,h7⟩:=ih (r.length-(a+2*q)) (by omega) (a+2*q) r rfl (by omega) (by omega) (Nat.dvd_add hd (Nat.dvd_refl _)) hb2 ht2;rw[hr]at g2 h3 h4;refine⟨r2,c,?_,by omega,hp2.trans hp,h3,h4,h5,h6,h7⟩;refine K.lp' G3 _ rfl (by kernel_rfl) ((Z8 ..).trans ?_);refine Cn (by omega) ?_;rw[show Af.add .i64 (a:Int) (q:Int)=((a+q:Nat):Int) by rw[G7 (by omega) (by omega)];omega,
    show Af.mul .i64 2 (q:Int)=((2*q:Nat):Int) by
     show IntKind.i64.wrap (2*(q:Int))=_
     rw[IntKind.wrap_i64];omega,
    show Af.add .i64 ((a+2*q:Nat):Int) ((2*q:Nat):Int)=((a+2*q+2*q:Nat):Int) by rw[G7 (by omega) (by omega)];omega]
   refine Ab g ?_;simp only[Fu,ND,DK,Aa];refine Ab g2 ?_;rfl
  .refine⟨l,a,?_,rfl,List.Perm.refl _,ha,by omega,hd,hb,ht⟩
   refine K.lp' G3 _ rfl (by kernel_rfl) ((Z8 ..).trans ?_);exact Cv (by omega) rfl
omit K in
theorem VA{q c:Nat}{r:List Pt}(hq:0<q)(hd:q ∣ c)(hn:r.length<c+q)(hb:T4 q c r)(hs:Srt Pt.v r c r.length):TlS q 0 r:=λj=>by
 rw[ApN,ApN];have e:(j+1)*q=j*q+q:=by rw[Aqf];omega
 by_cases h1:j*q+q<=c
 .have:=hb (j*q) (ArZ q j) h1
  intro x y hx hxy hy;exact this x y hx hxy (by omega)
 .by_cases h2:j*q=c
  .intro x y hx hxy hy
   exact hs x y (by omega) hxy (by omega)
  .intro x y hx hxy hy
   exfalso
   by_cases h3:j*q<c
   .have:=Asn (by omega) (AsC hd (ArZ q j))
    omega
   .have:=Asn (by omega) (AsC (ArZ q j) hd)
    omega
theorem Akb(M:M3 D):∀(m q:Nat) (l:List Pt),l.length-q=m->0<q->q<=2000000000->l.length<=1000000000->TlS q 0 l->
  ∃ r:List Pt,D.ask (.lp 206 1) [.sl 0 0 l.length 3,iv (l.length:Int),Fu,iv (q:Int)] [Δ (Ap eP l) true true]
   = some (.tup [iv 2,.sl 0 0 l.length 3],[.set (Δ (Ap eP r) true true)])
   ∧ r.length=l.length/\r.Perm l/\Srt Pt.v r 0 r.length:=by
 intro m
 induction m using AqF with
 |_ m ih=>
  intro q l hm hq hq2 hl ht
  by_cases h:q<l.length
  .obtain⟨r,c,g,hr,hp,hc,hn,hd,hb,ht2⟩:=Akc K M q hq (by omega) _ 0 l rfl (by omega) hl (AsW _) (λp _ h2=>by omega) ht
   have t0:=ht2 0;have t1:=ht2 1;rw[AqV,Aqh,ApN,ArK]at t0;rw[ArK,show (1+1)*q=2*q from rfl,Ar2 (by omega)]at t1;rw[ApN]at g;have emul:Af.mul .i64 2 (q:Int)=((2*q:Nat):Int):=by
    show IntKind.i64.wrap (2*(q:Int))=_
    rw[IntKind.wrap_i64];omega
   have emul2:Af.mul .i64 (q:Int) 2=((2*q:Nat):Int):=by
    show IntKind.i64.wrap ((q:Int)*2)=_
    rw[IntKind.wrap_i64];omega
   have eadd:Af.add .i64 (c:Int) (q:Int)=((c+q:Nat):Int):=by rw[G7 (by omega) (by omega)];omega
   by_cases h2:c+q<l.length
   .rw[AqE (by omega)]at t0
    obtain⟨r3,g3,hr3,hp3,ho3,hsm⟩:=M r c (c+q) r.length (by omega) (by omega) (ω _) (by omega) t0 t1;have ht3:TlS (2*q) 0 r3:=VA (by omega) hd (by omega) (λp h1 h2=>(hb p h1 h2).same hsm (.inl (by omega))) (by rw[hr3];exact ho3);obtain⟨r4,g4,hr4,hp4,ho4⟩:=ih (r3.length-2*q) (by omega) (2*q) r3 rfl (by omega) (by omega) (by omega) ht3;rw[hr]at g3 hr3;rw[hr3]at g4 hr4;refine⟨r4,?_,hr4,hp4.trans (hp3.trans hp),ho4⟩;refine K.lp' G3 _ rfl (by kernel_rfl) ((Us ..).trans ?_);refine Ai (by omega) ?_;rw[emul];refine Ab g ?_;simp only[Fu,ND,DK,Aa];refine Ac ?_;rw[eadd,emul2];refine Ai (by omega) ?_;refine Ab g3 ?_;simp only[Fu,ND,DK,Aa];refine Ab g4 ?_;rfl
   .rw[Ar2 (by omega)]at t0
    have ht3:TlS (2*q) 0 r:=VA (by omega) hd (by omega) hb t0;obtain⟨r4,g4,hr4,hp4,ho4⟩:=ih (r.length-2*q) (by omega) (2*q) r rfl (by omega) (by omega) (by omega) ht3;rw[hr]at g4 hr4;refine⟨r4,?_,hr4,hp4.trans hp,ho4⟩;refine K.lp' G3 _ rfl (by kernel_rfl) ((Us ..).trans ?_);refine Ai (by omega) ?_;rw[emul];refine Ab g ?_;simp only[Fu,ND,DK,Aa];refine Ac ?_;rw[eadd,emul2];refine Ah (by omega) ?_;refine Ab g4 ?_;rfl
  .refine⟨l,?_,rfl,List.Perm.refl _,?_⟩
   .refine K.lp' G3 _ rfl (by kernel_rfl) ((Us ..).trans ?_)
    exact Ah (by omega) rfl
   .have t0:=ht 0
    rw[AqV,ApN,ApN,ArK,Ar2 (by omega)]at t0;exact t0
theorem YI(M:M3 D){l:List Pt}(hl:l.length<=1000000000) :
  ∃ r:List Pt,D.ask (.fn 206) [.sl 0 0 l.length 3,iv (l.length:Int),Fu] [Δ (Ap eP l) true true]=some (.tup [],[.set (Δ (Ap eP r) true true)])
   ∧ r.length=l.length/\r.Perm l/\Srt Pt.v r 0 r.length:=by
 obtain⟨r,c,g,hr,hp,hc,hn,hd,hb⟩:=Aka K _ 0 l rfl (by omega) hl (AsW _) (λp _ h2=>by omega);obtain⟨r2,g2,hr2,hp2,ho2,hsm⟩:=Aa2 K (a:=c) (b:=r.length) (l:=r) (by omega) (ω _) (by omega);have ht:TlS 20 0 r2:=VA (by omega) hd (by omega) (λp h1 h2=>(hb p h1 h2).same hsm (.inl (by omega))) (by rw[hr2];exact ho2);obtain⟨r3,g3,hr3,hp3,ho3⟩:=Akb K M _ 20 r2 rfl (by omega) (by omega) (by omega) ht;rw[hr]at g2 hr2;rw[hr2]at g3 hr3;refine⟨r3,?_,hr3,hp3.trans (hp2.trans hp),ho3⟩;refine K.fn' G3 _ rfl ((AnR ..).trans ?_);refine Ab g ?_;simp only[Fu,ND,DK,Aa];refine Ab g2 ?_;simp only[Fu,ND,DK,Aa];refine Ab g3 ?_;rfl
theorem Afy(M:M3 D){l:List Pt}(hl:l.length<=1000000000) :
  ∃ r:List Pt,D.ask (.fn 152) [.sl 0 0 l.length 3,Fu] [Δ (Ap eP l) true true]=some (.tup [],[.set (Δ (Ap eP r) true true)])
   ∧ r.length=l.length/\r.Perm l/\Srt Pt.v r 0 r.length:=by
 obtain⟨r,g,h⟩:=YI K M hl;refine⟨r,?_,h⟩;refine K.fn' AgI _ rfl ((Ano ..).trans ?_);refine Ab g ?_;rfl
end
section
variable {α:Type} (key:α->Int)
structure Rot (l r:List α) (a m b:Nat):Prop where
 out:∀ p,p<a\/b<=p->r[p]? = l[p]?
 low:∀ p,a<=p->p<a+(b-m)->r[p]? = l[p+(m-a)]?
 high:∀ p,a+(b-m)<=p->p<b->r[p]? = l[p-(b-m)]?
structure SwR (l r:List α) (a b n:Nat):Prop where
 out:∀ p,p<a\/(a+n<=p/\p<b)\/b+n<=p->r[p]? = l[p]?
 low:∀ p,a<=p->p<a+n->r[p]? = l[p+(b-a)]?
 high:∀ p,b<=p->p<b+n->r[p]? = l[p-(b-a)]?
theorem Co{l:List α}{i j:Nat}(h:i=j):l[i]? = l[j]?:=by rw[h]
theorem Ab5{c d r:List α}{i j m:Nat}(h0:i<=m)(h:j<i)(s:SwR c d (m-i) m j)(t:Rot d r (m-(i-j)) m (m+j)):Rot c r (m-i) m (m+j):=by
 refine⟨λp hp=>?_,λp h1 h2=>?_,λp h1 h2=>?_⟩
 .rw[t.out p (by omega),s.out p (by omega)]
 .rw[t.out p (by omega),s.low p (by omega) (by omega)]
 .by_cases h3:p<m-(i-j)+j
  .rw[t.low p (by omega) (by omega),s.high _ (by omega) (by omega)]
   exact Co (by omega)
  .rw[t.high p (by omega) (by omega),s.out _ (by omega)]
theorem Ys{c d r:List α}{i j m:Nat}(h0:i<=m)(h:i<j)(s:SwR c d (m-i) (m+j-i) i)(t:Rot d r (m-i) m (m+(j-i))):Rot c r (m-i) m (m+j):=by
 refine⟨λp hp=>?_,λp h1 h2=>?_,λp h1 h2=>?_⟩
 .rw[t.out p (by omega),s.out p (by omega)]
 .by_cases h3:p<m-i+(j-i)
  .rw[t.low p (by omega) (by omega),s.out _ (by omega)]
  .rw[t.high p (by omega) (by omega),s.low _ (by omega) (by omega)]
   exact Co (by omega)
 .rw[t.out p (by omega),s.high p (by omega) (by omega)]
  exact Co (by omega)
theorem Ab7{c r:List α}{i m:Nat}(h0:i<=m)(s:SwR c r (m-i) m i):Rot c r (m-i) m (m+i):=by
 refine⟨λp hp=>?_,λp h1 h2=>?_,λp h1 h2=>?_⟩
 .rw[s.out p (by omega)]
 .rw[s.low p (by omega) (by omega)]
 .rw[s.high p (by omega) (by omega)]
  exact Co (by omega)
theorem Gf{l:List α}{a m b:Nat}(h:a=m\/m=b)(ha:a<=m)(hb:m<=b):Rot l l a m b:=by
 refine⟨λp hp=>rfl,λp h1 h2=>Co (by omega),λp h1 h2=>Co (by omega)⟩
theorem Acx{l r:List α}{a b n:Nat}(hab:a+n<b)(hb:b+n<l.length)(s:SwR l r a b n)(hr:r.length=l.length):SwR l (C6 r (a+n) (b+n)) a b (n+1):=by
 have ha:a+n<r.length:=by omega
 have hb2:b+n<r.length:=by omega
 have e1:∀ p,(C6 r (a+n) (b+n))[p]? = if p=a+n then r[b+n]? else if p=b+n then r[a+n]? else r[p]?:=λp=>by
  rw[DM ha hb2]
  by_cases h1:p=b+n
  .subst h1
   rw[if_neg (by omega),if_pos rfl,AqA (by simpa using hb2),Φ ha]
  .rw[Aqt (λe=>h1 e.symm)]
   by_cases h2:p=a+n
   .subst h2
    rw[if_pos rfl,AqA ha,Φ hb2]
   .rw[if_neg h2,if_neg h1,Aqt (λe=>h2 e.symm)]
 refine⟨λp hp=>?_,λp h1 h2=>?_,λp h1 h2=>?_⟩
 .rw[e1,if_neg (by omega),if_neg (by omega),s.out p (by omega)]
 .rw[e1]
  by_cases h:p=a+n
  .rw[if_pos h,s.out _ (by omega)]
   exact Co (by omega)
  .rw[if_neg h,if_neg (by omega),s.low p h1 (by omega)]
 .rw[e1]
  by_cases h:p=b+n
  .rw[if_neg (by omega),if_pos h,s.out _ (by omega)]
   exact Co (by omega)
  .rw[if_neg (by omega),if_neg h,s.high p h1 (by omega)]
theorem Acy(l:List α)(a b:Nat):SwR l l a b 0:=⟨λ_ _=>rfl,λ_ h1 h2=>by omega,λ_ h1 h2=>by omega⟩
theorem Ht{l r:List α}{p q:Nat}(h:r[p]? = l[q]?):kf key r p=kf key l q:=by
 unfold kf;rw[h]
theorem Rot.kout{l r:List α}{a m b p:Nat}(h:Rot l r a m b)(hp:p<a\/b<=p):kf key r p=kf key l p:=Ht key (h.out p hp)
theorem Rot.klow{l r:List α}{a m b p:Nat}(h:Rot l r a m b)(h1:a<=p)(h2:p<a+(b-m)):kf key r p=kf key l (p+(m-a)):=Ht key (h.low p h1 h2)
theorem Rot.khigh{l r:List α}{a m b p:Nat}(h:Rot l r a m b)(h1:a+(b-m)<=p)(h2:p<b):kf key r p=kf key l (p-(b-m)):=Ht key (h.high p h1 h2)
theorem SY{l r:List α}{a b i:Nat}(hi:a+1<=i)(hib:i<=b)(hs:Srt key l (a+1) b)(h1:∀ p,a+1<=p->p<i->kf key l p<kf key l a)(h2:∀ p,i<=p->p<b->kf key l a<=kf key l p)(t:Rot l r a (a+1) i):Srt key r a b:=by
 intro p q hp hpq hq
 by_cases q1:q<i-1
 .rw[t.klow key (by omega) (by omega),t.klow key (by omega) (by omega)]
  exact hs _ _ (by omega) (by omega) (by omega)
 .by_cases q2:q=i-1
  .rw[t.klow key (by omega) (by omega),t.khigh key (by omega) (by omega),show q-(i-(a+1))=a by omega]
   have:=h1 (p+(a+1-a)) (by omega) (by omega);omega
  .rw[t.kout key (p:=q) (by omega)]
   by_cases p1:p<i-1
   .rw[t.klow key (by omega) (by omega)]
    exact hs _ _ (by omega) (by omega) (by omega)
   .by_cases p2:p=i-1
    .rw[t.khigh key (by omega) (by omega),show p-(i-(a+1))=a by omega]
     exact h2 q (by omega) hq
    .rw[t.kout key (by omega)]
     exact hs _ _ (by omega) (by omega) (by omega)
theorem U5{l r:List α}{a m i:Nat}(hi:a<=i)(him:i<=m)(hs:Srt key l a m)(h1:∀ p,a<=p->p<i->kf key l p<=kf key l m)(h2:∀ p,i<=p->p<m->kf key l m<kf key l p)(t:Rot l r i m (m+1)):Srt key r a (m+1):=by
 intro p q hp hpq hq
 by_cases p1:p<i
 .rw[t.kout key (p:=p) (by omega)]
  by_cases q1:q<i
  .rw[t.kout key (by omega)]
   exact hs _ _ (by omega) (by omega) (by omega)
  .by_cases q2:q=i
   .rw[t.klow key (by omega) (by omega),show q+(m-i)=m by omega]
    exact h1 p hp p1
   .rw[t.khigh key (by omega) (by omega)]
    exact hs _ _ (by omega) (by omega) (by omega)
 .rw[t.khigh key (p:=q) (by omega) (by omega)]
  by_cases p2:p=i
  .rw[t.klow key (by omega) (by omega),show p+(m-i)=m by omega]
   have:=h2 (q-(m+1-m)) (by omega) (by omega);omega
  .rw[t.khigh key (by omega) (by omega)]
   exact hs _ _ (by omega) (by omega) (by omega)
def Low(l:List α)(a m b:Nat):Prop:=∀ p q,a<=p->p<m->m<=q->q<b->kf key l p<=kf key l q
theorem Afz{l:List α}{a m b:Nat}(h1:Srt key l a m)(h2:Srt key l m b)(h3:Low key l a m b):Srt key l a b:=by
 intro p q hp hpq hq
 by_cases c:q<m
 .exact h1 p q hp hpq c
 .by_cases d:p<m
  .exact h3 p q hp d (by omega) hq
  .exact h2 p q (by omega) hpq hq
structure CutAt (l:List α) (a m b mid s e:Nat):Prop where
 asl:a<=s
 sm:s<=m
 me:m<=e
 eb:e<=b
 mid:s+(e-m)=mid
 up:∀ p q,a<=p->p<s->e<=q->q<b->kf key l p<=kf key l q
 dn:∀ p q,m<=p->p<e->s<=q->q<m->kf key l p<=kf key l q
theorem EJ{l r:List α}{a m b mid s e:Nat}(c:CutAt key l a m b mid s e)(h1:Srt key l a m)(h2:Srt key l m b)(t:Rot l r s m e) :
  Srt key r a s/\Srt key r s mid/\Srt key r mid e/\Srt key r e b/\Low key r a mid b:=by
 have:=c.asl;have:=c.sm;have:=c.me;have:=c.eb;have:=c.mid;refine⟨λp q x y z=>?_,λp q x y z=>?_,λp q x y z=>?_,λp q x y z=>?_,λp q x y z w=>?_⟩
 .rw[t.kout key (by omega),t.kout key (by omega)]
  exact h1 _ _ (by omega) (by omega) (by omega)
 .rw[t.klow key (by omega) (by omega),t.klow key (by omega) (by omega)]
  exact h2 _ _ (by omega) (by omega) (by omega)
 .rw[t.khigh key (by omega) (by omega),t.khigh key (by omega) (by omega)]
  exact h1 _ _ (by omega) (by omega) (by omega)
 .rw[t.kout key (by omega),t.kout key (by omega)]
  exact h2 _ _ (by omega) (by omega) (by omega)
 .by_cases p1:p<s
  .rw[t.kout key (p:=p) (by omega)]
   by_cases q1:q<e
   .rw[t.khigh key (by omega) (by omega)]
    exact h1 _ _ (by omega) (by omega) (by omega)
   .rw[t.kout key (by omega)]
    exact c.up _ _ (by omega) (by omega) (by omega) (by omega)
  .rw[t.klow key (p:=p) (by omega) (by omega)]
   by_cases q1:q<e
   .rw[t.khigh key (by omega) (by omega)]
    exact c.dn _ _ (by omega) (by omega) (by omega) (by omega)
   .rw[t.kout key (by omega)]
    exact h2 _ _ (by omega) (by omega) (by omega)
theorem Ww{l r:List α}{a b:Nat}(hp:r.Perm l)(hs:Same0 l r a b){p:Nat}(h1:a<=p)(h2:p<b)(hb:b<=l.length):∃ q,a<=q/\q<b/\r[p]? = l[q]?:=by
 have hlen:=hp.length_eq;have ht:r.take a=l.take a:=by
  apply Asw;intro i;rw[Ap2,Ap2];split
  .exact hs i (by omega)
  .rfl
 have hd:r.drop b=l.drop b:=by
  apply Asw;intro i;rw[Aqv,Aqv];exact hs _ (by omega)
 have er:∀ x:List α,b<=x.length->x=x.take a++((x.drop a).take (b-a)++x.drop b):=λx hx=>by
  have e1:=(Ash a x).symm;have e2:=(Ash (b-a) (x.drop a)).symm;rw[List.drop_drop,show a+(b-a)=b by omega]at e2;rw[←e2];exact e1
 have hp2:(r.take a++((r.drop a).take (b-a)++r.drop b)).Perm (l.take a++((l.drop a).take (b-a)++l.drop b)):=by
  rw[←er r (by omega),←er l hb];exact hp
 rw[ht,hd]at hp2;have hp3:=(List.perm_append_right_iff _).1 ((List.perm_append_left_iff _).1 hp2);have hpr:p<r.length:=by omega
 have hm:r[p]∈(r.drop a).take (b-a):=by
  rw[Asg];refine⟨p-a,?_⟩;rw[Ap2,if_pos (by omega),Aqv,show a+(p-a)=p by omega,Φ hpr]
 have hm2:=hp3.mem_iff.1 hm;rw[Asg]at hm2;obtain⟨i,hi⟩:=hm2;rw[Ap2]at hi;split at hi
 .rename_i hib
  rw[Aqv]at hi;exact⟨a+i,by omega,by omega,by rw[hi,Φ hpr]⟩
 .cases hi
theorem Abl{l r:List α}{a m b:Nat}(h:Low key l a m b)(hp:r.Perm l)(hs:Same0 l r a m)(hb:m<=l.length):Low key r a m b:=by
 intro p q x y z w;obtain⟨p2,h1,h2,h3⟩:=Ww hp hs x y hb;rw[Ht key h3,hs.kf key (by omega)];exact h p2 q h1 h2 z w
theorem X4{l r:List α}{a m b:Nat}(h:Low key l a m b)(hp:r.Perm l)(hs:Same0 l r m b)(hb:b<=l.length):Low key r a m b:=by
 intro p q x y z w;obtain⟨q2,h1,h2,h3⟩:=Ww hp hs z w hb;rw[Ht key h3,hs.kf key (by omega)];exact h p q2 x y h1 h2
theorem Srt.same'{l r:List α}{a b p q:Nat}(h:Srt key l p q)(hs:Same0 l r a b)(hd:q<=a\/b<=p):Srt key r p q:=by
 intro x y h1 h2 h3;rw[hs.kf key (by omega),hs.kf key (by omega)];exact h x y h1 h2 h3
theorem KA{l:List α}{a s m:Nat}(h:s=a\/s=m)(h1:Srt key l a s)(h2:Srt key l s m):Srt key l a m:=by
 rcases h with rfl|rfl
 .exact h2
 .exact h1
structure Bs (l:List α) (n x y s r:Nat):Prop where
 xs:x<=s
 sr:s<=r
 ry:r<=y
 lo:∀ c,x<=c->c<s->kf key l c<=kf key l (n-1-c)
 hi:∀ c,r<=c->c<y->kf key l (n-1-c)<kf key l c
section
variable {l:List α} {n x y s r a m b:Nat}
theorem Bs.up(B:Bs key l n x y s r)(h1:Srt key l a m)(h2:Srt key l m b)(hx:a<=x)(hy:y<=m)(hn:n<=x+b)(hm:m+y<=n){c:Nat}(hc:s<=c)(hr:c<r)(h:kf key l c<=kf key l (n-1-c)):Bs key l n x y (c+1) r:=by
 have:=B.xs;have:=B.sr;have:=B.ry;refine⟨by omega,by omega,B.ry,λd hd1 hd2=>?_,B.hi⟩
 by_cases hdc:d=c
 .rw[hdc];exact h
 .have e1:=h1 d c (by omega) (by omega) (by omega)
  have e2:=h2 (n-1-c) (n-1-d) (by omega) (by omega) (by omega);omega
theorem Bs.dn(B:Bs key l n x y s r)(h1:Srt key l a m)(h2:Srt key l m b)(hx:a<=x)(hy:y<=m)(hn:n<=x+b)(hm:m+y<=n){c:Nat}(hc:s<=c)(hr:c<r)(h:kf key l (n-1-c)<kf key l c):Bs key l n x y s c:=by
 have:=B.xs;have:=B.sr;have:=B.ry;refine⟨B.xs,hc,by omega,B.lo,λd hd1 hd2=>?_⟩
 by_cases hdc:d=c
 .rw[hdc];exact h
 .have e1:=h1 c d (by omega) (by omega) (by omega)
  have e2:=h2 (n-1-d) (n-1-c) (by omega) (by omega) (by omega);omega
theorem Bs.cut{mid:Nat}(B:Bs key l (mid+m) x y s s)(h1:Srt key l a m)(h2:Srt key l m b)(hx:a<=x)(hy:y<=m)(hn:mid+m<=x+b)(hm:y<=mid)(cx:x=a\/mid+m=x+b)(cy:y=m\/y=mid):CutAt key l a m b mid s (mid+m-s):=by
 have:=B.xs;have:=B.ry;refine⟨by omega,by omega,by omega,by omega,by omega,λp q c1 c2 c3 c4=>?_,λp q c1 c2 c3 c4=>?_⟩
 .have hs:x<s:=by omega
  have e:=B.lo (s-1) (by omega) (by omega);rw[show mid+m-1-(s-1)=mid+m-s by omega]at e;have e1:kf key l p<=kf key l (s-1):=by
   by_cases h:p=s-1
   .rw[h];exact Asb _
   .exact h1 _ _ (by omega) (by omega) (by omega)
  have e2:kf key l (mid+m-s)<=kf key l q:=by
   by_cases h:q=mid+m-s
   .rw[h];exact Asb _
   .exact h2 _ _ (by omega) (by omega) (by omega)
  omega
 .have hs:s<y:=by omega
  have e:=B.hi s (by omega) (by omega);have e1:kf key l p<=kf key l (mid+m-1-s):=by
   by_cases h:p=mid+m-1-s
   .rw[h];exact Asb _
   .exact h2 _ _ (by omega) (by omega) (by omega)
  have e2:kf key l s<=kf key l q:=by
   by_cases h:q=s
   .rw[h];exact Asb _
   .exact h1 _ _ (by omega) (by omega) (by omega)
  omega
end
theorem Aj7{l r:List α}{a k:Nat}(h:a<=k)(hk:k+1<l.length)(hr:r.length=l.length)(t:Rot l r a (a+1) (k+1)):Rot l (C6 r k (k+1)) a (a+1) (k+2):=by
 have e1:∀ p,(C6 r k (k+1))[p]? = if p=k then r[k+1]? else if p=k+1 then r[k]? else r[p]?:=λp=>by
  rw[DM (by omega) (by omega)]
  by_cases h1:p=k+1
  .subst h1
   rw[if_neg (by omega),if_pos rfl,AqA (by rw[Ap0];omega),Φ (by omega)]
  .rw[Aqt (λe=>h1 e.symm)]
   by_cases h2:p=k
   .subst h2
    rw[if_pos rfl,AqA (by omega),Φ (by omega)]
   .rw[if_neg h2,if_neg h1,Aqt (λe=>h2 e.symm)]
 refine⟨λp hp=>?_,λp h1 h2=>?_,λp h1 h2=>?_⟩
 .rw[e1,if_neg (by omega),if_neg (by omega),t.out p (by omega)]
 .rw[e1]
  by_cases h:p=k
  .rw[if_pos h,t.out _ (by omega)]
   exact Co (by omega)
  .rw[if_neg h,if_neg (by omega),t.low p h1 (by omega)]
 .rw[e1,if_neg (by omega),if_pos (by omega),t.high k (by omega) (by omega)]
  exact Co (by omega)
theorem Ab4{l r:List α}{m k:Nat}(h:k<m)(hk:m<l.length)(hr:r.length=l.length)(t:Rot l r (k+1) m (m+1)):Rot l (C6 r (k+1) k) k m (m+1):=by
 have e1:∀ p,(C6 r (k+1) k)[p]? = if p=k then r[k+1]? else if p=k+1 then r[k]? else r[p]?:=λp=>by
  rw[DM (by omega) (by omega)]
  by_cases h1:p=k
  .subst h1
   rw[if_pos rfl,AqA (by rw[Ap0];omega),Φ (by omega)]
  .rw[if_neg h1,Aqt (λe=>h1 e.symm)]
   by_cases h2:p=k+1
   .subst h2
    rw[if_pos rfl,AqA (by omega),Φ (by omega)]
   .rw[if_neg h2,Aqt (λe=>h2 e.symm)]
 refine⟨λp hp=>?_,λp h1 h2=>?_,λp h1 h2=>?_⟩
 .rw[e1,if_neg (by omega),if_neg (by omega),t.out p (by omega)]
 .rw[e1,if_pos (by omega),t.low (k+1) (by omega) (by omega)]
  exact Co (by omega)
 .rw[e1,if_neg (by omega)]
  by_cases h:p=k+1
  .rw[if_pos h,t.out _ (by omega)]
   exact Co (by omega)
  .rw[if_neg h,t.high p (by omega) (by omega)]
end
theorem Dk{a b:Nat}(h:a+b<4611686018427387904):Af.conv .i64 (Af.shr .u64 (Af.conv .u64 (Af.add .i64 (a:Int) (b:Int))) 1)=(((a+b) / 2:Nat):Int):=by
 rw[G7 (by omega) (by omega),show (a:Int)+(b:Int)=((a+b:Nat):Int) by omega,BR (by omega)];have:Af.shr .u64 ((a+b:Nat):Int) 1=(((a+b) / 2:Nat):Int):=by
  show Int.fdiv ((a+b:Nat):Int) (2 ^ 1)=_
  have:(2 ^ 1:Int)=((2:Nat):Int):=by decide
  rw[this,Int.fdiv_eq_ediv_of_nonneg _ (by omega)];rfl
 rw[this]
 show IntKind.i64.wrap (((a+b) / 2:Nat):Int)=_
 rw[IntKind.wrap_i64];omega
theorem JK{a b:Nat}(h:a+b<4611686018427387904):Af.add .i64 (a:Int) (b:Int)=((a+b:Nat):Int):=by
 rw[G7 (by omega) (by omega)];omega
theorem Cm{a b:Nat}(hb:b<=a)(h:a<4611686018427387904):Af.sub .i64 (a:Int) (b:Int)=((a-b:Nat):Int):=by
 rw[Gb (by omega) (by omega)];omega
theorem If{a:Nat}(hb:1<=a)(h:a<4611686018427387904):Af.sub .i64 (a:Int) 1=((a-1:Nat):Int):=by
 rw[Gb (by omega) (by omega)];omega
abbrev G9(l:List Pt):ABlk:=Δ (Ap eP l) true true
section
variable {D:Orc} (K:Knows Al Fb D)
include K
theorem Akd(a b n:Nat)(l0:List Pt):∀(m i:Nat) (l:List Pt),n-i=m->i<=n->a+n<=b->b+n<=l.length->l.length<=1000000000->l.length=l0.length->SwR l0 l a b i->
  ∃ r:List Pt,D.ask (.lp 273 0) [.sl 0 0 l.length 3,iv (a:Int),iv (b:Int),iv (n:Int),iv (i:Int)] [G9 l]=some (.tup [iv 0,.sl 0 0 l.length 3],[.set (G9 r)])
   ∧ r.length=l.length/\r.Perm l/\SwR l0 r a b n:=by
 intro m
 induction m with
 |zero=>
  intro i l hm hi ha hb hl h0 hs;obtain rfl:i=n:=by omega
  refine⟨l,?_,rfl,List.Perm.refl _,hs⟩;refine K.lp' SE _ rfl (by kernel_rfl) ((Aaj ..).trans ?_);exact Ah (by omega) rfl
 |succ m ih=>
  intro i l hm hi ha hb hl h0 hs;have hI:a+i<l.length:=by omega
  have hJ:b+i<l.length:=by omega
  have hlen:=IJ l (a+i) (b+i);obtain⟨r,g,hr,hp,ho⟩:=ih (i+1) (C6 l (a+i) (b+i)) (by omega) (by omega) ha (by omega) (by omega) (by omega) (Acx (by omega) (by omega) hs h0);rw[hlen]at g hr;refine⟨r,?_,hr,hp.trans (GW _ _ _),ho⟩;refine K.lp' SE _ rfl (by kernel_rfl) ((Aaj ..).trans ?_);refine Ai (by omega) ?_;rw[JK (a:=b) (b:=i) (by omega),JK (a:=a) (b:=i) (by omega),A8 (by omega)];rw[Aw,A0 hJ];refine Ac ?_;refine(Bn Az l (b+i) hJ _).trans ?_;simp only[eP,eN,ND,DK,Aa];rw[Aw,A0 hI];refine Ac ?_;refine(Bn Az l (a+i) hI _).trans ?_;simp only[eP,eN,ND,DK,Aa];have s1:=CJ Az l (a+i) hI l[(b+i)];have s2:=CJ Az (l.set (a+i) l[(b+i)]) (b+i) (by rw[Ap0];exact hJ) l[(a+i)];rw[←DM hI hJ]at s2;simp only[eP,eN]at s1 s2;rw[Aw,A0 hI];refine Ac ?_;rw[show ApA (0+(a+i)*3+3) (Ap eP l).length=true by rw[Bq Az];simp;omega];refine Ac ?_;rw[Aw,A0 hJ];refine Ac ?_;rw[s1,s2];rw[show ApA (0+(b+i)*3+3) (Ap eP (l.set (a+i) l[(b+i)])).length=true by rw[Bq Az,Ap0];simp;omega];refine Ac ?_;refine Ab g ?_;rfl
theorem Vz{a b n:Nat}{l:List Pt}(ha:a+n<=b)(hb:b+n<=l.length)(hl:l.length<=1000000000) :
  ∃ r:List Pt,D.ask (.fn 273) [.sl 0 0 l.length 3,iv (a:Int),iv (b:Int),iv (n:Int),Fu] [G9 l]=some (.tup [],[.set (G9 r)])
   ∧ r.length=l.length/\r.Perm l/\SwR l r a b n:=by
 obtain⟨r,g,h⟩:=Akd K a b n l _ 0 l rfl (by omega) ha hb hl rfl (Acy l a b);refine⟨r,?_,h⟩;refine K.fn' SE _ rfl ((Aog ..).trans ?_);refine Ab g ?_;rfl
theorem Aj6(m:Nat):∀(s i j:Nat) (l:List Pt),i+j=s->0<i->0<j->i<=m->m+j<=l.length->l.length<=1000000000->
  ∃(r:List Pt) (d:Nat),D.ask (.lp 260 0) [.sl 0 0 l.length 3,iv (m:Int),Fu,iv (i:Int),iv (j:Int)] [G9 l]=some (.tup [iv 0,.sl 0 0 l.length 3,iv (m:Int),Fu,iv (d:Int)],[.set (G9 r)])
   ∧ r.length=l.length/\r.Perm l/\d<=m/\m+d<=l.length/\∀ r2:List Pt,SwR r r2 (m-d) m d->Rot l r2 (m-i) m (m+j):=by
 intro s
 induction s using AqF with
 |_ s ih=>
  intro i j l hs hi hj him hl hn
  by_cases he:i=j
  .subst he
   refine⟨l,i,?_,rfl,List.Perm.refl _,him,hl,λr2 h=>Ab7 him h⟩;refine K.lp' PF _ rfl (by kernel_rfl) ((Uy ..).trans ?_);exact Av rfl rfl
  by_cases hlt:j<i
  .obtain⟨r,g,hr,hp,hsw⟩:=Vz K (a:=m-i) (b:=m) (n:=j) (l:=l) (by omega) hl hn
   obtain⟨r2,d,g2,hr2,hp2,hd1,hd2,hd3⟩:=ih (i-j+j) (by omega) (i-j) j r rfl (by omega) hj (by omega) (by omega) (by omega);rw[hr]at g2 hr2 hd2;refine⟨r2,d,?_,hr2,hp2.trans hp,hd1,hd2,λr3 h=>Ab5 him hlt hsw (hd3 r3 h)⟩;refine K.lp' PF _ rfl (by kernel_rfl) ((Uy ..).trans ?_);refine Am (by omega) ?_;refine Ai (by omega) ?_;rw[Cm him (by omega),Cm (a:=i) (b:=j) (by omega) (by omega)];refine Ab g ?_;simp only[Fu,ND,DK,Aa];refine Ab g2 ?_;rfl
  .obtain⟨r,g,hr,hp,hsw⟩:=Vz K (a:=m-i) (b:=m+j-i) (n:=i) (l:=l) (by omega) (by omega) hn
   obtain⟨r2,d,g2,hr2,hp2,hd1,hd2,hd3⟩:=ih (i+(j-i)) (by omega) i (j-i) r rfl hi (by omega) him (by omega) (by omega);rw[hr]at g2 hr2 hd2;refine⟨r2,d,?_,hr2,hp2.trans hp,hd1,hd2,λr3 h=>Ys him (by omega) hsw (hd3 r3 h)⟩;refine K.lp' PF _ rfl (by kernel_rfl) ((Uy ..).trans ?_);refine Am (by omega) ?_;refine Ah (by omega) ?_;rw[Cm him (by omega),JK (a:=m) (b:=j) (by omega),Cm (a:=m+j) (b:=i) (by omega) (by omega),Cm (a:=j) (b:=i) (by omega) (by omega)];refine Ab g ?_;simp only[Fu,ND,DK,Aa];refine Ab g2 ?_;rfl
theorem Ab6{a m b:Nat}{l:List Pt}(ha:a<m)(hm:m<b)(hb:b<=l.length)(hl:l.length<=1000000000) :
  ∃ r:List Pt,D.ask (.fn 260) [.sl 0 0 l.length 3,iv (a:Int),iv (m:Int),iv (b:Int),Fu] [G9 l]=some (.tup [],[.set (G9 r)])
   ∧ r.length=l.length/\r.Perm l/\Rot l r a m b:=by
 obtain⟨r,d,g,hr,hp,hd1,hd2,hd3⟩:=Aj6 K m _ (m-a) (b-m) l rfl (by omega) (by omega) (by omega) (by omega) hl;obtain⟨r2,g2,hr2,hp2,hsw⟩:=Vz K (a:=m-d) (b:=m) (n:=d) (l:=r) (by omega) (by omega) (by omega);have h:=hd3 r2 hsw;rw[show m-(m-a)=a by omega,show m+(b-m)=b by omega]at h;rw[hr]at g2;refine⟨r2,?_,by omega,hp2.trans hp,h⟩;refine K.fn' PF _ rfl ((Aod ..).trans ?_);rw[Cm (a:=m) (b:=a) (by omega) (by omega),Cm (a:=b) (b:=m) (by omega) (by omega)];refine Ab g ?_;simp only[Fu,ND,DK,Aa];rw[Cm hd1 (by omega)];refine Ab g2 ?_;rfl
theorem AfG(a m b:Nat)(l:List Pt)(hl:l.length<=1000000000)(ha:a<m)(hb:b<=l.length)(hs:Srt Pt.v l m b):∀(k i j:Nat),j-i=k->m<=i->i<=j->j<=b->(∀ p,m<=p->p<i->kf Pt.v l p<kf Pt.v l a)->(∀ p,j<=p->p<b->kf Pt.v l a<=kf Pt.v l p)->
  ∃ x:Nat,D.ask (.lp 243 0) [.sl 0 0 l.length 3,iv (a:Int),Fu,iv (i:Int),iv (j:Int)] [G9 l]=some (.tup [iv 0,.sl 0 0 l.length 3,iv (a:Int),iv (x:Int)],[.set (G9 l)])
   ∧ m<=x/\x<=b/\(∀ p,m<=p->p<x->kf Pt.v l p<kf Pt.v l a)/\(∀ p,x<=p->p<b->kf Pt.v l a<=kf Pt.v l p):=by
 intro k
 induction k using AqF with
 |_ k ih=>
  intro i j hk hmi hij hjb h1 h2
  by_cases he:i<j
  .have hH:(i+j) / 2<l.length:=by omega
   have hA:a<l.length:=by omega
   have kh:kf Pt.v l ((i+j) / 2)=l[(i+j) / 2].v:=FN Pt.v hH;have ka:kf Pt.v l a=l[a].v:=FN Pt.v hA
   by_cases hlt:l[(i+j) / 2].v<l[a].v
   .obtain⟨x,g,hx⟩:=ih (j-((i+j) / 2+1)) (by omega) ((i+j) / 2+1) j rfl (by omega) (by omega) hjb (λp p1 p2=>by
     by_cases hp:p=(i+j) / 2
     .rw[hp,kh,ka];exact hlt
     .have:=hs p ((i+j) / 2) p1 (by omega) (by omega)
      omega) h2
    refine⟨x,?_,hx⟩;refine K.lp' CB _ rfl (by kernel_rfl) ((Uv ..).trans ?_);refine Ai (by omega) ?_;refine Ah (by decide) ?_;rw[Dk (by omega),A8 (by omega)];rw[Aw,A0 hH];refine Ac ?_;refine(Bn Az l ((i+j) / 2) hH _).trans ?_;simp only[eP,eN,ND,DK,Aa];rw[Aw,A0 hA];refine Ac ?_;refine(Bn Az l a hA _).trans ?_;simp only[eP,eN,ND,DK,Aa];refine Ab (Hj K l[(i+j) / 2] l[a]) ?_;simp only[ND,DK,Aa];refine Ai (Fq.2 hlt) ?_;refine Ab g ?_;rfl
   .obtain⟨x,g,hx⟩:=ih ((i+j) / 2-i) (by omega) i ((i+j) / 2) rfl hmi (by omega) (by omega) h1 (λp p1 p2=>by
     by_cases hp:p=(i+j) / 2
     .rw[hp];omega
     .have:=hs ((i+j) / 2) p (by omega) (by omega) (by omega)
      omega)
    refine⟨x,?_,hx⟩;refine K.lp' CB _ rfl (by kernel_rfl) ((Uv ..).trans ?_);refine Ai (by omega) ?_;refine Ah (by decide) ?_;rw[Dk (by omega)];rw[Aw,A0 hH];refine Ac ?_;refine(Bn Az l ((i+j) / 2) hH _).trans ?_;simp only[eP,eN,ND,DK,Aa];rw[Aw,A0 hA];refine Ac ?_;refine(Bn Az l a hA _).trans ?_;simp only[eP,eN,ND,DK,Aa];refine Ab (Hj K l[(i+j) / 2] l[a]) ?_;simp only[ND,DK,Aa];refine Ah (λh=>hlt (Fq.1 h)) ?_;refine Ab g ?_;rfl
  .obtain rfl:i=j:=by omega
   refine⟨i,?_,hmi,hjb,h1,h2⟩;refine K.lp' CB _ rfl (by kernel_rfl) ((Uv ..).trans ?_);exact Ah (by omega) rfl
theorem AfH(a x:Nat)(l0:List Pt):∀(n k:Nat) (l:List Pt),x-1-k=n->a<=k->k<x->x<=l.length->l.length<=1000000000->l.length=l0.length->Rot l0 l a (a+1) (k+1)->
  ∃ r:List Pt,D.ask (.lp 243 1) [.sl 0 0 l.length 3,iv (x:Int),iv (k:Int)] [G9 l]=some (.tup [iv 2,.sl 0 0 l.length 3],[.set (G9 r)])
   ∧ r.length=l.length/\r.Perm l/\Rot l0 r a (a+1) x:=by
 intro n
 induction n with
 |zero=>
  intro k l hn ha hk hx hl h0 ht;obtain rfl:x=k+1:=by omega
  refine⟨l,?_,rfl,List.Perm.refl _,ht⟩;refine K.lp' CB _ rfl (by kernel_rfl) ((Aad ..).trans ?_);rw[If (by omega) (by omega)];exact Ah (by omega) rfl
 |succ n ih=>
  intro k l hn ha hk hx hl h0 ht;have hI:k<l.length:=by omega
  have hJ:k+1<l.length:=by omega
  have hlen:=IJ l k (k+1);obtain⟨r,g,hr,hp,ho⟩:=ih (k+1) (C6 l k (k+1)) (by omega) (by omega) (by omega) (by omega) (by omega) (by omega) (Aj7 ha (by omega) h0 ht);rw[hlen]at g hr;refine⟨r,?_,hr,hp.trans (GW _ _ _),ho⟩;refine K.lp' CB _ rfl (by kernel_rfl) ((Aad ..).trans ?_);rw[If (by omega) (by omega)];refine Ai (by omega) ?_;rw[A8 (by omega)];rw[Aw,A0 hJ];refine Ac ?_;refine(Bn Az l (k+1) hJ _).trans ?_;simp only[eP,eN,ND,DK,Aa];rw[Aw,A0 hI];refine Ac ?_;refine(Bn Az l k hI _).trans ?_;simp only[eP,eN,ND,DK,Aa];have s1:=CJ Az l k hI l[(k+1)];have s2:=CJ Az (l.set k l[(k+1)]) (k+1) (by rw[Ap0];exact hJ) l[k];rw[←DM hI hJ]at s2;simp only[eP,eN]at s1 s2;rw[Aw,A0 hI];refine Ac ?_;rw[show ApA (0+k*3+3) (Ap eP l).length=true by rw[Bq Az];simp;omega];refine Ac ?_;rw[Aw,A0 hJ];refine Ac ?_;rw[s1,s2];rw[show ApA (0+(k+1)*3+3) (Ap eP (l.set k l[(k+1)])).length=true by rw[Bq Az,Ap0];simp;omega];refine Ac ?_;refine Ab g ?_;rfl
theorem AfI(a m:Nat)(l:List Pt)(hl:l.length<=1000000000)(hb:m<l.length)(hs:Srt Pt.v l a m):∀(k i j:Nat),j-i=k->a<=i->i<=j->j<=m->(∀ p,a<=p->p<i->kf Pt.v l p<=kf Pt.v l m)->(∀ p,j<=p->p<m->kf Pt.v l m<kf Pt.v l p)->
  ∃ x:Nat,D.ask (.lp 243 2) [.sl 0 0 l.length 3,iv (m:Int),Fu,iv (i:Int),iv (j:Int)] [G9 l]=some (.tup [iv 4,.sl 0 0 l.length 3,iv (m:Int),iv (x:Int)],[.set (G9 l)])
   ∧ a<=x/\x<=m/\(∀ p,a<=p->p<x->kf Pt.v l p<=kf Pt.v l m)/\(∀ p,x<=p->p<m->kf Pt.v l m<kf Pt.v l p):=by
 intro k
 induction k using AqF with
 |_ k ih=>
  intro i j hk hmi hij hjb h1 h2
  by_cases he:i<j
  .have hH:(i+j) / 2<l.length:=by omega
   have kh:kf Pt.v l ((i+j) / 2)=l[(i+j) / 2].v:=FN Pt.v hH;have ka:kf Pt.v l m=l[m].v:=FN Pt.v hb
   by_cases hlt:l[m].v<l[(i+j) / 2].v
   .obtain⟨x,g,hx⟩:=ih ((i+j) / 2-i) (by omega) i ((i+j) / 2) rfl hmi (by omega) (by omega) h1 (λp p1 p2=>by
     by_cases hp:p=(i+j) / 2
     .rw[hp];omega
     .have:=hs ((i+j) / 2) p (by omega) (by omega) (by omega)
      omega)
    refine⟨x,?_,hx⟩;refine K.lp' CB _ rfl (by kernel_rfl) ((Uw ..).trans ?_);refine Ai (by omega) ?_;refine Ah (by decide) ?_;rw[Dk (by omega)];rw[Aw,A0 hb];refine Ac ?_;refine(Bn Az l m hb _).trans ?_;simp only[eP,eN,ND,DK,Aa];rw[Aw,A0 hH];refine Ac ?_;refine(Bn Az l ((i+j) / 2) hH _).trans ?_;simp only[eP,eN,ND,DK,Aa];refine Ab (Hj K l[m] l[(i+j) / 2]) ?_;simp only[ND,DK,Aa];refine Ai (Fq.2 hlt) ?_;refine Ab g ?_;rfl
   .obtain⟨x,g,hx⟩:=ih (j-((i+j) / 2+1)) (by omega) ((i+j) / 2+1) j rfl (by omega) (by omega) hjb (λp p1 p2=>by
     by_cases hp:p=(i+j) / 2
     .rw[hp];omega
     .have:=hs p ((i+j) / 2) p1 (by omega) (by omega)
      omega) h2
    refine⟨x,?_,hx⟩;refine K.lp' CB _ rfl (by kernel_rfl) ((Uw ..).trans ?_);refine Ai (by omega) ?_;refine Ah (by decide) ?_;rw[Dk (by omega),A8 (by omega)];rw[Aw,A0 hb];refine Ac ?_;refine(Bn Az l m hb _).trans ?_;simp only[eP,eN,ND,DK,Aa];rw[Aw,A0 hH];refine Ac ?_;refine(Bn Az l ((i+j) / 2) hH _).trans ?_;simp only[eP,eN,ND,DK,Aa];refine Ab (Hj K l[m] l[(i+j) / 2]) ?_;simp only[ND,DK,Aa];refine Ah (λh=>hlt (Fq.1 h)) ?_;refine Ab g ?_;rfl
  .obtain rfl:i=j:=by omega
   refine⟨i,?_,hmi,hjb,h1,h2⟩;refine K.lp' CB _ rfl (by kernel_rfl) ((Uw ..).trans ?_);exact Ah (by omega) rfl
theorem AfJ(m x:Nat)(l0:List Pt):∀(n k:Nat) (l:List Pt),k-x=n->x<=k->k<=m->m<l.length->l.length<=1000000000->l.length=l0.length->Rot l0 l k m (m+1)->
  ∃ r:List Pt,D.ask (.lp 243 3) [.sl 0 0 l.length 3,iv (x:Int),iv (k:Int)] [G9 l]=some (.tup [iv 6,.sl 0 0 l.length 3],[.set (G9 r)])
   ∧ r.length=l.length/\r.Perm l/\Rot l0 r x m (m+1):=by
 intro n
 induction n with
 |zero=>
  intro k l hn hx hk hm hl h0 ht;obtain rfl:x=k:=by omega
  refine⟨l,?_,rfl,List.Perm.refl _,ht⟩;refine K.lp' CB _ rfl (by kernel_rfl) ((Aae ..).trans ?_);exact Ah (by omega) rfl
 |succ n ih=>
  intro k l hn hx hk hm hl h0 ht;obtain⟨j,rfl⟩:∃ j,k=j+1:=⟨k-1,by omega⟩;have hI:j+1<l.length:=by omega
  have hJ:j<l.length:=by omega
  have hlen:=IJ l (j+1) j;obtain⟨r,g,hr,hp,ho⟩:=ih j (C6 l (j+1) j) (by omega) (by omega) (by omega) (by omega) (by omega) (by omega) (Ab4 (by omega) (by omega) h0 ht);rw[hlen]at g hr;refine⟨r,?_,hr,hp.trans (GW _ _ _),ho⟩;refine K.lp' CB _ rfl (by kernel_rfl) ((Aae ..).trans ?_);refine Ai (by omega) ?_;rw[TA (by omega)];rw[Aw,A0 hJ];refine Ac ?_;refine(Bn Az l j hJ _).trans ?_;simp only[eP,eN,ND,DK,Aa];rw[Aw,A0 hI];refine Ac ?_;refine(Bn Az l (j+1) hI _).trans ?_;simp only[eP,eN,ND,DK,Aa];have s1:=CJ Az l (j+1) hI l[j];have s2:=CJ Az (l.set (j+1) l[j]) j (by rw[Ap0];exact hJ) l[(j+1)];rw[←DM hI hJ]at s2;simp only[eP,eN]at s1 s2;rw[Aw,A0 hI];refine Ac ?_;rw[show ApA (0+(j+1)*3+3) (Ap eP l).length=true by rw[Bq Az];simp;omega];refine Ac ?_;rw[Aw,A0 hJ];refine Ac ?_;rw[s1,s2];rw[show ApA (0+j*3+3) (Ap eP (l.set (j+1) l[j])).length=true by rw[Bq Az,Ap0];simp;omega];refine Ac ?_;refine Ab g ?_;rfl
theorem WV(a m b mid x y:Nat)(l:List Pt)(hl:l.length<=1000000000)(hb:b<=l.length)(hs1:Srt Pt.v l a m)(hs2:Srt Pt.v l m b)(hx:a<=x)(hy:y<=m)(hn:mid+m<=x+b)(hm:y<=mid)(hmid:mid<=b)(hmb:m<=b):∀(k s r:Nat),r-s=k->Bs Pt.v l (mid+m) x y s r->
  ∃ z:Nat,D.ask (.lp 243 4) [.sl 0 0 l.length 3,iv (a:Int),iv (m:Int),iv (b:Int),Fu,iv (mid:Int),iv ((mid+m:Nat):Int),iv (s:Int),iv (r:Int),iv ((mid+m-1:Nat):Int)] [G9 l]=some (.tup [iv 8,.sl 0 0 l.length 3,iv (a:Int),iv (m:Int),iv (b:Int),Fu,iv (mid:Int),iv ((mid+m:Nat):Int),iv (z:Int)],[.set (G9 l)])
   ∧ Bs Pt.v l (mid+m) x y z z:=by
 intro k
 induction k using AqF with
 |_ k ih=>
  intro s r hk B;have:=B.xs;have:=B.sr;have:=B.ry
  by_cases he:s<r
  .have hH:(s+r) / 2<l.length:=by omega
   have hP:mid+m-1-(s+r) / 2<l.length:=by omega
   have kh:kf Pt.v l ((s+r) / 2)=l[(s+r) / 2].v:=FN Pt.v hH;have kp:kf Pt.v l (mid+m-1-(s+r) / 2)=l[mid+m-1-(s+r) / 2].v:=FN Pt.v hP
   by_cases hlt:l[mid+m-1-(s+r) / 2].v<l[(s+r) / 2].v
   .obtain⟨z,g,hz⟩:=ih ((s+r) / 2-s) (by omega) s ((s+r) / 2) rfl (B.dn Pt.v hs1 hs2 hx hy (by omega) (by omega) (by omega) (by omega) (by omega))
    refine⟨z,?_,hz⟩;refine K.lp' CB _ rfl (by kernel_rfl) ((Ux ..).trans ?_);refine Ai (by omega) ?_;refine Ah (by decide) ?_;rw[Dk (by omega),Cm (a:=mid+m-1) (b:=(s+r) / 2) (by omega) (by omega)];rw[Aw,A0 hP];refine Ac ?_;refine(Bn Az l (mid+m-1-(s+r) / 2) hP _).trans ?_;simp only[eP,eN,ND,DK,Aa];rw[Aw,A0 hH];refine Ac ?_;refine(Bn Az l ((s+r) / 2) hH _).trans ?_;simp only[eP,eN,ND,DK,Aa];refine Ab (Hj K l[mid+m-1-(s+r) / 2] l[(s+r) / 2]) ?_;simp only[ND,DK,Aa];refine Ai (Fq.2 hlt) ?_;refine Ab g ?_;rfl
   .obtain⟨z,g,hz⟩:=ih (r-((s+r) / 2+1)) (by omega) ((s+r) / 2+1) r rfl (B.up Pt.v hs1 hs2 hx hy (by omega) (by omega) (by omega) (by omega) (by omega))
    refine⟨z,?_,hz⟩;refine K.lp' CB _ rfl (by kernel_rfl) ((Ux ..).trans ?_);refine Ai (by omega) ?_;refine Ah (by decide) ?_;rw[Dk (by omega),Cm (a:=mid+m-1) (b:=(s+r) / 2) (by omega) (by omega),A8 (by omega)];rw[Aw,A0 hP];refine Ac ?_;refine(Bn Az l (mid+m-1-(s+r) / 2) hP _).trans ?_;simp only[eP,eN,ND,DK,Aa];rw[Aw,A0 hH];refine Ac ?_;refine(Bn Az l ((s+r) / 2) hH _).trans ?_;simp only[eP,eN,ND,DK,Aa];refine Ab (Hj K l[mid+m-1-(s+r) / 2] l[(s+r) / 2]) ?_;simp only[ND,DK,Aa];refine Ah (λh=>hlt (Fq.1 h)) ?_;refine Ab g ?_;rfl
  .obtain rfl:s=r:=by omega
   refine⟨s,?_,B⟩;refine K.lp' CB _ rfl (by kernel_rfl) ((Ux ..).trans ?_);exact Ah (by omega) rfl
end
def tl2(D:Orc)(n:Nat)(mid e b:Int)(cs:List AV):KR:=
 br (Af.lt mid e)
  (br (Af.lt e b)
   (AE D (.fn 243) [.sl 0 0 n 3,iv mid,iv e,iv b,Fu] [Δ cs true true] λr o=>
   KK r λcs4=>
   Fe cs4<|
   Ey o λc l=>
   Gm true true c λcs5=>
   CZ l<|
   some ((ψ [],[γ (Δ cs5 true true)])))
   (some ((ψ [],[γ (Δ cs true true)]))))
  (some ((ψ [],[γ (Δ cs true true)])))
def tl1(D:Orc)(n:Nat)(a s mid e b:Int)(cs:List AV):KR:=
 br (Af.lt a s)
  (br (Af.lt s mid)
   (AE D (.fn 243) [.sl 0 0 n 3,iv a,iv s,iv mid,Fu] [Δ cs true true] λr o=>
   KK r λcs4=>
   Fe cs4<|
   Ey o λc l=>
   Gm true true c λcs5=>
   CZ l<|
   tl2 D n mid e b cs5)
   (tl2 D n mid e b cs))
  (tl2 D n mid e b cs)
section
variable {D:Orc}
def MK(D:Orc)(N:Nat):Prop:=∀(l:List Pt) (a m b:Nat),b-a<N->a<m->m<b->b<=l.length->l.length<=1000000000->Srt Pt.v l a m->Srt Pt.v l m b->
 ∃ r:List Pt,D.ask (.fn 243) [.sl 0 0 l.length 3,iv (a:Int),iv (m:Int),iv (b:Int),Fu] [G9 l]=some (.tup [],[.set (G9 r)])
  ∧ r.length=l.length/\r.Perm l/\Srt Pt.v r a b/\Same0 l r a b
theorem Akg{N:Nat}(ih:MK D N){l:List Pt}{mid e b:Nat}(hN:b-mid<N)(h1:mid<=e)(h2:e<=b)(hb:b<=l.length)(hl:l.length<=1000000000)(s1:Srt Pt.v l mid e)(s2:Srt Pt.v l e b) :
  ∃ r:List Pt,tl2 D l.length (mid:Int) (e:Int) (b:Int) (Ap eP l)=some (.tup [],[.set (G9 r)])/\r.length=l.length/\r.Perm l/\Srt Pt.v r mid b/\Same0 l r mid b:=by
 by_cases q1:mid<e
 .by_cases q2:e<b
  .obtain⟨r,g,hr,hp,ho,hs⟩:=ih l mid e b hN q1 q2 hb hl s1 s2
   refine⟨r,?_,hr,hp,ho,hs⟩;unfold tl2;refine Ai (by omega) ?_;refine Ai (by omega) ?_;refine Ab g ?_;rfl
  .refine⟨l,?_,rfl,List.Perm.refl _,KA Pt.v (.inr (by omega)) s1 s2,C3 _ _ _⟩
   unfold tl2;refine Ai (by omega) ?_;exact Ah (by omega) rfl
 .refine⟨l,?_,rfl,List.Perm.refl _,KA Pt.v (.inl (by omega)) s1 s2,C3 _ _ _⟩
  unfold tl2;exact Ah (by omega) rfl
theorem LI{N:Nat}(ih:MK D N){l:List Pt}{a s mid e b:Nat}(hN:mid-a<N)(hN2:b-mid<N)(h1:a<=s)(h2:s<=mid)(h3:mid<=e)(h4:e<=b)(hb:b<=l.length)(hl:l.length<=1000000000)(s1:Srt Pt.v l a s)(s2:Srt Pt.v l s mid)(s3:Srt Pt.v l mid e)(s4:Srt Pt.v l e b)(lo:Low Pt.v l a mid b) :
  ∃ r:List Pt,tl1 D l.length (a:Int) (s:Int) (mid:Int) (e:Int) (b:Int) (Ap eP l)=some (.tup [],[.set (G9 r)])/\r.length=l.length/\r.Perm l/\Srt Pt.v r a b/\Same0 l r a b:=by
 have fin:∀{l1:List Pt},l1.length=l.length->l1.Perm l->Srt Pt.v l1 a mid->Same0 l l1 a mid->∃ r:List Pt,tl2 D l.length (mid:Int) (e:Int) (b:Int) (Ap eP l1)=some (.tup [],[.set (G9 r)])/\r.length=l.length/\r.Perm l/\Srt Pt.v r a b/\Same0 l r a b:=by
  intro l1 k1 k2 k3 k4;have lo1:=Abl Pt.v lo k2 k4 (by omega);obtain⟨r,g,hr,hp,ho,hs⟩:=Akg ih (l:=l1) (mid:=mid) (e:=e) (b:=b) hN2 h3 h4 (by omega) (by omega) (s3.same' Pt.v k4 (.inr (ω _))) (s4.same' Pt.v k4 (.inr h3));rw[k1]at g hr;exact⟨r,g,hr,hp.trans k2,Afz Pt.v (k3.same' Pt.v hs (.inl (ω _))) ho (X4 Pt.v lo1 hp hs (by omega)),(k4.wide (ω _) (by omega)).trans (hs.wide (by omega) (ω _))⟩
 by_cases q1:a<s
 .by_cases q2:s<mid
  .obtain⟨r,g,hr,hp,ho,hs⟩:=ih l a s mid hN q1 q2 (by omega) hl s1 s2
   obtain⟨r2,g2,h⟩:=fin hr hp ho hs;refine⟨r2,?_,h⟩;unfold tl1;refine Ai (by omega) ?_;refine Ai (by omega) ?_;refine Ab g ?_;exact g2
  .obtain⟨r2,g2,h⟩:=fin (l1:=l) rfl (List.Perm.refl _) (KA Pt.v (.inr (by omega)) s1 s2) (C3 _ _ _)
   refine⟨r2,?_,h⟩;unfold tl1;refine Ai (by omega) ?_;exact(Uf (by omega)).trans g2
 .obtain⟨r2,g2,h⟩:=fin (l1:=l) rfl (List.Perm.refl _) (KA Pt.v (.inl (by omega)) s1 s2) (C3 _ _ _)
  refine⟨r2,?_,h⟩;unfold tl1;exact(Uf (by omega)).trans g2
variable (K:Knows Al Fb D)
include K
theorem AfF:∀ N,MK D N:=by
 intro N
 induction N with
 |zero=>intro l a m b h;omega
 |succ N ih0=>
  intro l a m b hN ha hm hb hl hs1 hs2
  by_cases hA:m-a=1
  .obtain rfl:m=a+1:=by omega
   obtain⟨x,g1,x1,x2,x3,x4⟩:=AfG K a (a+1) b l hl (by omega) hb hs2 _ (a+1) b rfl (ω _) (by omega) (ω _) (λp p1 p2=>by omega) (λp p1 p2=>by omega);obtain⟨r,g2,r1,r2,r3⟩:=AfH K a x l _ a l rfl (ω _) (by omega) (by omega) hl rfl (Gf (.inr rfl) (by omega) (by omega));refine⟨r,?_,r1,r2,SY Pt.v x1 x2 hs2 x3 x4 r3,λp hp=>r3.out p (by omega)⟩;refine K.fn' CB _ rfl ((R3 ..).trans ?_);rw[Cm (a:=a+1) (b:=a) (by omega) (by omega)];refine Av (by omega) ?_;refine Ab g1 ?_;simp only[Fu,ND,DK,Aa];refine Ab g2 ?_;rfl
  by_cases hB:b-m=1
  .obtain rfl:b=m+1:=by omega
   obtain⟨x,g1,x1,x2,x3,x4⟩:=AfI K a m l hl (by omega) hs1 _ a m rfl (ω _) (by omega) (ω _) (λp p1 p2=>by omega) (λp p1 p2=>by omega);obtain⟨r,g2,r1,r2,r3⟩:=AfJ K m x l _ m l rfl x2 (ω _) (by omega) hl rfl (Gf (.inl rfl) (by omega) (by omega));refine⟨r,?_,r1,r2,U5 Pt.v x1 x2 hs1 x3 x4 r3,λp hp=>r3.out p (by omega)⟩;refine K.fn' CB _ rfl ((R3 ..).trans ?_);rw[Cm (a:=m) (b:=a) (by omega) (by omega)];refine Am (by omega) ?_;rw[Cm (a:=m+1) (b:=m) (by omega) (by omega)];refine Av (by omega) ?_;refine Ab g1 ?_;simp only[Fu,ND,DK,Aa];refine Ac ?_;refine Ab g2 ?_;rfl
  have ih:MK D N:=ih0
  by_cases hC:(a+b) / 2<m
  .obtain⟨z,g4,B⟩:=WV K a m b ((a+b) / 2) ((a+b) / 2+m-b) ((a+b) / 2) l hl hb hs1 hs2 (by omega) (by omega) (by omega) (by omega) (by omega) (by omega) _ ((a+b) / 2+m-b) ((a+b) / 2) rfl ⟨ω _,by omega,ω _,λc c1 c2=>by omega,λc c1 c2=>by omega⟩
   have C:=B.cut Pt.v hs1 hs2 (by omega) (by omega) (by omega) (by omega) (.inr (by omega)) (.inr rfl);have:=C.asl;have:=C.sm;have:=C.me;have:=C.eb;have:=C.mid;have:=B.ry;have:=B.xs;have e0:Af.sub .i64 (((a+b) / 2+m:Nat):Int) (z:Int)=(((a+b) / 2+m-z:Nat):Int):=Cm (by omega) (by omega)
   by_cases w1:z<m
   .by_cases w2:m<(a+b) / 2+m-z
    .obtain⟨l1,g5,k1,k2,k3⟩:=Ab6 K w1 w2 (by omega) hl
     obtain⟨f1,f2,f3,f4,f5⟩:=EJ Pt.v C hs1 hs2 k3;obtain⟨r,g6,r1,r2,r3,r4⟩:=LI ih (l:=l1) (a:=a) (s:=z) (mid:=(a+b) / 2) (e:=(a+b) / 2+m-z) (b:=b) (by omega) (by omega) (by omega) (by omega) (by omega) (by omega) (by omega) (by omega) f1 f2 f3 f4 f5;have sm:Same0 l l1 a b:=λp hp=>k3.out p (by omega)
     rw[k1]at g6 r1;refine⟨r,?_,r1,r2.trans k2,r3,sm.trans r4⟩;refine K.fn' CB _ rfl ((R3 ..).trans ?_);rw[Cm (a:=m) (b:=a) (by omega) (by omega)];refine Am (by omega) ?_;rw[Cm (a:=b) (b:=m) (by omega) (by omega)];refine Am (by omega) ?_;refine Ah (by decide) ?_;rw[Dk (a:=a) (b:=b) (by omega)];rw[JK (a:=(a+b) / 2) (b:=m) (by omega),If (a:=(a+b) / 2+m) (by omega) (by omega)];rw[Cm (a:=(a+b) / 2+m) (b:=b) (by omega) (by omega)];refine Ai (by omega) ?_;refine Ab g4 ?_;simp only[Fu,ND,DK,Aa];refine Ac ?_;rw[e0];refine Ai (by omega) ?_;refine Ai (by omega) ?_;refine Ab g5 ?_;exact g6
    .obtain⟨f1,f2,f3,f4,f5⟩:=EJ Pt.v C hs1 hs2 (Gf (l:=l) (.inr (by omega)) (by omega) (by omega))
     obtain⟨r,g6,r1,r2,r3,r4⟩:=LI ih (l:=l) (a:=a) (s:=z) (mid:=(a+b) / 2) (e:=(a+b) / 2+m-z) (b:=b) (by omega) (by omega) (by omega) (by omega) (by omega) (by omega) (by omega) (by omega) f1 f2 f3 f4 f5;refine⟨r,?_,r1,r2,r3,r4⟩;refine K.fn' CB _ rfl ((R3 ..).trans ?_);rw[Cm (a:=m) (b:=a) (by omega) (by omega)];refine Am (by omega) ?_;rw[Cm (a:=b) (b:=m) (by omega) (by omega)];refine Am (by omega) ?_;refine Ah (by decide) ?_;rw[Dk (a:=a) (b:=b) (by omega)];rw[JK (a:=(a+b) / 2) (b:=m) (by omega),If (a:=(a+b) / 2+m) (by omega) (by omega)];rw[Cm (a:=(a+b) / 2+m) (b:=b) (by omega) (by omega)];refine Ai (by omega) ?_;refine Ab g4 ?_;simp only[Fu,ND,DK,Aa];refine Ac ?_;rw[e0];refine Ai (by omega) ?_;refine Ah (by omega) ?_;exact g6
   .obtain⟨f1,f2,f3,f4,f5⟩:=EJ Pt.v C hs1 hs2 (Gf (l:=l) (.inl (by omega)) (by omega) (by omega))
    obtain⟨r,g6,r1,r2,r3,r4⟩:=LI ih (l:=l) (a:=a) (s:=z) (mid:=(a+b) / 2) (e:=(a+b) / 2+m-z) (b:=b) (by omega) (by omega) (by omega) (by omega) (by omega) (by omega) (by omega) (by omega) f1 f2 f3 f4 f5;refine⟨r,?_,r1,r2,r3,r4⟩;refine K.fn' CB _ rfl ((R3 ..).trans ?_);rw[Cm (a:=m) (b:=a) (by omega) (by omega)];refine Am (by omega) ?_;rw[Cm (a:=b) (b:=m) (by omega) (by omega)];refine Am (by omega) ?_;refine Ah (by decide) ?_;rw[Dk (a:=a) (b:=b) (by omega)];rw[JK (a:=(a+b) / 2) (b:=m) (by omega),If (a:=(a+b) / 2+m) (by omega) (by omega)];rw[Cm (a:=(a+b) / 2+m) (b:=b) (by omega) (by omega)];refine Ai (by omega) ?_;refine Ab g4 ?_;simp only[Fu,ND,DK,Aa];refine Ac ?_;rw[e0];refine Ah (by omega) ?_;exact g6
  .obtain⟨z,g4,B⟩:=WV K a m b ((a+b) / 2) a m l hl hb hs1 hs2 (by omega) (by omega) (by omega) (by omega) (by omega) (by omega) _ a m rfl ⟨ω _,by omega,ω _,λc c1 c2=>by omega,λc c1 c2=>by omega⟩
   have C:=B.cut Pt.v hs1 hs2 (by omega) (by omega) (by omega) (by omega) (.inl rfl) (.inl rfl);have:=C.asl;have:=C.sm;have:=C.me;have:=C.eb;have:=C.mid;have:=B.ry;have:=B.xs;have e0:Af.sub .i64 (((a+b) / 2+m:Nat):Int) (z:Int)=(((a+b) / 2+m-z:Nat):Int):=Cm (by omega) (by omega)
   by_cases w1:z<m
   .by_cases w2:m<(a+b) / 2+m-z
    .obtain⟨l1,g5,k1,k2,k3⟩:=Ab6 K w1 w2 (by omega) hl
     obtain⟨f1,f2,f3,f4,f5⟩:=EJ Pt.v C hs1 hs2 k3;obtain⟨r,g6,r1,r2,r3,r4⟩:=LI ih (l:=l1) (a:=a) (s:=z) (mid:=(a+b) / 2) (e:=(a+b) / 2+m-z) (b:=b) (by omega) (by omega) (by omega) (by omega) (by omega) (by omega) (by omega) (by omega) f1 f2 f3 f4 f5;have sm:Same0 l l1 a b:=λp hp=>k3.out p (by omega)
     rw[k1]at g6 r1;refine⟨r,?_,r1,r2.trans k2,r3,sm.trans r4⟩;refine K.fn' CB _ rfl ((R3 ..).trans ?_);rw[Cm (a:=m) (b:=a) (by omega) (by omega)];refine Am (by omega) ?_;rw[Cm (a:=b) (b:=m) (by omega) (by omega)];refine Am (by omega) ?_;refine Ah (by decide) ?_;rw[Dk (a:=a) (b:=b) (by omega)];rw[JK (a:=(a+b) / 2) (b:=m) (by omega),If (a:=(a+b) / 2+m) (by omega) (by omega)];refine Ah (by omega) ?_;refine Ab g4 ?_;simp only[Fu,ND,DK,Aa];refine Ac ?_;rw[e0];refine Ai (by omega) ?_;refine Ai (by omega) ?_;refine Ab g5 ?_;exact g6
    .obtain⟨f1,f2,f3,f4,f5⟩:=EJ Pt.v C hs1 hs2 (Gf (l:=l) (.inr (by omega)) (by omega) (by omega))
     obtain⟨r,g6,r1,r2,r3,r4⟩:=LI ih (l:=l) (a:=a) (s:=z) (mid:=(a+b) / 2) (e:=(a+b) / 2+m-z) (b:=b) (by omega) (by omega) (by omega) (by omega) (by omega) (by omega) (by omega) (by omega) f1 f2 f3 f4 f5;refine⟨r,?_,r1,r2,r3,r4⟩;refine K.fn' CB _ rfl ((R3 ..).trans ?_);rw[Cm (a:=m) (b:=a) (by omega) (by omega)];refine Am (by omega) ?_;rw[Cm (a:=b) (b:=m) (by omega) (by omega)];refine Am (by omega) ?_;refine Ah (by decide) ?_;rw[Dk (a:=a) (b:=b) (by omega)];rw[JK (a:=(a+b) / 2) (b:=m) (by omega),If (a:=(a+b) / 2+m) (by omega) (by omega)];refine Ah (by omega) ?_;refine Ab g4 ?_;simp only[Fu,ND,DK,Aa];refine Ac ?_;rw[e0];refine Ai (by omega) ?_;refine Ah (by omega) ?_;exact g6
   .obtain⟨f1,f2,f3,f4,f5⟩:=EJ Pt.v C hs1 hs2 (Gf (l:=l) (.inl (by omega)) (by omega) (by omega))
    obtain⟨r,g6,r1,r2,r3,r4⟩:=LI ih (l:=l) (a:=a) (s:=z) (mid:=(a+b) / 2) (e:=(a+b) / 2+m-z) (b:=b) (by omega) (by omega) (by omega) (by omega) (by omega) (by omega) (by omega) (by omega) f1 f2 f3 f4 f5;refine⟨r,?_,r1,r2,r3,r4⟩;refine K.fn' CB _ rfl ((R3 ..).trans ?_);rw[Cm (a:=m) (b:=a) (by omega) (by omega)];refine Am (by omega) ?_;rw[Cm (a:=b) (b:=m) (by omega) (by omega)];refine Am (by omega) ?_;refine Ah (by decide) ?_;rw[Dk (a:=a) (b:=b) (by omega)];rw[JK (a:=(a+b) / 2) (b:=m) (by omega),If (a:=(a+b) / 2+m) (by omega) (by omega)];refine Ah (by omega) ?_;refine Ab g4 ?_;simp only[Fu,ND,DK,Aa];refine Ac ?_;rw[e0];refine Ah (by omega) ?_;exact g6
theorem X9:M3 D:=λl a m b h1 h2 h3 h4 h5 h6=>AfF K (b-a+1) l a m b (by omega) h1 h2 h3 h4 h5 h6
theorem Acv{l:List Pt}(hl:l.length<=1000000000) :
  ∃ r:List Pt,D.ask (.fn 152) [.sl 0 0 l.length 3,Fu] [G9 l]=some (.tup [],[.set (G9 r)])
   ∧ r.length=l.length/\r.Perm l/\Srt Pt.v r 0 r.length:=Afy K (X9 K) hl
end
def fnZ:AV:=.fn (.func 157) [] []
section
variable {D:Orc} (K:Knows Al Fb D)
include K
theorem Ajl(P:Pt->Bool)(l:List Pt)(hl:l.length<=1000000000)(hP:∀ p∈l,D.ask (.fn 157) [.agg (eP p)] []=some (bv (P p),[])):∀(m i:Nat),l.length-i=m->i<=l.length->
  D.ask (.lp 208 0) [.sl 0 0 l.length 3,fnZ,iv (l.length:Int),iv (i:Int)] [Δ (Ap eP l) true true]
   = if i+(l.drop i).findIdx P<l.length then some (.tup [bv true,.sl 0 0 l.length 3,iv ((i+(l.drop i).findIdx P:Nat):Int)],[.set (Δ (Ap eP l) true true)]) else some (.tup [iv 0,.sl 0 0 l.length 3],[.set (Δ (Ap eP l) true true)]):=by
 intro m
 induction m with
 |zero=>
  intro i hm hi;rw[if_neg (by omega)];refine K.lp' NK _ rfl (by kernel_rfl) ((QW ..).trans ?_);exact Ah (by omega) rfl
 |succ m ih=>
  intro i hm hi;have h1:i<l.length:=by omega
  have g:=hP l[i] (ApG h1);have ih':=ih (i+1) (by omega) (by omega);rw[χ h1,Asx]
  cases hp:P l[i]with
  |true=>
   rw[hp]at g;rw[if_pos (by simpa using h1)];refine K.lp' NK _ rfl (by kernel_rfl) ((QW ..).trans ?_);refine Ai (by omega) ?_;rw[Aw,A0 h1];refine Ac ?_;refine(Bn Az l i h1 _).trans ?_;simp only[eP,eN,ND,DK,Aa];refine Ab g ?_;simp only[ND,DK,Aa];rfl
  |false=>
   rw[hp]at g;rw[show (bif false then 0 else(l.drop (i+1)).findIdx P+1)=(l.drop (i+1)).findIdx P+1 from rfl,show i+((l.drop (i+1)).findIdx P+1)=i+1+(l.drop (i+1)).findIdx P by omega]
   by_cases h:i+1+(l.drop (i+1)).findIdx P<l.length
   .rw[if_pos h]at ih' ⊢
    refine K.lp' NK _ rfl (by kernel_rfl) ((QW ..).trans ?_);refine Ai (by omega) ?_;rw[Aw,A0 h1];refine Ac ?_;refine(Bn Az l i h1 _).trans ?_;simp only[eP,eN,ND,DK,Aa];refine Ab g ?_;simp only[ND,DK,Aa];rw[A8 (by omega)];refine Ab ih' ?_;rfl
   .rw[if_neg h]at ih' ⊢
    refine K.lp' NK _ rfl (by kernel_rfl) ((QW ..).trans ?_);refine Ai (by omega) ?_;rw[Aw,A0 h1];refine Ac ?_;refine(Bn Az l i h1 _).trans ?_;simp only[eP,eN,ND,DK,Aa];refine Ab g ?_;simp only[ND,DK,Aa];rw[A8 (by omega)];refine Ab ih' ?_;rfl
theorem Ajm(P:Pt->Bool)(l:List Pt)(hl:l.length<=1000000000)(hP:∀ p∈l,D.ask (.fn 157) [.agg (eP p)] []=some (bv (P p),[])) :
  D.ask (.fn 208) [.sl 0 0 l.length 3,fnZ] [Δ (Ap eP l) true true]
   = some (iv (if l.findIdx P<l.length then(l.findIdx P:Int) else -1),[.set (Δ (Ap eP l) true true)]):=by
 have g:=Ajl K P l hl hP _ 0 rfl (by omega);rw[π,ApN]at g;refine K.fn' NK _ rfl ((AnT ..).trans ?_)
 by_cases h:l.findIdx P<l.length
 .rw[if_pos h]at g ⊢
  refine Ab g ?_;rfl
 .rw[if_neg h]at g ⊢
  refine Ab g ?_;rfl
theorem Ai2(P:Pt->Bool)(Q:Pt->Prop)(hP:∀ p,Q p->D.ask (.fn 157) [.agg (eP p)] []=some (bv (P p),[])):∀(m j i:Nat) (l:List Pt),l.length-j=m->i<=j->j<=l.length->l.length<=1000000000->(∀ p∈l.drop j,Q p)->
  ∃(r:List Pt) (c:Nat),D.ask (.lp 156 0) [.sl 0 0 l.length 3,fnZ,iv (i:Int),iv (j:Int)] [Δ (Ap eP l) true true]
   = some (.tup [iv 0,.sl 0 0 l.length 3,iv (c:Int)],[.set (Δ (Ap eP r) true true)])
   ∧ r.length=l.length/\c<=l.length/\r.take c=l.take i++(l.drop j).filter (λp=>!P p):=by
 intro m
 induction m with
 |zero=>
  intro j i l hm hi hj hl hq;refine⟨l,i,?_,rfl,by omega,?_⟩
  .refine K.lp' NI _ rfl (by kernel_rfl) ((Ur ..).trans ?_)
   exact Ah (by omega) rfl
  .rw[Apz (by omega),List.filter_nil,Aqx]
 |succ m ih=>
  intro j i l hm hi hj hl hq;have h1:j<l.length:=by omega
  have h0:i<l.length:=by omega
  have ed:=χ h1;have g:=hP l[j] (hq _ (by rw[ed];exact ApK ..));rw[ed,AsD]
  cases hp:P l[j]with
  |true=>
   rw[hp]at g;obtain⟨r,c,g2,hr,hc,he⟩:=ih (j+1) i l (by omega) (by omega) (by omega) hl (λp h=>hq p (by rw[ed];exact ApM _ h));refine⟨r,c,?_,hr,hc,he⟩;refine K.lp' NI _ rfl (by kernel_rfl) ((Ur ..).trans ?_);refine Ai (by omega) ?_;rw[Aw,A0 h1];refine Ac ?_;refine(Bn Az l j h1 _).trans ?_;simp only[eP,eN,ND,DK,Aa];refine Ab g ?_;simp only[ND,DK,Aa];rw[A8 (by omega)];refine Ab g2 ?_;rfl
  |false=>
   rw[hp]at g;have hd:(l.set i l[j]).drop (j+1)=l.drop (j+1):=List.drop_set_of_lt (by omega);obtain⟨r,c,g2,hr,hc,he⟩:=ih (j+1) (i+1) (l.set i l[j]) (by rw[Ap0];omega) (by omega) (by rw[Ap0];omega) (by rw[Ap0];exact hl) (λp h=>hq p (by rw[ed];rw[hd]at h;exact ApM _ h));rw[Ap0]at g2 hr hc;have s1:=CJ Az l i h0 l[j];simp only[eP,eN]at s1;refine⟨r,c,?_,hr,hc,?_⟩
   .skip
    refine K.lp' NI _ rfl (by kernel_rfl) ((Ur ..).trans ?_);refine Ai (by omega) ?_;rw[Aw,A0 h1];refine Ac ?_;refine(Bn Az l j h1 _).trans ?_;simp only[eP,eN,ND,DK,Aa];refine Ab g ?_;simp only[ND,DK,Aa];rw[Aw,A0 h0];refine Ac ?_;rw[show ApA (0+i*3+3) (Ap eP l).length=true by rw[Bq Az];simp;omega];refine Ac ?_;rw[s1,A8 (by omega),A8 (by omega)];refine Ab g2 ?_;rfl
   .rw[he,hd,List.take_succ_eq_append_getElem (by rw[Ap0];exact h0),List.getElem_set_self,List.take_set_of_le (ω _),ApZ]
    rfl
omit K in
theorem Nz(P:Pt->Bool):∀ l:List Pt,l.findIdx P<l.length->l.take (l.findIdx P)++(l.drop (l.findIdx P+1)).filter (λp=>!P p)=l.filter (λp=>!P p)
 |[],h=>by simp at h
 |x::r,h=>by
  rw[Asx]at h ⊢
  cases hp:P x with
  |true=>simp[hp]
  |false=>
   rw[hp]at h;have:=Nz P r (by simpa using h);simp only[cond_false,List.take_succ_cons,List.drop_succ_cons,AsD,hp,AsJ,if_true,AqN];rw[this]
omit K in
theorem R8(P:Pt->Bool)(l:List Pt)(h:¬ l.findIdx P<l.length):l.filter (λp=>!P p)=l:=by
 rw[List.filter_eq_self];intro p hp
 cases e:P p with
 |false=>rfl
 |true=>exact absurd (List.findIdx_lt_length_of_exists ⟨p,hp,e⟩) h
omit K in
theorem Oo:∀(l:List Pt) (i:Nat),i<=l.length->(Ap eP l).take (i*3)=Ap eP (l.take i)
 |[],i,_=>by simp[Ap]
 |y::r,0,_=>by simp[Ap]
 |y::r,i+1,h=>by
  rw[show (i+1)*3=3+i*3 by omega]
  show (eP y++Ap eP r).take (3+i*3)=eP y++Ap eP (r.take i)
  rw[AsF,AqB (by rw[Az];omega),Az,show 3+i*3-3=i*3 by omega,Oo r i (by simpa using h)]
theorem Ai3(P:Pt->Bool)(l:List Pt)(hl:l.length<=1000000000)(hP:∀ p∈l,D.ask (.fn 157) [.agg (eP p)] []=some (bv (P p),[])) :
  ∃ cells:List AV,D.ask (.fn 156) [.sl 0 0 l.length 3,fnZ] [Δ (Ap eP l) true true]
   = some (.sl 0 0 (l.filter λp=>!P p).length 3,[.set (Δ cells true true)])
   ∧ cells.take ((l.filter λp=>!P p).length*3)=Ap eP (l.filter λp=>!P p)/\(l.filter λp=>!P p).length*3<=cells.length:=by
 have g:=Ajm K P l hl hP
 by_cases h:l.findIdx P<l.length
 .rw[if_pos h]at g
  obtain⟨r,c,g2,hr,hc,he⟩:=Ai2 K P (λp=>p∈l) hP _ (l.findIdx P+1) (l.findIdx P) l rfl (by omega) (by omega) hl (λp hp=>List.mem_of_mem_drop hp);rw[Nz P l h]at he;have hk:(l.filter λp=>!P p).length=c:=by
   rw[←he,ApQ];omega
  rw[hk,←he];refine⟨AZ (Ap eP r) (0+c*3) (Cj [iv 0,bv false,.v (.slice none 0 0)] ((l.length-c)*3)),?_,?_,?_⟩
  .refine K.fn' NI _ rfl ((AkJ ..).trans ?_)
   refine Ab g ?_;simp only[ND,DK,Aa];refine Am (by omega) ?_;rw[A8 (by omega)];refine Ab g2 ?_;simp only[ND,DK,Aa];rw[Aw,show J1 c l.length l.length=true by unfold J1;rw[Aqr hc,Aqr (ω _)]];refine Ac ?_;rw[show ApA (0+c*3+(l.length-c)*3) (Ap eP r).length=true by rw[Bq Az];simp;omega];refine Ac ?_;rw[Aw,show J1 0 c l.length=true by unfold J1;rw[Aqr (Aqk _),Aqr hc]];rfl
  .unfold AZ
   have hlen:((Ap eP r).take (0+c*3)).length=c*3:=by
    rw[ApQ,Bq Az];omega
   rw[ApZ,List.take_left' hlen,ApN,Oo r c (by omega)]
  .unfold AZ
   rw[υ,υ,ApQ,Bq Az];omega
 .rw[if_neg h]at g
  rw[R8 P l h];refine⟨Ap eP l,?_,A4 Az l rfl,by rw[Bq Az];exact ω _⟩;refine K.fn' NI _ rfl ((AkJ ..).trans ?_);refine Ab g ?_;simp only[ND,DK,Aa];exact Av rfl rfl
end
structure PartF (D:Orc):Prop where
 clone:∀ l:List Pt,l.length<=1000000000->D.ask (.fn 151) [.ls (l.map eP)] []=some (.sl 0 0 l.length 3,[.set (G9 l)])
 grow:∀ n:Nat,n<=1000000000->D.ask (.fn 263) [.v (.slice none 0 0),iv (n:Int)] []=some (.sl 0 0 0 3,[.set (G9 [])])
section
variable (o:List Pt) (x:Pt)
theorem AmC(k:List AV->KR):IE (Ap eP (o++[x])) (0+o.length*3+0) 1 k=k [iv x.v]:=by
 have hl:=Bq Az o;rw[←A6];unfold IE;rw[show ApA (0+o.length*3+0+1) (Ap eP o++eP x).length=true by rw[υ,hl,Az];simp<;>omega]
 show k (((Ap eP o++eP x).drop (0+o.length*3+0)).take 1)=_
 rw[List.drop_left' (by omega)];rfl
theorem AoU(k:List AV->KR):IE (Ap eP (o++[x])) (0+o.length*3+1) 2 k=k [bv x.z.neg,eN x.z.abs]:=by
 have hl:=Bq Az o;rw[←A6];unfold IE;rw[show ApA (0+o.length*3+1+2) (Ap eP o++eP x).length=true by rw[υ,hl,Az];simp]
 show k (((Ap eP o++eP x).drop (0+o.length*3+1)).take 2)=_
 rw[List.drop_append,Asc (by omega),show 0+o.length*3+1-(Ap eP o).length=1 by omega];rfl
theorem AoX(z:Zi):AZ (Ap eP (o++[x])) (0+o.length*3+1) [bv z.neg,eN z.abs]=Ap eP (o++[⟨x.v,z⟩]):=by
 have hl:=Bq Az o;rw[←A6,←A6];unfold AZ;rw[AsF,AqB (by omega),show 0+o.length*3+1-(Ap eP o).length=1 by omega,Asc (by rw[υ,Az,hl];simp),Aqx,ApZ];rfl
end
section
variable {D:Orc} (Kt:Knows Al I7 D) (Ks:Knows Al Fb D) (Z:ZF D) (C:PartF D)
include Z
include Kt in
theorem Gx{z:Zi}(hz:Lz 1000000000 z):D.ask (.fn 155) [.agg (eZ z)] []=some (.agg (eZ (AF (zv z))),[]):=by
 refine Kt.fn' AgL _ rfl ((Anr ..).trans ?_);refine Ab (Z.frm z hz) ?_;rfl
include Ks in
theorem XV{p:Pt}(hz:Lz 1000000000 p.z):D.ask (.fn 157) [.agg (eP p)] []=some (bv (decide (zv p.z=0)),[]):=by
 have g:=Z.sign p.z hz;refine Ks.fn' AgM _ rfl ((Ans ..).trans ?_);refine Ab g ?_;simp only[ND,DK,Aa]
 by_cases h:zv p.z=0
 .rw[decide_eq_true h,h]
  exact KW rfl
 .rw[decide_eq_false h]
  refine QH ?_;unfold Cw;split
  .omega
  .split
   .omega
   .omega
include Kt in
theorem AbP{k:Nat}(ps:List Pt)(hl:ps.length<=1000000)(hk:k+ps.length<=900000000)(hz:∀ p∈ps,Lz k p.z)(r0:List (List AV))(r1:Bool)(r2:List (List AV))(k1:Bool)(k2:List (List AV)):∀(m i:Nat) (s:List (Int × Int)),ps.length-i=m->i<=ps.length->s.length<=i->(∀ q∈s,InB (k+i) q.2)->
  D.ask (.lp 89 0) [.ptr 0 0,.ptr 1 0,.ls (ps.map eP),iv (ps.length:Int),iv (i:Int)] [⟨[.ls r0,bv r1,.ls r2],true,false⟩,⟨[.sl 2 0 (s.map Bc).reverse.length 3,bv k1,.ls k2],true,false⟩,G9 (s.map Bc).reverse]
   = some (.tup [iv 0,.ptr 0 0,.ptr 1 0],[.set ⟨[.ls r0,bv r1,.ls r2],true,false⟩,.set ⟨[.sl 3 0 ((((ps.drop i).map pv).foldl FM s).map Bc).reverse.length 3,bv k1,.ls k2],true,false⟩,.del,.set (G9 ((((ps.drop i).map pv).foldl FM s).map Bc).reverse)]):=by
 intro m
 induction m with
 |zero=>
  intro i s hm hi hs hb;rw[Apz (by omega),Aq3,List.foldl_nil];refine Kt.lp' AaX _ rfl (by kernel_rfl) ((Agi ..).trans ?_);exact Ah (by omega) rfl
 |succ m ih0=>
  intro i s hm hi hs hb;have h1:i<ps.length:=by omega
  have hzk:=hz ps[i] (ApG h1);have hzi:=hzk.mono (show k<=1000000000 by omega);rw[χ h1,ApS,Arf];have ih:=ih0 (i+1) (FM s (pv ps[i])) (by omega) (by omega) (by have:=Sg s (pv ps[i]);omega) (Sf hb (hzk.inb.mono (show k<=k+i by omega)));refine Kt.lp' AaX _ rfl (by kernel_rfl) ((Agi ..).trans ?_);refine Ai (by omega) ?_;rw[Aw,Au (Φ h1)];simp only[eP,eN,ND,DK,Aa];generalize hS:((ps.drop (i+1)).map pv).foldl FM (FM s (pv ps[i]))=S at ih ⊢
  by_cases hneg:ps[i].v<0
  .have e:FM s (pv ps[i])=s:=by
    have hn:(pv ps[i]).1<0:=hneg
    cases s with
    |nil=>rw[FX,if_pos hn]
    |cons q r=>rw[EL,if_pos hn]
   rw[e]at ih;refine Ai hneg ?_;rw[A8 (by omega)];refine Ab ih ?_;rfl
  have hn:¬(pv ps[i]).1<0:=hneg;refine Ah hneg ?_
  cases s with
  |nil=>
   rw[FX,if_neg hn]at ih;refine Cv (by decide) ?_;obtain⟨o,ho0⟩:∃ o:List Pt,o=[]:=⟨_,rfl⟩;have eo:(([pv ps[i]].map Bc).reverse)=o++[Bc (pv ps[i])]:=by rw[ho0];rfl
   rw[eo]at ih;have ho:o.length<=i:=by rw[ho0];exact Aqk _
   rw[show ((([]:List (Int × Int)).map Bc).reverse)=o from ho0.symm];have hf:Bf (o.length+1) 40=true:=AJ (by omega) (by omega);have hb1:ApA (0+o.length*3) (Ap eP o).length=true:=AS Az o (by omega);have e3:Apx 0 (ο (0+o.length*3) (Ap eP o))++[iv ps[i].v,bv (AF (zv ps[i].z)).neg,eN (AF (zv ps[i].z)).abs]=Ap eP (o++[Bc (pv ps[i])]):=by
    rw[π,A4 Az o (by omega)];exact A6 eP o (Bc (pv ps[i]))
   refine Ab (Gx Kt Z hzi) ?_;simp only[eZ,eN,ND,DK,Aa]at e3 ⊢;rw[hf];refine Ac ?_;rw[hb1];refine Ac ?_;rw[e3,A8 (by omega)];rw[υ,Aqb]at ih;refine Ab ih ?_;rfl
  |cons q r=>
   have eo:(((q::r).map Bc).reverse)=(r.map Bc).reverse++[Bc q]:=by simp
   have hq:=hb q (ApK ..);rw[eo];rw[EL,if_neg hn]at ih;have hro:(r.map Bc).reverse.length<=i:=by simp at hs ⊢;omega
   by_cases heq:q.1=(pv ps[i]).1
   .rw[if_pos heq,ApS,Asz]at ih
    generalize (r.map Bc).reverse=o at hro ih ⊢;have e1:Af.sub .i64 (((o++[Bc q]).length:Nat):Int) 1=((o.length:Nat):Int):=by
     rw[υ,Aqb];exact TA (by omega)
    have hlt:o.length<(o++[Bc q]).length:=by simp
    have ga:=Z.add (AF q.2) ps[i].z (hq.lz.mono (by omega)) (hzk.mono (by omega));rw[Ay]at ga;have sp:=AoX o (Bc q) (AF (q.2+zv ps[i].z));rw[e1];refine Cn (by omega) ?_;rw[Aw,A0 hlt];refine Ac ?_;refine(AmC o (Bc q) _).trans ?_;simp only[ND,DK,Aa];refine Av (show (Bc q).v=ps[i].v from heq) ?_;rw[Aw,A0 hlt];refine Ac ?_;refine(AoU o (Bc q) _).trans ?_;simp only[eN,ND,DK,Aa];refine Ab ga ?_;simp only[eZ,eN,ND,DK,Aa]at sp ⊢;rw[Aw,A0 hlt];refine Ac ?_;rw[show ApA (0+o.length*3+1+2) (Ap eP (o++[Bc q])).length=true by rw[Bq Az];simp;omega];refine Ac ?_;rw[sp,A8 (by omega)];have el:(o++[Bc q]).length=(o++[Bc (q.1,q.2+(pv ps[i]).2)]).length:=by simp
    rw[el];refine Ab ih ?_;rfl
   .rw[if_neg heq,ApS,Asz,eo]at ih
    have hlen:((r.map Bc).reverse++[Bc q]).length<=i:=by simp at hs ⊢;omega
    have e1:Af.sub .i64 ((((r.map Bc).reverse++[Bc q]).length:Nat):Int) 1=(((r.map Bc).reverse.length:Nat):Int):=by
     rw[υ,Aqb];exact TA (by omega)
    have hlt:(r.map Bc).reverse.length<((r.map Bc).reverse++[Bc q]).length:=by simp
    rw[e1];refine Cn (by omega) ?_;rw[Aw,A0 hlt];refine Ac ?_;refine(AmC _ (Bc q) _).trans ?_;simp only[ND,DK,Aa];refine Am (show ¬(Bc q).v=ps[i].v from heq) ?_;generalize (r.map Bc).reverse++[Bc q]=o at hlen ih ⊢;have ho:=hlen;have hf:Bf (o.length+1) 40=true:=AJ (by omega) (by omega);have hb1:ApA (0+o.length*3) (Ap eP o).length=true:=AS Az o (by omega);have e3:Apx 0 (ο (0+o.length*3) (Ap eP o))++[iv ps[i].v,bv (AF (zv ps[i].z)).neg,eN (AF (zv ps[i].z)).abs]=Ap eP (o++[Bc (pv ps[i])]):=by
     rw[π,A4 Az o (by omega)];exact A6 eP o (Bc (pv ps[i]))
    refine Ab (Gx Kt Z hzi) ?_;simp only[eZ,eN,ND,DK,Aa]at e3 ⊢;rw[hf];refine Ac ?_;rw[hb1];refine Ac ?_;rw[e3,A8 (by omega)];rw[υ,Aqb]at ih;refine Ab ih ?_;rfl
include Kt Ks C in
theorem El{n k:Nat}{t:Tm}(h:TmB n k t)(hn:n<=1000000)(hk:k+n<=900000000):D.ask (.fn 89) [.agg (eT t)] []=some (.agg (eT t.lf.pln.tm),[]):=by
 obtain⟨ps,kz⟩:=t;have hlen:ps.length<=n:=h.len;obtain⟨r,gs,gr,gp,go⟩:=Acv Ks (l:=ps) (by omega);have gc:=C.clone ps (by omega);have gk:=Gx Kt Z (h.k.mono (show k<=1000000000 by omega));have hzr:∀ p∈r,Lz k p.z:=λp hp=>h.ps p (gp.mem_iff.1 hp)
 have gl:=AbP Kt Z r (k:=k) (by omega) (by omega) hzr [] false [] (AF (zv kz)).neg ((AF (zv kz)).abs.map eL) _ 0 [] rfl (by omega) (by simp) (by simp);rw[π]at gl;have hsrt:(r.map pv).Pairwise λa b=>a.1<=b.1:=by
  rw[List.pairwise_map];exact Ry Pt.v go
 have hpl:=Aea hsrt (gp.map pv);generalize hS:(r.map pv).foldl FM []=S at gl hpl;have hsb:∀ p∈((S.map Bc).reverse),Lz 1000000000 p.z:=by
  have key:∀(t s:List (Int × Int)) (j:Nat),(∀ q∈s,InB (k+j) q.2)->(∀ q∈t,InB k q.2)->∀ q∈t.foldl FM s,InB (k+j+t.length) q.2:=by
   intro t
   induction t with
   |nil=>intro s j hs _ q hq;exact hs q hq
   |cons p t ih=>
    intro s j hs ht q hq;have:=ih (FM s p) (j+1) (Sf hs ((ht p (ApK ..)).mono (show k<=k+j by omega))) (λq hq=>ht q (ApM _ hq)) q hq;rw[Apw];exact this.mono (by omega)
  intro p hp;rw[List.mem_reverse,AqH]at hp;obtain⟨q,hq,rfl⟩:=hp;have:=key (r.map pv) [] 0 (by simp) (λq hq=>by
   rw[AqH]at hq;obtain⟨p,hp,rfl⟩:=hq;exact(hzr p hp).inb) q (by rw[hS];exact hq)
  rw[ApO]at this;exact(this.lz).mono (by omega)
 have hSl:S.length<=1000000:=by
  have key:∀(t s:List (Int × Int)),(t.foldl FM s).length<=s.length+t.length:=by
   intro t
   induction t with
   |nil=>intro s;simp
   |cons p t ih=>
    intro s;have:=ih (FM s p);have h2:=Sg s p;rw[Arf,Apw];omega
  have:=key (r.map pv) [];rw[hS,ApO]at this;simp at this;omega
 obtain⟨cells,gd,gt,gle⟩:=Ai3 Ks (λp=>decide (zv p.z=0)) (S.map Bc).reverse (by simp;omega) λp hp=>XV Ks Z (hsb p hp)
 have hfin:((S.map Bc).reverse).filter (λp=>!decide (zv p.z=0))=(DS (ps.map pv)).map Bc:=by
  rw[←hpl,←List.map_reverse,List.filter_map]
  congr 1
  refine List.filter_congr λq _=>?_
  show (!decide (zv (AF q.2)=0))=_
  rw[Ay]
 rw[hfin]at gd gt gle;refine Kt.fn' AaX _ rfl ((e89 ..).trans ?_);refine Ab gc ?_;simp only[ND,DK,Aa];refine Ab gs ?_;simp only[ND,DK,Aa];refine Ab gk ?_;simp only[eZ,eN,ND,DK,Aa];rw[show ApA (0+ps.length*3) (Ap eP r).length=true from AS Az r (by omega)];refine Ac ?_;rw[Cf Az r (by omega),←gr];refine Ab gl ?_;simp only[ND,DK,Aa];refine Ab gd ?_;simp only[ND,DK,Aa];rw[show ApA (0+((DS (ps.map pv)).map Bc).length*3) cells.length=true by simp;simp at gle;omega];refine Ac ?_;rw[gt,CQ Az];rfl
end
def eR(r:List Pt):List AV:=[.ls (r.map eP)]
theorem AbI(p:Pt):J9 (eP p)=true:=rfl
def scP(x:Zi)(p:Pt):Pt:=⟨p.v,AF (zv p.z*zv x)⟩
theorem AiG{a b:Nat}(h:a+b<4611686018427387904):Af.add .i64 (a:Int) (b:Int)=((a+b:Nat):Int):=by
 rw[G7 (by omega) (by omega)];omega
section
variable {D:Orc} (Kt:Knows Al I7 D) (Kf:Knows Al Mm D) (Ks:Knows Al Fb D) (Z:ZF D) (C:PartF D)
include Kf
theorem AiX(rs:List (List Pt))(X:List (List AV))(hr:rs.length<=1000000):∀(m i s:Nat),rs.length-i=m->i<=rs.length->s+(rs.drop i).flatten.length<=1000000000->
  D.ask (.lp 250 0) [.ls X,iv (s:Int),.ls (rs.map eR),iv (rs.length:Int),iv (i:Int)] []=some (.tup [iv 0,.ls X,iv ((s+(rs.drop i).flatten.length:Nat):Int)],[]):=by
 intro m
 induction m with
 |zero=>
  intro i s hm hi hs;rw[Apz (by omega)];refine Kf.lp' LY _ rfl (by kernel_rfl) ((Aaf ..).trans ?_);exact Ah (by omega) rfl
 |succ m ih=>
  intro i s hm hi hs;have h1:i<rs.length:=by omega
  rw[χ h1,AqJ,υ]at hs ⊢;have ih:=ih (i+1) (s+rs[i].length) (by omega) (by omega) (by omega);rw[show s+rs[i].length+(rs.drop (i+1)).flatten.length=s+(rs[i].length+(rs.drop (i+1)).flatten.length) by omega]at ih;refine Kf.lp' LY _ rfl (by kernel_rfl) ((Aaf ..).trans ?_);refine Ai (by omega) ?_;rw[Aw,Au (Φ h1)];simp only[eR,ND,DK,Aa];rw[Ao,AiG (by omega),A8 (by omega)];refine Ah (by omega) ?_;refine Ab ih ?_;rfl
theorem AiY(rs:List (List Pt))(hr:rs.length<=1000000):∀(m i:Nat) (out:List Pt),rs.length-i=m->i<=rs.length->out.length+(rs.drop i).flatten.length<=1000000000->
  D.ask (.lp 250 1) [.sl 0 0 out.length 3,.ls (rs.map eR),iv (rs.length:Int),iv (i:Int)] [G9 out]=some (.tup [iv 2,.sl 1 0 (out++(rs.drop i).flatten).length 3],[.del,.set (G9 (out++(rs.drop i).flatten))]):=by
 intro m
 induction m with
 |zero=>
  intro i out hm hi hs;rw[Apz (by omega),List.flatten_nil,Aqx];refine Kf.lp' LY _ rfl (by kernel_rfl) ((Aag ..).trans ?_);exact Ah (by omega) rfl
 |succ m ih=>
  intro i out hm hi hs;have h1:i<rs.length:=by omega
  rw[χ h1,AqJ]at hs ⊢;rw[υ]at hs;have ih:=ih (i+1) (out++rs[i]) (by omega) (by omega) (by rw[υ];omega);rw[ApZ]at ih;refine Kf.lp' LY _ rfl (by kernel_rfl) ((Aag ..).trans ?_);refine Ai (by omega) ?_;rw[Aw,Au (Φ h1)];revert hs ih;generalize rs[i]=r;intro hs ih;simp only[eR,ND,DK,Aa];rw[IM Az,Ao,A8 (by omega)];refine Ac ?_
  by_cases h0:r=[]
  .subst h0
   rw[Aqx]at ih;rw[ApU]at ih ⊢;refine Ac ?_;refine Ab ih ?_;rfl
  .have hz:Nat.beq r.length 0=false:=by
    cases r with
    |nil=>exact absurd rfl h0
    |cons x r=>rfl
   rw[hz];refine A1 ?_;rw[EU,Kb AbI];refine Ac ?_;rw[AJ (n:=out.length+r.length) (b:=40) (by omega) (by omega)];refine Ac ?_;rw[show ApA (0+out.length*3) (Ap eP out).length=true from AS Az out (by omega)];refine Ac ?_;have e3:Apx 0 (ο (0+out.length*3) (Ap eP out))++Ap eP r=Ap eP (out++r):=by
    rw[π,A4 Az out (by omega)];simp[Ap]
   rw[e3];rw[show (out++r).length=out.length+r.length from υ]at ih;refine Ab ih ?_;rfl
include C in
theorem Xx(a b:List Pt)(h:a.length+b.length<=1000000):D.ask (.fn 250) [.ls [[.ls (a.map eP)],[.ls (b.map eP)]]] []=some (.ls ((a++b).map eP),[]):=by
 have hf:([a,b]).flatten=a++b:=by simp
 have g0:=AiX Kf [a,b] (([a,b]).map eR) (by simp) _ 0 0 rfl (by simp) (by rw[π,hf,υ];omega);rw[π,hf,ApN]at g0;have gg:=C.grow (a++b).length (by rw[υ];omega);have g1:=AiY Kf [a,b] (by simp) _ 0 [] rfl (by simp) (by rw[π,hf,υ];simp;omega);rw[π,hf,ApU]at g1;refine Kf.fn' LY _ rfl ((An8 ..).trans ?_);refine Ab g0 ?_;simp only[ND,DK,Aa];refine Ab gg ?_;simp only[ND,DK,Aa];refine Ab g1 ?_;simp only[ND,DK,Aa];rw[show ApA (0+(a++b).length*3) (Ap eP (a++b)).length=true from AS Az (a++b) (by omega)];refine Ac ?_;rw[Cf Az (a++b) rfl];rfl
include Kt Ks Z C
theorem AiH{n m k:Nat}{a b:Tm}(ha:TmB n k a)(hb:TmB m k b)(hn:n+m<=1000000)(hk:k+1+(n+m)<=900000000):D.ask (.fn 223) [.agg (eT a),.agg (eT b)] []=some (.agg (eT (a.lf.add b.lf).tm),[]):=by
 obtain⟨ap,ak⟩:=a;obtain⟨bp,bk⟩:=b;have l1:ap.length<=n:=ha.len;have l2:bp.length<=m:=hb.len;have gc:=Xx Kf C ap bp (by omega);have ga:=Z.add ak bk (ha.k.mono (by omega)) (hb.k.mono (by omega));have hT:TmB (n+m) (k+1) ⟨ap++bp,AF (zv ak+zv bk)⟩:=by
  refine⟨by simp;omega,λp hp=>?_,?_⟩
  .rcases List.mem_append.1 hp with h|h
   .exact(ha.ps p h).mono (by omega)
   .exact(hb.ps p h).mono (by omega)
  .exact(InB.add ha.k.inb hb.k.inb).lz
 have gp:=El Kt Ks Z C hT hn (by omega);have el:(⟨ap++bp,AF (zv ak+zv bk)⟩:Tm).lf.pln=Lf.add (Tm.lf ⟨ap,ak⟩) (Tm.lf ⟨bp,bk⟩):=by
  unfold Lf.add Tm.lf;simp only[List.map_append,Ay]
 rw[el]at gp;refine Kf.fn' Ag4 _ rfl ((AnX ..).trans ?_);refine Ab gc ?_;simp only[ND,DK,Aa];refine Ab ga ?_;simp only[eZ,eN,ND,DK,Aa];refine Ab gp ?_;rfl
omit Kt Ks C in
theorem Ack{k j:Nat}{x:Zi}(hx:Lz j x)(hx24:x.abs.length<24)(ps:List Pt)(hl:ps.length<=1000000)(hz:∀ p∈ps,Lz k p.z)(hk:k<=400000000)(hj:j<=400000000)(r0:List (List AV))(r1:Bool)(r2:List (List AV))(k1:Bool)(k2:List (List AV)):∀(m i:Nat) (out:List Pt),ps.length-i=m->i<=ps.length->out.length<=i->
  D.ask (.lp 251 0) [.ptr 0 0,.ptr 1 0,.ptr 2 0,.ls (ps.map eP),iv (ps.length:Int),iv (i:Int)] [⟨eZ x,true,false⟩,⟨[.ls r0,bv r1,.ls r2],true,false⟩,⟨[.sl 3 0 out.length 3,bv k1,.ls k2],true,false⟩,G9 out]
   = some (.tup [iv 0,.ptr 1 0,.ptr 2 0],[.del,.set ⟨[.ls r0,bv r1,.ls r2],true,false⟩,.set ⟨[.sl 4 0 (out++(ps.drop i).map (scP x)).length 3,bv k1,.ls k2],true,false⟩,.del,.set (G9 (out++(ps.drop i).map (scP x)))]):=by
 intro m
 induction m with
 |zero=>
  intro i out hm hi ho;rw[Apz (by omega),Aq3,Aqx];refine Kf.lp' SC _ rfl (by kernel_rfl) ((Aah ..).trans ?_);exact Ah (by omega) rfl
 |succ m ih=>
  intro i out hm hi ho;have h1:i<ps.length:=by omega
  have hzk:=hz ps[i] (ApG h1);have gm:=Z.mul ps[i].z x (hzk.mono (by omega)) (hx.mono (by omega)) (.inr hx24);rw[χ h1,ApS];have ih:=ih (i+1) (out++[scP x ps[i]]) (by omega) (by omega) (by simp;omega);rw[ApZ,Arh,show (out++[scP x ps[i]]).length=out.length+1 by simp]at ih;have hf:Bf (out.length+1) 40=true:=AJ (by omega) (by omega);have hb1:ApA (0+out.length*3) (Ap eP out).length=true:=AS Az out (by omega);have e3:Apx 0 (ο (0+out.length*3) (Ap eP out))++[iv ps[i].v,bv (AF (zv ps[i].z*zv x)).neg,eN (AF (zv ps[i].z*zv x)).abs]=Ap eP (out++[scP x ps[i]]):=by
   rw[π,A4 Az out (by omega)];exact A6 eP out (scP x ps[i])
  obtain⟨xn,xa⟩:=x;refine Kf.lp' SC _ rfl (by kernel_rfl) ((Aah ..).trans ?_);refine Ai (by omega) ?_;rw[Aw,Au (Φ h1)];simp only[eP,eN,ND,DK,Aa];refine Ab gm ?_;simp only[eZ,eN,ND,DK,Aa]at e3 ⊢;rw[hf];refine Ac ?_;rw[hb1];refine Ac ?_;rw[e3,A8 (by omega)];refine Ab ih ?_;rfl
theorem Acl{n k j:Nat}{a:Tm}{x:Zi}(ha:TmB n k a)(hx:Lz j x)(hx24:x.abs.length<24)(hn:n<=1000000)(hj:j<=23)(hk:k+j+n<=400000000):D.ask (.fn 251) [.agg (eT a),.agg (eZ x)] []=some (.agg (eT (a.lf.scale (zv x)).tm),[]):=by
 obtain⟨ap,ak⟩:=a;have l1:ap.length<=n:=ha.len;have gm:=Z.mul ak x (ha.k.mono (by omega)) (hx.mono (by omega)) (.inr hx24);have gl:=Ack Kf Z hx hx24 ap (by omega) ha.ps (by omega) (by omega) [] false [] (AF (zv ak*zv x)).neg ((AF (zv ak*zv x)).abs.map eL) _ 0 [] rfl (by omega) (by simp);rw[π,ApU]at gl;have hT:TmB n (k+j) ⟨ap.map (scP x),AF (zv ak*zv x)⟩:=by
  refine⟨by simpa using l1,λp hp=>?_,(InB.mul ha.k.inb hx.inb).lz⟩;rw[AqH]at hp;obtain⟨q,hq,rfl⟩:=hp;exact(InB.mul (ha.ps q hq).inb hx.inb).lz
 have gp:=El Kt Ks Z C hT hn (by omega);have el:(⟨ap.map (scP x),AF (zv ak*zv x)⟩:Tm).lf.pln=Lf.scale (Tm.lf ⟨ap,ak⟩) (zv x):=by
  unfold Lf.scale Tm.lf;simp only[List.map_map,Ay]
  congr 2
  refine List.map_congr_left λp _=>?_
  show ((p.v,zv (AF (zv p.z*zv x))):Int × Int)=_
  rw[Ay];rfl
 rw[el]at gp;obtain⟨xn,xa⟩:=x;refine Kf.fn' SC _ rfl ((An9 ..).trans ?_);refine Ab gm ?_;simp only[eZ,eN,ND,DK,Aa,Ao];refine Ab gl ?_;simp only[ND,DK,Aa];rw[show ApA (0+(ap.map (scP ⟨xn,xa⟩)).length*3) (Ap eP (ap.map (scP ⟨xn,xa⟩))).length=true from AS Az _ (by omega)];refine Ac ?_;rw[Cf Az _ rfl];refine Ab gp ?_;rfl
theorem AjS{n k:Nat}{a:Tm}(ha:TmB n k a)(hn:n<=1000000)(hk:k+1+n<=400000000):D.ask (.fn 224) [.agg (eT a)] []=some (.agg (eT (a.lf.scale (-1)).tm),[]):=by
 have g1:=Z.of_ (-1) (by omega) (by omega);have hx:Lz 1 (AF (-1)):=InB.lz (by unfold InB;decide);have g2:=Acl Kt Kf Ks Z C ha hx (by have:=hx.len;omega) hn (by omega) hk;rw[Ay]at g2;refine Kf.fn' Ag5 _ rfl ((AnY ..).trans ?_);refine Ab g1 ?_;simp only[eZ,eN,ND,DK,Aa];refine Ab g2 ?_;rfl
theorem Acw{n m k:Nat}{a b:Tm}(ha:TmB n k a)(hb:TmB m k b)(hn:n+m<=1000000)(hk:k+2+2*(n+m)<=400000000):D.ask (.fn 173) [.agg (eT a),.agg (eT b)] []=some (.agg (eT (a.lf.sub b.lf).tm),[]):=by
 have g1:=AjS Kt Kf Ks Z C hb (by omega) (by omega);have hn1:LB m (k+1+m) (b.lf.scale (-1)):=hb.lb.scale (by unfold InB;decide);have g2:=AiH Kt Kf Ks Z C (ha.mono (ω _) (show k<=k+1+m by omega)) hn1.tb hn (by omega);rw[DN]at g2;refine Kf.fn' AgR _ rfl ((Anx ..).trans ?_);refine Ab g1 ?_;simp only[eT,eN,ND,DK,Aa];refine Ab g2 ?_;rfl
omit Ks C in
theorem Yi{z:Zi}(hz:Lz 1000000000 z):D.ask (.fn 170) [.agg (eZ z)] []=some (.agg (eT (Lf.num (zv z)).tm),[]):=by
 have g:=Gx Kt Z hz;refine Kf.fn' AgO _ rfl ((Anu ..).trans ?_);refine Ab g ?_;rfl
theorem Af2{n k:Nat}{t:Tm}(h:TmB n k t)(hn:n<=1000000)(hk:k+n<=900000000):D.ask (.fn 172) [.agg (eT t)] []=some (.agg (eT t.lf.pln.tm++[bv true]),[]):=by
 have g:=El Kt Ks Z C h hn hk;refine Kf.fn' AgQ _ rfl ((Anw ..).trans ?_);refine Ab g ?_;rfl
theorem SU{n k:Nat}{t:Tm}(h:TmB n k t)(hn:n<=1000000)(hk:k+n<=900000000):D.ask (.fn 174) [.agg (eT t)] []=some (.agg (eT t.lf.pln.tm++[bv false]),[]):=by
 have g:=El Kt Ks Z C h hn hk;refine Kf.fn' AgS _ rfl ((Anz ..).trans ?_);refine Ab g ?_;rfl
end
theorem F6(k:Int)(t:Tm)(e:Bool)(ks:List Fm):I2 (.mk k t e ks)=if k=4\/k=5 then ks else if k=3 then ks.take 1 else []:=rfl
theorem Lk{k:Int}{t:Tm}{e:Bool}{ks:List Fm}{x:Fm}(hx:x∈I2 (.mk k t e ks)):x∈ks:=by
 rw[F6]at hx;split at hx
 .exact hx
 .split at hx
  .exact List.mem_of_mem_take hx
  .cases hx
theorem Lj(k:Int)(t:Tm)(e:Bool)(ks:List Fm):(I2 (.mk k t e ks)).length<=ks.length:=by
 rw[F6];split
 .exact ω _
 .split
  .simp;omega
  .simp
theorem EV(x:Fm):(eF x).length=6:=by
 obtain⟨k,t,e,ks⟩:=x;rw[eF];rfl
inductive FB (n k:Nat):Fm->Prop
 |mk {kind:Int} {t:Tm} {e:Bool} {ks:List Fm} (ht:TmB n k t) (hl:ks.length<=1000000) (h:∀ x∈ks,FB n k x):FB n k (.mk kind t e ks)
theorem LB.sub{n m k:Nat}{a b:Lf}(ha:LB n k a)(hb:LB m k b):LB (n+m) (2*k+2+2*(n+m)) (a.sub b):=by
 have h1:LB m (k+1+m) (b.scale (-1)):=hb.scale (by unfold InB;decide);exact(ha.add h1).mono (ω _) (by omega)
theorem Hu{k:Int}{t:Tm}{e:Bool}{ks:List Fm}{x:Fm}(h:x∈ks):SizeOf.sizeOf x<SizeOf.sizeOf (Fm.mk k t e ks):=by
 have:=List.sizeOf_lt_of_mem h;simp only[Fm.mk.sizeOf_spec];omega
section
variable {D:Orc} (Kt:Knows Al I7 D) (Kf:Knows Al Mm D) (Ks:Knows Al Fb D) (Z:ZF D) (C:PartF D) (Ko:Knows Al Mk D)
include Ko
theorem Gl(b:Bool):D.ask (.fn 64) [bv b] []=some (.agg (eF (MI b)),[]):=by
 refine Ko.fn' Ak9 _ rfl ((e64 ..).trans ?_)
 cases b<;>rfl
include Kt Ks Z C in
theorem KS{n k:Nat}{t:Tm}(h:TmB n k t)(hn:n<=1000000)(hk:k+n<=900000000)(e:Bool):D.ask (.fn 171) [.agg [.ls (t.ps.map eP),bv t.k.neg,eN t.k.abs,bv e]] []=some (.agg (eF (DR t.lf.pln e)),[]):=by
 have g:=El Kt Ks Z C h hn hk;obtain⟨ps,kz⟩:=t;have g2:D.ask (.fn 222) [.agg [.ls (ps.map eP),bv kz.neg,eN kz.abs,bv e]] []=some (.agg (eT (Tm.lf ⟨ps,kz⟩).pln.tm++[bv e]),[]):=by
  refine Ko.fn' Ag3 _ rfl ((AnW ..).trans ?_);refine Ab g ?_;rfl
 refine Ko.fn' AgP _ rfl ((Anv ..).trans ?_);refine Ab g2 ?_;rfl
theorem Q8(x:Fm)(hl:x.kids.length<=1000000):D.ask (.fn 225) [.agg (eF x)] []=some (.ls ((I2 x).map eF),[]):=by
 obtain⟨k,t,e,ks⟩:=x;have hl:ks.length<=1000000:=hl;refine Ko.fn' Ag6 _ rfl ((AnZ ..).trans ?_);rw[CW];rw[F6]
 by_cases h4:k=4
 .rw[if_pos (.inl h4)]
  exact KW h4
 refine Am h4 ?_
 by_cases h5:k=5
 .rw[if_pos (.inr h5)]
  exact KW h5
 refine Am h5 ?_;rw[if_neg (by omega)]
 by_cases h3:k=3
 .rw[if_pos h3]
  refine Av h3 ?_;rw[Ao,AmB,show min (ks.length:Int) 1=((min ks.length 1:Nat):Int) by omega,Aw];rw[show J1 0 (min ks.length 1) ks.length=true by unfold J1;rw[Aqr (Aqk _),Aqr (Nat.min_le_left ..)]];refine Ac ?_;rw[IM EV];refine Ac ?_;rw[KE,JT,π,←List.map_take];have:ks.take (min ks.length 1)=ks.take 1:=by
   rw[List.take_eq_take_iff];omega
  rw[this]
 .rw[if_neg h3]
  exact Am h3 rfl
theorem Xt(ks:List Fm)(hl:ks.length<=1000000)(g:∀ x∈ks,D.ask (.fn 175) [.agg (eF x)] []=some (.agg (eF (BK x)),[])):∀(m i:Nat) (out:List Fm),ks.length-i=m->i<=ks.length->out.length<=i->
  D.ask (.lp 176 0) [.sl 0 0 out.length 6,.ls (ks.map eF),iv (ks.length:Int),iv (i:Int)] [Δ (Ap eF out) true true]=some (.tup [iv 0,.sl 1 0 (out++(ks.drop i).map BK).length 6],[.del,.set (Δ (Ap eF (out++(ks.drop i).map BK)) true true)]):=by
 intro m
 induction m with
 |zero=>
  intro i out hm hi ho;rw[Apz (by omega),Aq3,Aqx];refine Ko.lp' Sr _ rfl (by kernel_rfl) ((ZW ..).trans ?_);exact Ah (by omega) rfl
 |succ m ih=>
  intro i out hm hi ho;have h1:i<ks.length:=by omega
  have gx:=g ks[i] (ApG h1);rw[χ h1,ApS];have ih:=ih (i+1) (out++[BK ks[i]]) (by omega) (by omega) (by simp;omega);rw[ApZ,Arh,show (out++[BK ks[i]]).length=out.length+1 by simp]at ih;have hf:Bf (out.length+1) 96=true:=AJ (by omega) (by omega);have hb1:ApA (0+out.length*6) (Ap eF out).length=true:=AS EV out (by omega);have e3:Apx 0 (ο (0+out.length*6) (Ap eF out))++eF (BK ks[i])=Ap eF (out++[BK ks[i]]):=by
   rw[π,A4 EV out (by omega)];exact A6 eF out _
  refine Ko.lp' Sr _ rfl (by kernel_rfl) ((ZW ..).trans ?_);refine Ai (by omega) ?_;rw[Aw,Au (Φ h1)];revert gx ih e3;generalize BK ks[i]=y;generalize ks[i]=x;obtain⟨xk,xt,xe,xs⟩:=x;obtain⟨yk,yt,ye,ys⟩:=y;intro gx ih e3;simp only[eF,eN,ND,DK,Aa]at gx e3 ⊢;refine Ab gx ?_;simp only[ND,DK,Aa];rw[hf];refine Ac ?_;rw[hb1];refine Ac ?_;rw[e3,A8 (by omega)];refine Ab ih ?_;rfl
theorem FS{ks:List Fm}(hl:ks.length<=1000000)(g:∀ x∈ks,D.ask (.fn 175) [.agg (eF x)] []=some (.agg (eF (BK x)),[])):D.ask (.fn 176) [.ls (ks.map eF)] []=some (.ls ((ks.map BK).map eF),[]):=by
 have gl:=Xt Ko ks hl g _ 0 [] rfl (by omega) (by simp);rw[π,ApU]at gl;refine Ko.fn' Sr _ rfl ((AnB ..).trans ?_);rw[Ao];refine Ab gl ?_;simp only[ND,DK,Aa];rw[show ApA (0+(ks.map BK).length*6) (Ap eF (ks.map BK)).length=true from AS EV _ (by omega)];refine Ac ?_;rw[Cf EV _ rfl]
include Kt Ks Z C in
theorem Hl{n k:Nat}(hn:n<=1000000)(hk:k+n<=900000000):∀(N:Nat) (x:Fm),SizeOf.sizeOf x<N->FB n k x->D.ask (.fn 175) [.agg (eF x)] []=some (.agg (eF (BK x)),[]):=by
 intro N
 induction N with
 |zero=>intro x h;omega
 |succ N ih=>
  intro x hN hx;obtain⟨ht,hl,h⟩:=hx;rename_i kd t e ks;refine Ko.fn' AgT _ rfl ((AnA ..).trans ?_);rw[BK]
  by_cases h0:kd=0
  .rw[if_pos h0]
   refine Av h0 ?_;refine Ab (Gl Ko true) ?_;rfl
  rw[if_neg h0];refine Am h0 ?_
  by_cases h2:kd=2
  .rw[if_pos h2]
   refine Av h2 ?_;refine Ab (KS Kt Ks Z C Ko ht hn hk e) ?_;rfl
  rw[if_neg h2];refine Am h2 ?_
  by_cases h3:kd=3
  .rw[if_pos h3,RX]
   refine Av h3 ?_;have hk:=Q8 Ko (.mk kd t e ks) hl;have hks:∀ x∈I2 (.mk kd t e ks),x∈ks:=λx hx=>Lk hx
   have hkl:(I2 (.mk kd t e ks)).length<=1000000:=Aqm (Lj kd t e ks) hl;have gc:=FS Ko hkl λx hx=>ih x (by have:=Hu (k:=kd) (t:=t) (e:=e) (hks x hx);omega) (h x (hks x hx))
   simp only[eF,eN,ND,DK,Aa]at hk ⊢;refine Ab hk ?_;simp only[ND,DK,Aa];refine Ab gc ?_;rw[F6];rw[if_neg (by omega),if_pos h3,h3];unfold kF;rw[eF,CW];rfl
  rw[if_neg h3];refine Am h3 ?_
  by_cases h4:kd=4
  .rw[if_pos (.inl h4),Hk]
   refine Av h4 ?_;have hk:=Q8 Ko (.mk kd t e ks) hl;have hks:∀ x∈I2 (.mk kd t e ks),x∈ks:=λx hx=>Lk hx
   have hkl:(I2 (.mk kd t e ks)).length<=1000000:=Aqm (Lj kd t e ks) hl;have gc:=FS Ko hkl λx hx=>ih x (by have:=Hu (k:=kd) (t:=t) (e:=e) (hks x hx);omega) (h x (hks x hx))
   simp only[eF,eN,ND,DK,Aa]at hk ⊢;refine Ab hk ?_;simp only[ND,DK,Aa];refine Ab gc ?_;rw[F6];rw[if_pos (.inl h4)];unfold kF;rw[eF,CW];rfl
  refine Am h4 ?_
  by_cases h5:kd=5
  .rw[if_pos (.inr h5),Hk]
   refine Av h5 ?_;have hk:=Q8 Ko (.mk kd t e ks) hl;have hks:∀ x∈I2 (.mk kd t e ks),x∈ks:=λx hx=>Lk hx
   have hkl:(I2 (.mk kd t e ks)).length<=1000000:=Aqm (Lj kd t e ks) hl;have gc:=FS Ko hkl λx hx=>ih x (by have:=Hu (k:=kd) (t:=t) (e:=e) (hks x hx);omega) (h x (hks x hx))
   simp only[eF,eN,ND,DK,Aa]at hk ⊢;refine Ab hk ?_;simp only[ND,DK,Aa];refine Ab gc ?_;rw[F6];rw[if_pos (.inr h5)];unfold kF;rw[eF,CW];rfl
  rw[if_neg (by omega)];refine Am h5 ?_;refine Ab (Gl Ko false) ?_;rfl
include Kt Ks Z C in
theorem VS{n k:Nat}(hn:n<=1000000)(hk:k+n<=900000000){x:Fm}(h:FB n k x):D.ask (.fn 113) [.agg (eF x)] []=some (.agg (eF (kF 3 [BK x])),[]):=by
 have g:=Hl Kt Ks Z C Ko hn hk _ x (Aqe _) h;obtain⟨xk,xt,xe,xs⟩:=x;refine Ko.fn' Agt _ rfl ((Am3 ..).trans ?_);generalize BK (.mk xk xt xe xs)=y at g ⊢;obtain⟨yk,yt,ye,ys⟩:=y;simp only[eF,eN]at g;refine Ab g ?_;unfold kF;rw[eF,eFs,eFs,eF];rfl
include Kt Ks Z C in
theorem Adh{n k:Nat}(hn:n<=1000000)(hk:k+n<=900000000){l:List Fm}(hl:l.length<=1000000)(h:∀ x∈l,FB n k x):D.ask (.fn 114) [.ls (l.map eF)] []=some (.agg (eF (kF 4 (l.map BK))),[]):=by
 have g:=FS Ko hl λx hx=>Hl Kt Ks Z C Ko hn hk _ x (Aqe _) (h x hx)
 refine Ko.fn' Agu _ rfl ((Am4 ..).trans ?_);refine Ab g ?_;unfold kF;rw[eF,CW];rfl
include Kt Ks Z C in
theorem AdC{n k:Nat}(hn:n<=1000000)(hk:k+n<=900000000){l:List Fm}(hl:l.length<=1000000)(h:∀ x∈l,FB n k x):D.ask (.fn 115) [.ls (l.map eF)] []=some (.agg (eF (kF 5 (l.map BK))),[]):=by
 have g:=FS Ko hl λx hx=>Hl Kt Ks Z C Ko hn hk _ x (Aqe _) (h x hx)
 refine Ko.fn' Agv _ rfl ((Am5 ..).trans ?_);refine Ab g ?_;unfold kF;rw[eF,CW];rfl
omit Ko in
theorem EP{n k:Nat}{l:Lf}(h:LB n k l)(e:Bool):FB n k (DR l e):=.mk h.tb (by simp) (by simp)
omit Ko in
theorem Rg:LB 0 1 (Lf.num 1):=⟨by simp[Lf.num],by simp[Lf.num],by unfold InB Lf.num;decide⟩
omit Ko in
theorem AdL{l r:Lf}(hl:LB 64 5000 l)(hr:LB 64 5000 r)(op:Int):FB 128 30000 (OZ op l r):=by
 have h1:=(hl.sub hr).mono (show 64+64<=128 by omega) (show _<=11000 by omega);have h2:=(hr.sub hl).mono (show 64+64<=128 by omega) (show _<=11000 by omega);have n1:=Rg.mono (ω 0) (show 1<=11000 by omega);have h3:=(h1.sub n1).mono (show 128+0<=128 by omega) (show _<=30000 by omega);have h4:=(h2.sub n1).mono (show 128+0<=128 by omega) (show _<=30000 by omega);have a0:TmB 128 30000 Y8:=by rw[←U1];exact LB.tb ⟨by simp[OR],by simp[OR],InB.zero _⟩
 have w1:=h1.mono (ω 128) (show 11000<=30000 by omega);have w2:=h2.mono (ω 128) (show 11000<=30000 by omega);unfold OZ
 repeat' split
 .exact EP w1 _
 .exact .mk a0 (by simp) (λx hx=>by rw[List.mem_singleton.1 hx];exact EP w1 _)
 .exact EP h4 _
 .exact EP w2 _
 .exact EP h3 _
 .exact EP w1 _
 .exact .mk a0 (by simp) (by simp)
include Kt Kf Ks Z C
theorem AdM{l r:Tm}(hl:TmB 64 5000 l)(hr:TmB 64 5000 r)(op:Int):D.ask (.fn 112) [iv op,.agg (eT l),.agg (eT r)] []=some (.agg (eF (OZ op l.lf r.lf)),[]):=by
 have g1:=Z.of_ 1 (by omega) (by omega);have g2:=Yi Kt Kf Z (z:=AF 1) ((InB.lz (k:=1) (by unfold InB;decide)).mono (by omega));rw[Ay]at g2;have s1:∀{a b:Tm},TmB 64 5000 a->TmB 64 5000 b->D.ask (.fn 173) [.agg (eT a),.agg (eT b)] []=some (.agg (eT (a.lf.sub b.lf).tm),[]):=λha hb=>Acw Kt Kf Ks Z C ha hb (by omega) (by omega)
 have b1:∀{a b:Tm},TmB 64 5000 a->TmB 64 5000 b->LB 128 11000 (a.lf.sub b.lf):=λha hb=>(ha.lb.sub hb.lb).mono (by omega) (by omega)
 have z1:∀{a b:Tm},TmB 64 5000 a->TmB 64 5000 b->∀ e:Bool,D.ask (.fn 171) [.agg [.ls ((a.lf.sub b.lf).tm.ps.map eP),bv (a.lf.sub b.lf).tm.k.neg,eN (a.lf.sub b.lf).tm.k.abs,bv e]] []=some (.agg (eF (DR (a.lf.sub b.lf) e)),[]):=λha hb e=>by
  have:=KS Kt Ks Z C Ko (b1 ha hb).tb (by omega) (by omega) e
  rwa [DN,Dm]at this
 have q0:∀{l r:Tm},TmB 64 5000 l->TmB 64 5000 r->D.ask (.fn 112) [iv 0,.agg (eT l),.agg (eT r)] []=some (.agg (eF (DR (l.lf.sub r.lf) true)),[]):=λ{l r} hl hr=>by
  have gs:=s1 hl hr;have gz:=Af2 Kt Kf Ks Z C (b1 hl hr).tb (by omega) (by omega);rw[DN,Dm]at gz;have go:=z1 hl hr true;obtain⟨lp,lk⟩:=l;obtain⟨rp,rk⟩:=r;refine Ko.fn' LV _ rfl ((Uq ..).trans ?_);refine Ab g1 ?_;simp only[eZ,eN,ND,DK,Aa];refine Ab g2 ?_;simp only[eT,eN,ND,DK,Aa];refine Av rfl ?_;refine Ab gs ?_;simp only[eT,eN,ND,DK,Aa,AqN,ApU]at gz ⊢;refine Ab gz ?_;simp only[ND,DK,Aa];refine Ab go ?_;rfl
 have q3:∀{l r:Tm},TmB 64 5000 l->TmB 64 5000 r->D.ask (.fn 112) [iv 3,.agg (eT l),.agg (eT r)] []=some (.agg (eF (DR (r.lf.sub l.lf) false)),[]):=λ{l r} hl hr=>by
  have gs:=s1 hr hl;have gz:=SU Kt Kf Ks Z C (b1 hr hl).tb (by omega) (by omega);rw[DN,Dm]at gz;have go:=z1 hr hl false;obtain⟨lp,lk⟩:=l;obtain⟨rp,rk⟩:=r;refine Ko.fn' LV _ rfl ((Uq ..).trans ?_);refine Ab g1 ?_;simp only[eZ,eN,ND,DK,Aa];refine Ab g2 ?_;simp only[eT,eN,ND,DK,Aa];refine Am (by decide) ?_;refine Am (by decide) ?_;refine Am (by decide) ?_;refine Av rfl ?_;refine Ab gs ?_;simp only[eT,eN,ND,DK,Aa,AqN,ApU]at gz ⊢;refine Ab gz ?_;simp only[ND,DK,Aa];refine Ab go ?_;rfl
 have q2:∀{l r:Tm},TmB 64 5000 l->TmB 64 5000 r->D.ask (.fn 112) [iv 2,.agg (eT l),.agg (eT r)] []=some (.agg (eF (DR ((r.lf.sub l.lf).sub (.num 1)) false)),[]):=λ{l r} hl hr=>by
  have gs:=s1 hr hl;have n1:=(Rg.mono (ω 0) (show 1<=11000 by omega)).tb;have gs2:=Acw Kt Kf Ks Z C (b1 hr hl).tb n1 (by omega) (by omega);have b2:LB 128 30000 ((r.lf.sub l.lf).sub (.num 1)):=((b1 hr hl).sub (Rg.mono (ω 0) (show 1<=11000 by omega))).mono (by omega) (by omega);rw[DN,DN]at gs2;have gz:=SU Kt Kf Ks Z C b2.tb (by omega) (by omega);rw[DN,Dm]at gz;have go:=KS Kt Ks Z C Ko b2.tb (by omega) (by omega) false;rw[DN,Dm]at go;obtain⟨lp,lk⟩:=l;obtain⟨rp,rk⟩:=r;refine Ko.fn' LV _ rfl ((Uq ..).trans ?_);refine Ab g1 ?_;simp only[eZ,eN,ND,DK,Aa];refine Ab g2 ?_;simp only[eT,eN,ND,DK,Aa];refine Am (by decide) ?_;refine Am (by decide) ?_;refine Av rfl ?_;refine Ab gs ?_;simp only[eT,eN,ND,DK,Aa,AqN,ApU]at gz gs2 ⊢;refine Ab gs2 ?_;simp only[ND,DK,Aa];refine Ab gz ?_;simp only[ND,DK,Aa];refine Ab go ?_;rfl
 unfold OZ
 by_cases h0:op=0
 .rw[if_pos h0,h0]
  exact q0 hl hr
 rw[if_neg h0]
 by_cases h1:op=1
 .rw[if_pos h1,h1]
  have g:=q0 hl hr;have gd:=VS Kt Ks Z C Ko (n:=128) (k:=11000) (by omega) (by omega) (EP (b1 hl hr) true);rw[(CanF.atom _ _ (Dm _ _)).clone]at gd;obtain⟨lp,lk⟩:=l;obtain⟨rp,rk⟩:=r;refine Ko.fn' LV _ rfl ((Uq ..).trans ?_);refine Ab g1 ?_;simp only[eZ,eN,ND,DK,Aa];refine Ab g2 ?_;simp only[eT,eN,ND,DK,Aa];refine Am (by decide) ?_;refine Av rfl ?_;refine Ab g ?_;unfold DR at gd ⊢;simp only[eF,eN,ND,DK,Aa]at gd ⊢;refine Ab gd ?_;unfold kF;rw[eF,eFs,eFs,eF];rfl
 rw[if_neg h1]
 by_cases h2:op=2
 .rw[if_pos h2,h2]
  exact q2 hl hr
 rw[if_neg h2]
 by_cases h3:op=3
 .rw[if_pos h3,h3]
  exact q3 hl hr
 rw[if_neg h3]
 by_cases h4:op=4
 .rw[if_pos h4,h4]
  have g:=q2 hr hl;obtain⟨lp,lk⟩:=l;obtain⟨rp,rk⟩:=r;refine Ko.fn' LV _ rfl ((Uq ..).trans ?_);refine Ab g1 ?_;simp only[eZ,eN,ND,DK,Aa];refine Ab g2 ?_;simp only[eT,eN,ND,DK,Aa];refine Am (by decide) ?_;refine Am (by decide) ?_;refine Am (by decide) ?_;refine Am (by decide) ?_;refine Av rfl ?_;refine Ab g ?_;rfl
 rw[if_neg h4]
 by_cases h5:op=5
 .rw[if_pos h5,h5]
  have g:=q3 hr hl;obtain⟨lp,lk⟩:=l;obtain⟨rp,rk⟩:=r;refine Ko.fn' LV _ rfl ((Uq ..).trans ?_);refine Ab g1 ?_;simp only[eZ,eN,ND,DK,Aa];refine Ab g2 ?_;simp only[eT,eN,ND,DK,Aa];refine Am (by decide) ?_;refine Am (by decide) ?_;refine Am (by decide) ?_;refine Am (by decide) ?_;refine Am (by decide) ?_;refine Av rfl ?_;refine Ab g ?_;rfl
 rw[if_neg h5];obtain⟨lp,lk⟩:=l;obtain⟨rp,rk⟩:=r;refine Ko.fn' LV _ rfl ((Uq ..).trans ?_);refine Ab g1 ?_;simp only[eZ,eN,ND,DK,Aa];refine Ab g2 ?_;simp only[eT,eN,ND,DK,Aa];refine Am h0 ?_;refine Am h1 ?_;refine Am h2 ?_;refine Am h3 ?_;refine Am h4 ?_;refine Am h5 ?_;refine Ab (Gl Ko false) ?_;rfl
end
section
variable {D:Orc} (Kt:Knows Al I7 D) (Kf:Knows Al Mm D) (Ks:Knows Al Fb D) (Z:ZF D) (C:PartF D) (Ko:Knows Al Mk D) (Kl:Knows Al TH D)
include Kl
theorem Ae6(a b:Int):D.ask (.lp 277 0) [iv 0,.ls [[iv a],[iv b]],iv 2,iv 2] []=some (.tup [iv 0,iv 0],[]):=by
 refine Kl.lp' PG _ rfl (by kernel_rfl) ((Uz ..).trans ?_);exact Ah (by omega) rfl
theorem Ae7(a b:Int):D.ask (.lp 277 0) [iv 0,.ls [[iv a],[iv b]],iv 2,iv 1] []=some (if b=0 then .tup [iv 0,iv 0] else .tup [bv true,iv b],[]):=by
 refine Kl.lp' PG _ rfl (by kernel_rfl) ((Uz ..).trans ?_);refine Ai (by omega) ?_
 show br (Af.eq b 0) _ _=_
 by_cases h:b=0
 .refine Av h ?_
  rw[if_pos h];refine Ab (Ae6 Kl a b) ?_;rfl
 .rw[if_neg h]
  exact Am h rfl
theorem Vf(a b:Int):D.ask (.fn 277) [.ls [[iv a],[iv b]]] []=some (iv (or2 a b),[]):=by
 have g:D.ask (.lp 277 0) [iv 0,.ls [[iv a],[iv b]],iv 2,iv 0] []=some (if or2 a b=0 then .tup [iv 0,iv 0] else .tup [bv true,iv (or2 a b)],[]):=by
  refine Kl.lp' PG _ rfl (by kernel_rfl) ((Uz ..).trans ?_);refine Ai (by omega) ?_
  show br (Af.eq a 0) _ _=_
  unfold or2
  by_cases h:a=0
  .refine Av h ?_
   rw[if_pos h];refine Ab (Ae7 Kl a b) ?_
   by_cases h2:b=0
   .rw[if_pos h2];rfl
   .rw[if_neg h2];rfl
  .rw[if_neg h,if_neg h]
   exact Am h rfl
 refine Kl.fn' PG _ rfl ((Aoi ..).trans ?_);refine Ab g ?_
 by_cases h:or2 a b=0
 .rw[if_pos h,h];rfl
 .rw[if_neg h];rfl
include Ks Z
theorem AdK{p q:Pt}(hp:Lz 1000000000 p.z)(hq:Lz 1000000000 q.z):D.ask (.fn 284) [.agg (eP p),.agg (eP q)] []=some (iv (Ps (pv p) (pv q)),[]):=by
 have g1:=QS Ks p.v q.v;have g2:=Z.cmp p.z q.z hp hq;obtain⟨a,n,x⟩:=p;obtain⟨b,m,y⟩:=q;refine Kl.fn' Ahi _ rfl ((Aom ..).trans ?_);refine Ab g1 ?_;simp only[ND,DK,Aa];refine Ab g2 ?_;simp only[ND,DK,Aa];refine Ab (Vf Kl _ _) ?_;rfl
theorem AdP{a b:List Pt}(la:a.length<=1000000)(lb:b.length<=1000000)(ha:∀ p∈a,Lz 1000000000 p.z)(hb:∀ p∈b,Lz 1000000000 p.z):∀(m i:Nat),a.length-i=m->i<=a.length->D.ask (.lp 286 0) [.ls (a.map eP),.ls (b.map eP),.fn (.func 284) [] [],.ls (a.map eP),iv (a.length:Int),iv (i:Int)] []=some (match JS ((a.drop i).map pv) ((b.drop i).map pv) with|some n=>.tup [bv true,iv n] | none=>.tup [iv 0,.ls (a.map eP),.ls (b.map eP)],[]):=by
 intro m
 induction m with
 |zero=>
  intro i hm hi;rw[Apz (by omega)];refine Kl.lp' SG _ rfl (by kernel_rfl) ((Aam ..).trans ?_);exact Ah (by omega) rfl
 |succ m ih=>
  intro i hm hi;have h1:i<a.length:=by omega
  have ih:=ih (i+1) (by omega) (by omega);rw[χ h1,ApS];refine Kl.lp' SG _ rfl (by kernel_rfl) ((Aam ..).trans ?_);refine Ai (by omega) ?_;rw[Aw,Au (Φ h1)];simp only[eP,eN,ND,DK,Aa];rw[Ao]
  by_cases h2:b.length<=i
  .refine Cn (by omega) ?_
   rw[Apz h2];rfl
  .have h2:i<b.length:=by omega
   refine Cv (by omega) ?_;rw[Aw,Au (Φ h2)];simp only[eP,eN,ND,DK,Aa];have gc:=AdK Ks Z Kl (ha _ (ApG h1)) (hb _ (ApG h2));refine Ab gc ?_;simp only[ND,DK,Aa];rw[χ h2,ApS,JS]
   by_cases h3:Ps (pv a[i]) (pv b[i])=0
   .refine Av h3 ?_
    rw[if_pos h3,A8 (by omega)];refine Ab ih ?_
    cases JS ((a.drop (i+1)).map pv) ((b.drop (i+1)).map pv)<;>rfl
   .rw[if_neg h3]
    exact Am h3 rfl
theorem ZG{a b:List Pt}(la:a.length<=1000000)(lb:b.length<=1000000)(ha:∀ p∈a,Lz 1000000000 p.z)(hb:∀ p∈b,Lz 1000000000 p.z):D.ask (.fn 286) [.ls (a.map eP),.ls (b.map eP),.fn (.func 284) [] []] []=some (iv (RY (a.map pv) (b.map pv)),[]):=by
 refine Kl.fn' SG _ rfl ((Aoo ..).trans ?_);rw[Ao];refine Ab (AdP Ks Z Kl la lb ha hb _ 0 rfl (by omega)) ?_;rw[π,π];unfold RY
 cases JS (a.map pv) (b.map pv) with
 |some n=>rfl
 |none=>
  simp only[ND,DK,Aa]
  show br (Af.lt _ _) _ _=_
  rw[Ao,Ao];simp only[ApO]
  by_cases h:a.length<b.length
  .refine Ai (by omega) ?_
   rw[if_pos h]
  .refine Ah (by omega) ?_
   rw[if_neg h]
include Kt C
theorem AdN{n k:Nat}{t u:Tm}(ht:TmB n k t)(hu:TmB n k u)(hn:n<=1000000)(hk:k+n<=900000000):D.ask (.fn 278) [.agg (eT t),.agg (eT u)] []=some (iv (Xu t.lf.pln u.lf.pln),[]):=by
 have g1:=El Kt Ks Z C ht hn hk;have g2:=El Kt Ks Z C hu hn hk;have b1:=ht.lb.pln.tb;have b2:=hu.lb.pln.tb;have e1:(t.lf.pln.tm.ps).map pv=t.lf.pln.ps:=congrArg Lf.ps (DN t.lf.pln);have e2:(u.lf.pln.tm.ps).map pv=u.lf.pln.ps:=congrArg Lf.ps (DN u.lf.pln);have k1:zv t.lf.pln.tm.k=t.lf.pln.k:=congrArg Lf.k (DN t.lf.pln);have k2:zv u.lf.pln.tm.k=u.lf.pln.k:=congrArg Lf.k (DN u.lf.pln);have g3:=ZG Ks Z Kl (a:=t.lf.pln.tm.ps) (b:=u.lf.pln.tm.ps) (Aqm b1.len hn) (Aqm b2.len hn) (λp hp=>(b1.ps p hp).mono (by omega)) (λp hp=>(b2.ps p hp).mono (by omega));have g4:=Z.cmp t.lf.pln.tm.k u.lf.pln.tm.k (b1.k.mono (by omega)) (b2.k.mono (by omega));rw[e1,e2]at g3;rw[k1,k2]at g4;unfold Xu;revert g1 g2 g3 g4;generalize t.lf.pln.tm=x;generalize u.lf.pln.tm=y;intro g1 g2 g3 g4;obtain⟨tp,tz⟩:=t;obtain⟨up,uz⟩:=u;obtain⟨xp,xn,xa⟩:=x;obtain⟨yp,yn,ya⟩:=y;refine Kl.fn' Ahg _ rfl ((Aoj ..).trans ?_);refine Ab g1 ?_;simp only[eT,eN,ND,DK,Aa];refine Ab g2 ?_;simp only[eT,eN,ND,DK,Aa];refine Ab g3 ?_;simp only[ND,DK,Aa];refine Ab g4 ?_;simp only[ND,DK,Aa];refine Ab (Vf Kl _ _) ?_;rfl
theorem Vm{n k:Nat}{t u:Tm}(ht:TmB n k t)(hu:TmB n k u)(hn:n<=1000000)(hk:k+n<=900000000)(e f:Bool):D.ask (.fn 254) [.agg (eT t++[bv e]),.agg (eT u++[bv f])] []=some (bv (decide (QR t.lf.pln u.lf.pln e f=0)),[]):=by
 have g1:=AdN Kt Ks Z C Kl ht hu hn hk;have gr:∀(t:Tm) (e:Bool),D.ask (.fn 279) [.agg (eT t++[bv e])] []=some (iv (WJ e),[]):=by
  rintro⟨p,z⟩ e;refine Kl.fn' Ahh _ rfl ((Aok ..).trans ?_)
  cases e<;>rfl
 have g2:D.ask (.fn 270) [.agg (eT t++[bv e]),.agg (eT u++[bv f])] []=some (iv (QR t.lf.pln u.lf.pln e f),[]):=by
  unfold QR;revert g1;generalize Xu t.lf.pln u.lf.pln=c;intro g1;have r1:=gr t e;have r2:=gr u f;obtain⟨tp,tz⟩:=t;obtain⟨up,uz⟩:=u;refine Kl.fn' Ahe _ rfl ((Aof ..).trans ?_);refine Ab g1 ?_;simp only[ND,DK,Aa];refine Ab r1 ?_;simp only[ND,DK,Aa];refine Ab r2 ?_;simp only[ND,DK,Aa];refine Ab (QS Ks _ _) ?_;simp only[ND,DK,Aa];refine Ab (Vf Kl _ _) ?_;rfl
 revert g2;generalize QR t.lf.pln u.lf.pln e f=c;intro g2;obtain⟨tp,tz⟩:=t;obtain⟨up,uz⟩:=u;refine Kl.fn' Ahc _ rfl ((Aoa ..).trans ?_);refine Ab g2 ?_;simp only[ND,DK,Aa]
 by_cases h:c=0
 .refine Av h ?_
  rw[decide_eq_true h]
 .refine Am h ?_
  rw[decide_eq_false h]
end
theorem FB.kids{n k:Nat}{x:Fm}(h:FB n k x):x.kids.length<=1000000/\(∀ y∈x.kids,FB n k y)/\TmB n k x.tm:=by
 cases h with
 |mk ht hl h=>exact⟨hl,h,ht⟩
section
variable {D:Orc} (Kt:Knows Al I7 D) (Ks:Knows Al Fb D) (Z:ZF D) (C:PartF D) (Ko:Knows Al Mk D) (Kl:Knows Al TH D)
include Kl
theorem AdY{ks js:List Fm}(hl:ks.length=js.length)(hs:ks.length<=1000000)(g:∀ x∈ks,∀ y∈js,D.ask (.fn 233) [.agg (eF x),.agg (eF y)] []=some (bv (VV x y),[])):∀(m i:Nat),ks.length-i=m->i<=ks.length->D.ask (.lp 255 0) [.ls (js.map eF),.fn (.func 233) [] [],.ls (ks.map eF),iv (ks.length:Int),iv (i:Int)] []=some (if IS (ks.drop i) (js.drop i) then .tup [iv 0] else .tup [bv true,bv false],[]):=by
 intro m
 induction m with
 |zero=>
  intro i hm hi;rw[Apz (by omega),IS];refine Kl.lp' SD _ rfl (by kernel_rfl) ((Aai ..).trans ?_);exact Ah (by omega) rfl
 |succ m ih=>
  intro i hm hi;have h1:i<ks.length:=by omega
  have h2:i<js.length:=by omega
  have ih:=ih (i+1) (by omega) (by omega);have gx:=g ks[i] (ApG h1) js[i] (ApG h2);rw[χ h1,χ h2,K5];refine Kl.lp' SD _ rfl (by kernel_rfl) ((Aai ..).trans ?_);refine Ai (by omega) ?_;rw[Aw,Au (Φ h1)];revert gx;generalize ks[i]=x;intro gx;obtain⟨xk,xt,xe,xs⟩:=x;simp only[eF,eN,ND,DK,Aa]at gx ⊢;rw[Aw,Au (Φ h2)];revert gx;generalize js[i]=y;intro gx;obtain⟨yk,yt,ye,ys⟩:=y;simp only[eF,eN,ND,DK,Aa]at gx ⊢;refine Ab gx ?_;simp only[ND,DK,Aa]
  cases VV (.mk xk xt xe xs) (.mk yk yt ye ys) with
  |false=>exact A1 rfl
  |true=>
   refine Ac ?_;rw[A8 (by omega)];refine Ab ih ?_;rw[ApP]
   cases IS (ks.drop (i+1)) (js.drop (i+1))<;>rfl
theorem AdZ{ks js:List Fm}(hs:ks.length<=1000000)(ht:js.length<=1000000)(g:∀ x∈ks,∀ y∈js,D.ask (.fn 233) [.agg (eF x),.agg (eF y)] []=some (bv (VV x y),[])):D.ask (.fn 255) [.ls (ks.map eF),.ls (js.map eF),.fn (.func 233) [] []] []=some (bv (decide (ks.length=js.length)&&IS ks js),[]):=by
 refine Kl.fn' SD _ rfl ((Aob ..).trans ?_);rw[Ao,Ao]
 by_cases hl:ks.length=js.length
 .refine Av (by omega) ?_
  have gl:=AdY Kl hl hs g _ 0 rfl (by omega);rw[π,π]at gl;refine Ab gl ?_;rw[decide_eq_true hl,ApP]
  cases IS ks js<;>rfl
 .refine Am (by omega) ?_
  rw[decide_eq_false hl,Bool.false_and]
include Kt Ks Z C Ko
theorem AaC{n k:Nat}(hn:n<=1000000)(hk:k+n<=900000000):∀(N:Nat) (x y:Fm),SizeOf.sizeOf x<N->FB n k x->FB n k y->CanF x->CanF y->D.ask (.fn 233) [.agg (eF x),.agg (eF y)] []=some (bv (VV x y),[]):=by
 intro N
 induction N with
 |zero=>intro x y h;omega
 |succ N ih=>
  intro x y hN fx fy cx cy;have g1:=Hl Kt Ks Z C Ko hn hk _ x (Aqe _) fx;have g2:=Hl Kt Ks Z C Ko hn hk _ y (Aqe _) fy;rw[cx.clone]at g1;rw[cy.clone]at g2;have bx:=fx.kids;have bY:=fy.kids;have kx:=cx.kids;have ky:=cy.kids;obtain⟨xk,xt,xe,xs⟩:=x;obtain⟨yk,yt,ye,ys⟩:=y;simp only[Fm.kids,Fm.tm]at bx bY kx ky;have g3:=Vm Kt Ks Z C Kl bx.2.2 bY.2.2 hn hk xe ye;have g4:=AdZ Kl bx.1 bY.1 λa ha b hb=>ih a b (by have:=Hu (k:=xk) (t:=xt) (e:=xe) ha;omega) (bx.2.1 a ha) (bY.2.1 b hb) (kx a ha) (ky b hb)
  rw[UA];simp only[eF,eN,CW]at g1 g2 ⊢;refine Kl.fn' Ag9 _ rfl ((An5 ..).trans ?_);refine Ab g1 ?_;simp only[ND,DK,Aa];refine Ab g2 ?_;simp only[ND,DK,Aa]
  by_cases h1:xk=yk
  .refine Av h1 ?_
   rw[decide_eq_true h1,ApP]
   by_cases h2:xk=2
   .refine Av h2 ?_
    refine Ab g3 ?_;simp only[ND,DK,Aa];rw[decide_eq_true h2,Bool.not_true,Bool.false_or]
    cases decide (QR xt.lf.pln yt.lf.pln xe ye=0) with
    |false=>exact A1 rfl
    |true=>
     refine Ac ?_;refine Ab g4 ?_;simp only[ND,DK,Aa];rw[ApP]
     cases (decide (xs.length=ys.length)&&IS xs ys)<;>rfl
   .refine Am h2 ?_
    refine Ab g4 ?_;simp only[ND,DK,Aa];rw[decide_eq_false h2,AsJ,Bool.true_or,ApP]
    cases (decide (xs.length=ys.length)&&IS xs ys)<;>rfl
  .refine Am h1 ?_
   rw[decide_eq_false h1];simp
end
def Tr.kind:Tr->Int
 |.mk k _ _ _ _ _ _=>k
def Tr.kids:Tr->List Tr
 |.mk _ _ _ _ _ _ ks=>ks
def FR:Tr->Bool
 |.mk _ l r op p q _=>decide (l.length=0)&&decide (r.length=0)&&decide (op=0)&&decide (p=Ax [])&&decide (q=Ax [])
def Nm:Tr->Bool
 |.mk k l r op p q ks=>decide (k=2)&&O6 l&&O6 r&&decide (0<=op)&&decide (op<=5)&&decide (p=Ax [])&&decide (q=Ax [])&&decide (ks.length=0)
def arI(k:Int):Int:=if k=0 then 0 else if k=1 then 0 else if k=3 then 1 else if k=4 then 2 else if k=5 then 2 else -1
def brk(p:Int)(i:Nat)(k:Int):Bool:=if p=3 then decide (k=4)||decide (k=5) else if p=4 then decide (k=5)||(decide (i=1)&&decide (k=4)) else if p=5 then decide (i=1)&&decide (k=5) else false
def IV(b:Bool)(d:Nat):Nat:=if b then d+1 else d
mutual
def Cc:Tr->Nat->Bool
 |.mk k l r op p q ks,d=>if k=2 then Nm (.mk k l r op p q ks) else FR (.mk k l r op p q ks)&&decide ((ks.length:Int)=arI k)&&decide (IV (decide (k=3)) d<=60)&&Fy k (IV (decide (k=3)) d) 0 ks
def Fy(k:Int)(d:Nat):Nat->List Tr->Bool
 |_,[]=>true
 |i,x::r=>(decide (IV (brk k i x.kind) d<=60)&&Cc x (IV (brk k i x.kind) d))&&Fy k d (i+1) r
end
inductive WzT:Tr->Prop where
 |mk {k:Int} {l r:List Mo} {op:Int} {p q:ByteArray} {ks:List Tr} (hl:l.length<4611686018427387904) (hr:r.length<4611686018427387904) (hk:ks.length<4611686018427387904)
  (zl:∀ m∈l,m.num.size<=9223372036854775807/\m.var.size<=9223372036854775807) (zr:∀ m∈r,m.num.size<=9223372036854775807/\m.var.size<=9223372036854775807) (h:∀ x∈ks,WzT x):WzT (.mk k l r op p q ks)
end Go.Proofs.YtlmhajfbpplpoaaGreat
