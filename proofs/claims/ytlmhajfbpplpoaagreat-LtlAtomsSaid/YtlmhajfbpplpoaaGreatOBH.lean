/- What is known of zint's functions, in one. What th -/
import Derived.Test.YtlmhajfbpplpoaaGreatOBG
import Derived.Test.YtlmhajfbpplpoaaGreatOBA
set_option linter.all false
open Bool renaming not_false->AsL,true_and->ApZ
open Int renaming le_refl->Asg
open List renaming append_assoc->Ap9,append_nil->AqH,cons_append->AqX,drop->ApK,drop_eq_getElem_cons->ApE,drop_eq_nil_of_le->ApL,drop_of_length_le->Ash,drop_zero->ApD,ext_getElem?->Asy,filter_cons->AsF,findIdx_cons->Asz,flatten_cons->AqU,foldl_cons->Arl,getElem?_drop->AqF,getElem?_eq_getElem->Apy,getElem?_set_ne->AqD,getElem?_set_self->AqL,getElem?_take->Aqc,getElem_mem->ApQ,length_append->ApH,length_cons->ApI,length_map->ApY,length_set->Aqa,length_singleton->Aql,length_take->Ap0,map_cons->Ap2,map_nil->Aq9,mem_cons_of_mem->ApW,mem_cons_self->ApV,mem_iff_getElem?->Ask,mem_map->AqS,nil_append->Ap4,reverse_cons->AsB,singleton_append->Arn,take->ApG,take_append->AsH,take_append_drop->Asl,take_of_length_le->AqM
open Nat renaming add_mul->Aqq,add_zero->Aqs,ble->ApM,ble_eq_true_of_le->AqB,dvd_mul_left->Ar5,dvd_sub->AsE,dvd_zero->AsX,le_of_dvd->Asp,le_refl->ApA,le_trans->Aqm,lt_succ_self->Aqp,min_eq_left->AqK,min_eq_right->Ar7,one_mul->ArN,strongRecOn->AqP,zero_add->ApX,zero_le->Aqv,zero_mul->Aq2
namespace Go.Proofs.YtlmhajfbpplpoaaGreat
open Go.RowKit
structure ZF (D:Orc):Prop where
 frm:∀ z:Zi,Lz 1000000000 z->D.ask (.fn 145) [bv z.neg,eN z.abs] []=some (.agg (eZ (AO (zv z))),[])
 neg:∀ z:Zi,Lz 1000000000 z->D.ask (.fn 86) [.agg (eZ z)] []=some (.agg (eZ (AO (-zv z))),[])
 sign:∀ z:Zi,Lz 1000000000 z->D.ask (.fn 158) [.agg (eZ z)] []=some (iv (CH (zv z)),[])
 of_:∀ n:Int,-9223372036854775808<=n->n<9223372036854775808->D.ask (.fn 84) [iv n] []=some (.agg (eZ (AO n)),[])
 cmp:∀ a b:Zi,Lz 1000000000 a->Lz 1000000000 b->D.ask (.fn 285) [.agg (eZ a),.agg (eZ b)] []=some (iv (FR (zv a) (zv b)),[])
 add:∀ a b:Zi,Lz 900000000 a->Lz 900000000 b->D.ask (.fn 87) [.agg (eZ a),.agg (eZ b)] []=some (.agg (eZ (AO (zv a+zv b))),[])
 mul:∀ a b:Zi,Lz 400000000 a->Lz 400000000 b->a.abs.length<24\/b.abs.length<24->D.ask (.fn 264) [.agg (eZ a),.agg (eZ b)] []=some (.agg (eZ (AO (zv a*zv b))),[])
 parse:∀ s:ByteArray,D.ask (.fn 85) [sv s] []=some (.tup [.agg (eZ (Gj s).1),iv (Gj s).2],[])
theorem AmL{D:Orc}(K:Knows Al KN D)(Z:Knows Al Qm D)(C:CloneF D):ZF D where
 frm z h:=by
  have:=Fw K Z C z.neg h.lim (by unfold CG;exact h.len);exact this
 neg z h:=AfY K Z C h
 sign z h:=OU K Z C h
 of_ n h1 h2:=Akk K Z C n h1 h2
 cmp a b ha hb:=AfW K Z C ha hb
 add a b ha hb:=AfV K Z C (ApA _) ha hb
 mul a b ha hb h:=AfX K Z C (ApA _) (ApA _) ha hb h
 parse s:=Y5 K Z C s
theorem WD(s:ByteArray):Lz 4000 (Gj s).1:=by
 unfold Gj;split
 .rename_i h
  have h1:=Fa (He s).1;have h2:=Ia (He s).1;have:Lz 4000 ⟨(He s).2,(Hf (He s).1).1⟩:=⟨h1,h2⟩;exact this.inb.lz
 .exact⟨BZ,by simp⟩
theorem Srt.same{l r:List Pt}{a b p q:Nat}(h:Srt Pt.v l p q)(hs:Same0 l r a b)(hd:q<=a\/b<=p):Srt Pt.v r p q:=by
 intro x y h1 h2 h3;rw[hs.kf Pt.v (by omega),hs.kf Pt.v (by omega)];exact h x y h1 h2 h3
def T9(q t:Nat)(l:List Pt):Prop:=∀ p,q ∣ p->p+q<=t->Srt Pt.v l p (p+q)
theorem Akw{a:Nat}(h:a<4611686018427387000):Aj.add .i64 (a:Int) 20=((a+20:Nat):Int):=by
 rw[Hb (by omega) (by omega)];rfl
section
variable {D:Orc} (K:Knows Al Fk D)
include K
theorem Akb:∀(m a:Nat) (l:List Pt),l.length-a=m->a<=l.length->l.length<=1000000000->20 ∣ a->T9 20 a l->
  ∃(r:List Pt) (c:Nat),D.ask (.lp 206 0) [.sl 0 0 l.length 3,iv (l.length:Int),FC,iv 20,iv (a:Int),iv ((a+20:Nat):Int)] [ABlk.mk (Aw eP l) true true]
   = some (.tup [iv 0,.sl 0 0 l.length 3,iv (l.length:Int),FC,iv 20,iv (c:Int)],[.set (ABlk.mk (Aw eP r) true true)])
   ∧ r.length=l.length/\r.Perm l/\c<=l.length/\l.length<c+20/\20 ∣ c/\T9 20 c r:=by
 intro m
 induction m using AqP with
 |_ m ih=>
  intro a l hm ha hl hd hb
  by_cases h:a+20<=l.length
  .obtain⟨r,g,hr,hp,ho,hsm⟩:=Aa1 K (a:=a) (b:=a+20) (l:=l) (by omega) h hl
   have hb2:T9 20 (a+20) r:=λp h1 h2=>by
    by_cases hpa:p=a
    .subst hpa
     exact ho
    .exact(hb p h1 (by omega)).same hsm (.inl (by omega))
   obtain⟨r2,c,g2,hr2,hp2,h3,h4,h5,h6⟩:=ih (r.length-(a+20)) (by omega) (a+20) r rfl (by omega) (by omega) (by omega) hb2;rw[hr]at g2 h3 h4;refine⟨r2,c,?_,by omega,hp2.trans hp,h3,h4,h5,h6⟩;refine K.lp' G7 _ rfl (by kernel_rfl) ((Z6 ..).trans ?_);refine CA (by omega)?_;refine Ab g ?_;simp only[FC,ND,Aa];rw[Akw (by omega)];refine Ab g2 ?_;rfl
  .refine⟨l,a,?_,rfl,List.Perm.refl _,ha,by omega,hd,hb⟩
   refine K.lp' G7 _ rfl (by kernel_rfl) ((Z6 ..).trans ?_);exact leF_go (by omega)rfl
omit K in
def M8(D:Orc):Prop:=∀(l:List Pt) (a m b:Nat),a<m->m<b->b<=l.length->l.length<=1000000000->Srt Pt.v l a m->Srt Pt.v l m b->
 ∃ r:List Pt,D.ask (.fn 243) [.sl 0 0 l.length 3,iv (a:Int),iv (m:Int),iv (b:Int),FC] [ABlk.mk (Aw eP l) true true]=some (.tup [],[.set (ABlk.mk (Aw eP r) true true)])
  ∧ r.length=l.length/\r.Perm l/\Srt Pt.v r a b/\Same0 l r a b
def TlS(q a:Nat)(l:List Pt):Prop:=∀ j,Srt Pt.v l (a+j*q) (min (a+(j+1)*q) l.length)
theorem Akd(M:M8 D)(q:Nat)(hq:0<q)(hq2:q<=1000000000):∀(m a:Nat) (l:List Pt),l.length-a=m->a<=l.length->l.length<=1000000000->2*q ∣ a->T9 (2*q) a l->TlS q a l->
  ∃(r:List Pt) (c:Nat),D.ask (.lp 206 2) [.sl 0 0 l.length 3,iv (l.length:Int),FC,iv (q:Int),iv (a:Int),iv ((a+2*q:Nat):Int)] [ABlk.mk (Aw eP l) true true]
   = some (.tup [iv 4,.sl 0 0 l.length 3,iv (l.length:Int),FC,iv (q:Int),iv (c:Int)],[.set (ABlk.mk (Aw eP r) true true)])
   ∧ r.length=l.length/\r.Perm l/\c<=l.length/\l.length<c+2*q/\2*q ∣ c/\T9 (2*q) c r/\TlS q c r:=by
 intro m
 induction m using AqP with
 |_ m ih=>
  intro a l hm ha hl hd hb ht
  by_cases h:a+2*q<=l.length
  .have t0:=ht 0
   have t1:=ht 1;rw[Aq2,Aqs,ApX,ArN,AqK (by omega)]at t0;rw[ArN,show (1+1)*q=2*q from rfl,AqK h]at t1;obtain⟨r,g,hr,hp,ho,hsm⟩:=M l a (a+q) (a+2*q) (by omega) (by omega) h hl t0 t1;have hb2:T9 (2*q) (a+2*q) r:=λp h1 h2=>by
    by_cases hpa:p=a
    .subst hpa
     exact ho
    .have:=Asp (by omega) (AsE hd h1)
     exact(hb p h1 (by omega)).same hsm (.inl (by omega))
   have ht2:TlS q (a+2*q) r:=λj=>by
    have:=ht (j+2);rw[show a+(j+2)*q=a+2*q+j*q by rw[Aqq];omega,show a+(j+2+1)*q=a+2*q+(j+1)*q by rw[Aqq,Aqq,Aqq];omega]at this;rw[hr];exact this.same hsm (.inr (by omega))
   obtain⟨r2,c,g2,hr2,hp2,h3,h4,h5,h6,h7⟩:=ih (r.length-(a+2*q)) (by omega) (a+2*q) r rfl (by omega) (by omega) (Nat.dvd_add hd (Nat.dvd_refl _)) hb2 ht2;rw[hr]at g2 h3 h4;refine⟨r2,c,?_,by omega,hp2.trans hp,h3,h4,h5,h6,h7⟩;refine K.lp' G7 _ rfl (by kernel_rfl) ((Z7 ..).trans ?_);refine CA (by omega)?_;rw[show Aj.add .i64 (a:Int) (q:Int)=((a+q:Nat):Int) by rw[Hb (by omega) (by omega)];omega,
    show Aj.mul .i64 2 (q:Int)=((2*q:Nat):Int) by
     show IntKind.i64.wrap (2*(q:Int))=_
     rw[IntKind.wrap_i64];omega,
    show Aj.add .i64 ((a+2*q:Nat):Int) ((2*q:Nat):Int)=((a+2*q+2*q:Nat):Int) by rw[Hb (by omega) (by omega)];omega]
   refine Ab g ?_;simp only[FC,ND,Aa];refine Ab g2 ?_;rfl
  .refine⟨l,a,?_,rfl,List.Perm.refl _,ha,by omega,hd,hb,ht⟩
   refine K.lp' G7 _ rfl (by kernel_rfl) ((Z7 ..).trans ?_);exact leF_go (by omega)rfl
omit K in
theorem VE{q c:Nat}{r:List Pt}(hq:0<q)(hd:q ∣ c)(hn:r.length<c+q)(hb:T9 q c r)(hs:Srt Pt.v r c r.length):TlS q 0 r:=λj=>by
 rw[ApX,ApX];have e:(j+1)*q=j*q+q:=by rw[Aqq];omega
 by_cases h1:j*q+q<=c
 .have:=hb (j*q) (Ar5 q j) h1
  intro x y hx hxy hy;exact this x y hx hxy (by omega)
 .by_cases h2:j*q=c
  .intro x y hx hxy hy
   exact hs x y (by omega) hxy (by omega)
  .intro x y hx hxy hy
   exfalso
   by_cases h3:j*q<c
   .have:=Asp (by omega) (AsE hd (Ar5 q j))
    omega
   .have:=Asp (by omega) (AsE (Ar5 q j) hd)
    omega
theorem Akc(M:M8 D):∀(m q:Nat) (l:List Pt),l.length-q=m->0<q->q<=2000000000->l.length<=1000000000->TlS q 0 l->
  ∃ r:List Pt,D.ask (.lp 206 1) [.sl 0 0 l.length 3,iv (l.length:Int),FC,iv (q:Int)] [ABlk.mk (Aw eP l) true true]
   = some (.tup [iv 2,.sl 0 0 l.length 3],[.set (ABlk.mk (Aw eP r) true true)])
   ∧ r.length=l.length/\r.Perm l/\Srt Pt.v r 0 r.length:=by
 intro m
 induction m using AqP with
 |_ m ih=>
  intro q l hm hq hq2 hl ht
  by_cases h:q<l.length
  .obtain⟨r,c,g,hr,hp,hc,hn,hd,hb,ht2⟩:=Akd K M q hq (by omega) _ 0 l rfl (by omega) hl (AsX _) (λp _ h2=>by omega) ht
   have t0:=ht2 0;have t1:=ht2 1;rw[Aq2,Aqs,ApX,ArN]at t0;rw[ArN,show (1+1)*q=2*q from rfl,Ar7 (by omega)]at t1;rw[ApX]at g;have emul:Aj.mul .i64 2 (q:Int)=((2*q:Nat):Int):=by
    show IntKind.i64.wrap (2*(q:Int))=_
    rw[IntKind.wrap_i64];omega
   have emul2:Aj.mul .i64 (q:Int) 2=((2*q:Nat):Int):=by
    show IntKind.i64.wrap ((q:Int)*2)=_
    rw[IntKind.wrap_i64];omega
   have eadd:Aj.add .i64 (c:Int) (q:Int)=((c+q:Nat):Int):=by rw[Hb (by omega) (by omega)];omega
   by_cases h2:c+q<l.length
   .rw[AqK (by omega)]at t0
    obtain⟨r3,g3,hr3,hp3,ho3,hsm⟩:=M r c (c+q) r.length (by omega) (by omega) (ApA _) (by omega) t0 t1;have ht3:TlS (2*q) 0 r3:=VE (by omega) hd (by omega) (λp h1 h2=>(hb p h1 h2).same hsm (.inl (by omega))) (by rw[hr3];exact ho3);obtain⟨r4,g4,hr4,hp4,ho4⟩:=ih (r3.length-2*q) (by omega) (2*q) r3 rfl (by omega) (by omega) (by omega) ht3;rw[hr]at g3 hr3;rw[hr3]at g4 hr4;refine⟨r4,?_,hr4,hp4.trans (hp3.trans hp),ho4⟩;refine K.lp' G7 _ rfl (by kernel_rfl) ((Ux ..).trans ?_);refine Ao (by omega)?_;rw[emul];refine Ab g ?_;simp only[FC,ND,Aa];refine Ag ?_;rw[eadd,emul2];refine Ao (by omega)?_;refine Ab g3 ?_;simp only[FC,ND,Aa];refine Ab g4 ?_;rfl
   .rw[Ar7 (by omega)]at t0
    have ht3:TlS (2*q) 0 r:=VE (by omega) hd (by omega) hb t0;obtain⟨r4,g4,hr4,hp4,ho4⟩:=ih (r.length-2*q) (by omega) (2*q) r rfl (by omega) (by omega) (by omega) ht3;rw[hr]at g4 hr4;refine⟨r4,?_,hr4,hp4.trans hp,ho4⟩;refine K.lp' G7 _ rfl (by kernel_rfl) ((Ux ..).trans ?_);refine Ao (by omega)?_;rw[emul];refine Ab g ?_;simp only[FC,ND,Aa];refine Ag ?_;rw[eadd,emul2];refine ltF_go (by omega)?_;refine Ab g4 ?_;rfl
  .refine⟨l,?_,rfl,List.Perm.refl _,?_⟩
   .refine K.lp' G7 _ rfl (by kernel_rfl) ((Ux ..).trans ?_)
    exact ltF_go (by omega)rfl
   .have t0:=ht 0
    rw[Aq2,ApX,ApX,ArN,Ar7 (by omega)]at t0;exact t0
theorem YJ(M:M8 D){l:List Pt}(hl:l.length<=1000000000) :
  ∃ r:List Pt,D.ask (.fn 206) [.sl 0 0 l.length 3,iv (l.length:Int),FC] [ABlk.mk (Aw eP l) true true]=some (.tup [],[.set (ABlk.mk (Aw eP r) true true)])
   ∧ r.length=l.length/\r.Perm l/\Srt Pt.v r 0 r.length:=by
 obtain⟨r,c,g,hr,hp,hc,hn,hd,hb⟩:=Akb K _ 0 l rfl (by omega) hl (AsX _) (λp _ h2=>by omega);obtain⟨r2,g2,hr2,hp2,ho2,hsm⟩:=Aa1 K (a:=c) (b:=r.length) (l:=r) (by omega) (ApA _) (by omega);have ht:TlS 20 0 r2:=VE (by omega) hd (by omega) (λp h1 h2=>(hb p h1 h2).same hsm (.inl (by omega))) (by rw[hr2];exact ho2);obtain⟨r3,g3,hr3,hp3,ho3⟩:=Akc K M _ 20 r2 rfl (by omega) (by omega) (by omega) ht;rw[hr]at g2 hr2;rw[hr2]at g3 hr3;refine⟨r3,?_,hr3,hp3.trans (hp2.trans hp),ho3⟩;refine K.fn' G7 _ rfl ((AnU ..).trans ?_);refine Ab g ?_;simp only[FC,ND,Aa];refine Ab g2 ?_;simp only[FC,ND,Aa];refine Ab g3 ?_;rfl
theorem Afv(M:M8 D){l:List Pt}(hl:l.length<=1000000000) :
  ∃ r:List Pt,D.ask (.fn 152) [.sl 0 0 l.length 3,FC] [ABlk.mk (Aw eP l) true true]=some (.tup [],[.set (ABlk.mk (Aw eP r) true true)])
   ∧ r.length=l.length/\r.Perm l/\Srt Pt.v r 0 r.length:=by
 obtain⟨r,g,h⟩:=YJ K M hl;refine⟨r,?_,h⟩;refine K.fn' AgE _ rfl ((Anr ..).trans ?_);refine Ab g ?_;rfl
end
section
variable {α:Type} (key:α->Int)
structure Rot (l r:List α) (a m b:Nat):Prop where
 out:∀ p,p<a\/b<=p->r[p]? = l[p]?
 low:∀ p,a<=p->p<a+(b-m)->r[p]? = l[p+(m-a)]?
 high:∀ p,a+(b-m)<=p->p<b->r[p]? = l[p-(b-m)]?
structure SwR (l r:List α) (a b n:Nat):Prop where
 out:∀ p,p<a\/(a+n<=p/\p<b)\/b+n<=p->r[p]? = l[p]?
 low:∀ p,a<=p->p<a+n->r[p]? = l[p+(b-a)]?
 high:∀ p,b<=p->p<b+n->r[p]? = l[p-(b-a)]?
theorem CB{l:List α}{i j:Nat}(h:i=j):l[i]? = l[j]?:=by rw[h]
theorem Ab5{c d r:List α}{i j m:Nat}(h0:i<=m)(h:j<i)(s:SwR c d (m-i) m j)(t:Rot d r (m-(i-j)) m (m+j)):Rot c r (m-i) m (m+j):=by
 refine⟨λp hp=>?_,λp h1 h2=>?_,λp h1 h2=>?_⟩
 .rw[t.out p (by omega),s.out p (by omega)]
 .rw[t.out p (by omega),s.low p (by omega) (by omega)]
 .by_cases h3:p<m-(i-j)+j
  .rw[t.low p (by omega) (by omega),s.high _ (by omega) (by omega)]
   exact CB (by omega)
  .rw[t.high p (by omega) (by omega),s.out _ (by omega)]
theorem Yt{c d r:List α}{i j m:Nat}(h0:i<=m)(h:i<j)(s:SwR c d (m-i) (m+j-i) i)(t:Rot d r (m-i) m (m+(j-i))):Rot c r (m-i) m (m+j):=by
 refine⟨λp hp=>?_,λp h1 h2=>?_,λp h1 h2=>?_⟩
 .rw[t.out p (by omega),s.out p (by omega)]
 .by_cases h3:p<m-i+(j-i)
  .rw[t.low p (by omega) (by omega),s.out _ (by omega)]
  .rw[t.high p (by omega) (by omega),s.low _ (by omega) (by omega)]
   exact CB (by omega)
 .rw[t.out p (by omega),s.high p (by omega) (by omega)]
  exact CB (by omega)
theorem Ab7{c r:List α}{i m:Nat}(h0:i<=m)(s:SwR c r (m-i) m i):Rot c r (m-i) m (m+i):=by
 refine⟨λp hp=>?_,λp h1 h2=>?_,λp h1 h2=>?_⟩
 .rw[s.out p (by omega)]
 .rw[s.low p (by omega) (by omega)]
 .rw[s.high p (by omega) (by omega)]
  exact CB (by omega)
theorem Gp{l:List α}{a m b:Nat}(h:a=m\/m=b)(ha:a<=m)(hb:m<=b):Rot l l a m b:=by
 refine⟨λp hp=>rfl,λp h1 h2=>CB (by omega),λp h1 h2=>CB (by omega)⟩
theorem Acw{l r:List α}{a b n:Nat}(hab:a+n<b)(hb:b+n<l.length)(s:SwR l r a b n)(hr:r.length=l.length):SwR l (Dh r (a+n) (b+n)) a b (n+1):=by
 have ha:a+n<r.length:=by omega
 have hb2:b+n<r.length:=by omega
 have e1:∀ p,(Dh r (a+n) (b+n))[p]? = if p=a+n then r[b+n]? else if p=b+n then r[a+n]? else r[p]?:=λp=>by
  rw[DY ha hb2]
  by_cases h1:p=b+n
  .subst h1
   rw[if_neg (by omega),if_pos rfl,AqL (by simpa using hb2),Apy ha]
  .rw[AqD (λe=>h1 e.symm)]
   by_cases h2:p=a+n
   .subst h2
    rw[if_pos rfl,AqL ha,Apy hb2]
   .rw[if_neg h2,if_neg h1,AqD (λe=>h2 e.symm)]
 refine⟨λp hp=>?_,λp h1 h2=>?_,λp h1 h2=>?_⟩
 .rw[e1,if_neg (by omega),if_neg (by omega),s.out p (by omega)]
 .rw[e1]
  by_cases h:p=a+n
  .rw[if_pos h,s.out _ (by omega)]
   exact CB (by omega)
  .rw[if_neg h,if_neg (by omega),s.low p h1 (by omega)]
 .rw[e1]
  by_cases h:p=b+n
  .rw[if_neg (by omega),if_pos h,s.out _ (by omega)]
   exact CB (by omega)
  .rw[if_neg (by omega),if_neg h,s.high p h1 (by omega)]
theorem Acx(l:List α)(a b:Nat):SwR l l a b 0:=⟨λ_ _=>rfl,λ_ h1 h2=>by omega,λ_ h1 h2=>by omega⟩
theorem Hx{l r:List α}{p q:Nat}(h:r[p]? = l[q]?):kf key r p=kf key l q:=by
 unfold kf;rw[h]
theorem Rot.kout{l r:List α}{a m b p:Nat}(h:Rot l r a m b)(hp:p<a\/b<=p):kf key r p=kf key l p:=Hx key (h.out p hp)
theorem Rot.klow{l r:List α}{a m b p:Nat}(h:Rot l r a m b)(h1:a<=p)(h2:p<a+(b-m)):kf key r p=kf key l (p+(m-a)):=Hx key (h.low p h1 h2)
theorem Rot.khigh{l r:List α}{a m b p:Nat}(h:Rot l r a m b)(h1:a+(b-m)<=p)(h2:p<b):kf key r p=kf key l (p-(b-m)):=Hx key (h.high p h1 h2)
theorem SZ{l r:List α}{a b i:Nat}(hi:a+1<=i)(hib:i<=b)(hs:Srt key l (a+1) b)(h1:∀ p,a+1<=p->p<i->kf key l p<kf key l a)(h2:∀ p,i<=p->p<b->kf key l a<=kf key l p)(t:Rot l r a (a+1) i):Srt key r a b:=by
 intro p q hp hpq hq
 by_cases q1:q<i-1
 .rw[t.klow key (by omega) (by omega),t.klow key (by omega) (by omega)]
  exact hs _ _ (by omega) (by omega) (by omega)
 .by_cases q2:q=i-1
  .rw[t.klow key (by omega) (by omega),t.khigh key (by omega) (by omega),show q-(i-(a+1))=a by omega]
   have:=h1 (p+(a+1-a)) (by omega) (by omega);omega
  .rw[t.kout key (p:=q) (by omega)]
   by_cases p1:p<i-1
   .rw[t.klow key (by omega) (by omega)]
    exact hs _ _ (by omega) (by omega) (by omega)
   .by_cases p2:p=i-1
    .rw[t.khigh key (by omega) (by omega),show p-(i-(a+1))=a by omega]
     exact h2 q (by omega) hq
    .rw[t.kout key (by omega)]
     exact hs _ _ (by omega) (by omega) (by omega)
theorem U9{l r:List α}{a m i:Nat}(hi:a<=i)(him:i<=m)(hs:Srt key l a m)(h1:∀ p,a<=p->p<i->kf key l p<=kf key l m)(h2:∀ p,i<=p->p<m->kf key l m<kf key l p)(t:Rot l r i m (m+1)):Srt key r a (m+1):=by
 intro p q hp hpq hq
 by_cases p1:p<i
 .rw[t.kout key (p:=p) (by omega)]
  by_cases q1:q<i
  .rw[t.kout key (by omega)]
   exact hs _ _ (by omega) (by omega) (by omega)
  .by_cases q2:q=i
   .rw[t.klow key (by omega) (by omega),show q+(m-i)=m by omega]
    exact h1 p hp p1
   .rw[t.khigh key (by omega) (by omega)]
    exact hs _ _ (by omega) (by omega) (by omega)
 .rw[t.khigh key (p:=q) (by omega) (by omega)]
  by_cases p2:p=i
  .rw[t.klow key (by omega) (by omega),show p+(m-i)=m by omega]
   have:=h2 (q-(m+1-m)) (by omega) (by omega);omega
  .rw[t.khigh key (by omega) (by omega)]
   exact hs _ _ (by omega) (by omega) (by omega)
def Low(l:List α)(a m b:Nat):Prop:=∀ p q,a<=p->p<m->m<=q->q<b->kf key l p<=kf key l q
theorem Afw{l:List α}{a m b:Nat}(h1:Srt key l a m)(h2:Srt key l m b)(h3:Low key l a m b):Srt key l a b:=by
 intro p q hp hpq hq
 by_cases c:q<m
 .exact h1 p q hp hpq c
 .by_cases d:p<m
  .exact h3 p q hp d (by omega) hq
  .exact h2 p q (by omega) hpq hq
structure CutAt (l:List α) (a m b mid s e:Nat):Prop where
 asl:a<=s
 sm:s<=m
 me:m<=e
 eb:e<=b
 mid:s+(e-m)=mid
 up:∀ p q,a<=p->p<s->e<=q->q<b->kf key l p<=kf key l q
 dn:∀ p q,m<=p->p<e->s<=q->q<m->kf key l p<=kf key l q
theorem ES{l r:List α}{a m b mid s e:Nat}(c:CutAt key l a m b mid s e)(h1:Srt key l a m)(h2:Srt key l m b)(t:Rot l r s m e) :
  Srt key r a s/\Srt key r s mid/\Srt key r mid e/\Srt key r e b/\Low key r a mid b:=by
 have:=c.asl;have:=c.sm;have:=c.me;have:=c.eb;have:=c.mid;refine⟨λp q x y z=>?_,λp q x y z=>?_,λp q x y z=>?_,λp q x y z=>?_,λp q x y z w=>?_⟩
 .rw[t.kout key (by omega),t.kout key (by omega)]
  exact h1 _ _ (by omega) (by omega) (by omega)
 .rw[t.klow key (by omega) (by omega),t.klow key (by omega) (by omega)]
  exact h2 _ _ (by omega) (by omega) (by omega)
 .rw[t.khigh key (by omega) (by omega),t.khigh key (by omega) (by omega)]
  exact h1 _ _ (by omega) (by omega) (by omega)
 .rw[t.kout key (by omega),t.kout key (by omega)]
  exact h2 _ _ (by omega) (by omega) (by omega)
 .by_cases p1:p<s
  .rw[t.kout key (p:=p) (by omega)]
   by_cases q1:q<e
   .rw[t.khigh key (by omega) (by omega)]
    exact h1 _ _ (by omega) (by omega) (by omega)
   .rw[t.kout key (by omega)]
    exact c.up _ _ (by omega) (by omega) (by omega) (by omega)
  .rw[t.klow key (p:=p) (by omega) (by omega)]
   by_cases q1:q<e
   .rw[t.khigh key (by omega) (by omega)]
    exact c.dn _ _ (by omega) (by omega) (by omega) (by omega)
   .rw[t.kout key (by omega)]
    exact h2 _ _ (by omega) (by omega) (by omega)
theorem Wx{l r:List α}{a b:Nat}(hp:r.Perm l)(hs:Same0 l r a b){p:Nat}(h1:a<=p)(h2:p<b)(hb:b<=l.length):∃ q,a<=q/\q<b/\r[p]? = l[q]?:=by
 have hlen:=hp.length_eq;have ht:r.take a=l.take a:=by
  apply Asy;intro i;rw[Aqc,Aqc];split
  .exact hs i (by omega)
  .rfl
 have hd:r.drop b=l.drop b:=by
  apply Asy;intro i;rw[AqF,AqF];exact hs _ (by omega)
 have er:∀ x:List α,b<=x.length->x=x.take a++((x.drop a).take (b-a)++x.drop b):=λx hx=>by
  have e1:=(Asl a x).symm;have e2:=(Asl (b-a) (x.drop a)).symm;rw[List.drop_drop,show a+(b-a)=b by omega]at e2;rw[←e2];exact e1
 have hp2:(r.take a++((r.drop a).take (b-a)++r.drop b)).Perm (l.take a++((l.drop a).take (b-a)++l.drop b)):=by
  rw[←er r (by omega),←er l hb];exact hp
 rw[ht,hd]at hp2;have hp3:=(List.perm_append_right_iff _).1 ((List.perm_append_left_iff _).1 hp2);have hpr:p<r.length:=by omega
 have hm:r[p]∈(r.drop a).take (b-a):=by
  rw[Ask];refine⟨p-a,?_⟩;rw[Aqc,if_pos (by omega),AqF,show a+(p-a)=p by omega,Apy hpr]
 have hm2:=hp3.mem_iff.1 hm;rw[Ask]at hm2;obtain⟨i,hi⟩:=hm2;rw[Aqc]at hi;split at hi
 .rename_i hib
  rw[AqF]at hi;exact⟨a+i,by omega,by omega,by rw[hi,Apy hpr]⟩
 .cases hi
theorem Abk{l r:List α}{a m b:Nat}(h:Low key l a m b)(hp:r.Perm l)(hs:Same0 l r a m)(hb:m<=l.length):Low key r a m b:=by
 intro p q x y z w;obtain⟨p2,h1,h2,h3⟩:=Wx hp hs x y hb;rw[Hx key h3,hs.kf key (by omega)];exact h p2 q h1 h2 z w
theorem X5{l r:List α}{a m b:Nat}(h:Low key l a m b)(hp:r.Perm l)(hs:Same0 l r m b)(hb:b<=l.length):Low key r a m b:=by
 intro p q x y z w;obtain⟨q2,h1,h2,h3⟩:=Wx hp hs z w hb;rw[Hx key h3,hs.kf key (by omega)];exact h p q2 x y h1 h2
theorem Srt.same'{l r:List α}{a b p q:Nat}(h:Srt key l p q)(hs:Same0 l r a b)(hd:q<=a\/b<=p):Srt key r p q:=by
 intro x y h1 h2 h3;rw[hs.kf key (by omega),hs.kf key (by omega)];exact h x y h1 h2 h3
theorem KI{l:List α}{a s m:Nat}(h:s=a\/s=m)(h1:Srt key l a s)(h2:Srt key l s m):Srt key l a m:=by
 rcases h with rfl|rfl
 .exact h2
 .exact h1
structure Bs (l:List α) (n x y s r:Nat):Prop where
 xs:x<=s
 sr:s<=r
 ry:r<=y
 lo:∀ c,x<=c->c<s->kf key l c<=kf key l (n-1-c)
 hi:∀ c,r<=c->c<y->kf key l (n-1-c)<kf key l c
section
variable {l:List α} {n x y s r a m b:Nat}
theorem Bs.up(B:Bs key l n x y s r)(h1:Srt key l a m)(h2:Srt key l m b)(hx:a<=x)(hy:y<=m)(hn:n<=x+b)(hm:m+y<=n){c:Nat}(hc:s<=c)(hr:c<r)(h:kf key l c<=kf key l (n-1-c)):Bs key l n x y (c+1) r:=by
 have:=B.xs;have:=B.sr;have:=B.ry;refine⟨by omega,by omega,B.ry,λd hd1 hd2=>?_,B.hi⟩
 by_cases hdc:d=c
 .rw[hdc];exact h
 .have e1:=h1 d c (by omega) (by omega) (by omega)
  have e2:=h2 (n-1-c) (n-1-d) (by omega) (by omega) (by omega);omega
theorem Bs.dn(B:Bs key l n x y s r)(h1:Srt key l a m)(h2:Srt key l m b)(hx:a<=x)(hy:y<=m)(hn:n<=x+b)(hm:m+y<=n){c:Nat}(hc:s<=c)(hr:c<r)(h:kf key l (n-1-c)<kf key l c):Bs key l n x y s c:=by
 have:=B.xs;have:=B.sr;have:=B.ry;refine⟨B.xs,hc,by omega,B.lo,λd hd1 hd2=>?_⟩
 by_cases hdc:d=c
 .rw[hdc];exact h
 .have e1:=h1 c d (by omega) (by omega) (by omega)
  have e2:=h2 (n-1-d) (n-1-c) (by omega) (by omega) (by omega);omega
theorem Bs.cut{mid:Nat}(B:Bs key l (mid+m) x y s s)(h1:Srt key l a m)(h2:Srt key l m b)(hx:a<=x)(hy:y<=m)(hn:mid+m<=x+b)(hm:y<=mid)(cx:x=a\/mid+m=x+b)(cy:y=m\/y=mid):CutAt key l a m b mid s (mid+m-s):=by
 have:=B.xs;have:=B.ry;refine⟨by omega,by omega,by omega,by omega,by omega,λp q c1 c2 c3 c4=>?_,λp q c1 c2 c3 c4=>?_⟩
 .have hs:x<s:=by omega
  have e:=B.lo (s-1) (by omega) (by omega);rw[show mid+m-1-(s-1)=mid+m-s by omega]at e;have e1:kf key l p<=kf key l (s-1):=by
   by_cases h:p=s-1
   .rw[h];exact Asg _
   .exact h1 _ _ (by omega) (by omega) (by omega)
  have e2:kf key l (mid+m-s)<=kf key l q:=by
   by_cases h:q=mid+m-s
   .rw[h];exact Asg _
   .exact h2 _ _ (by omega) (by omega) (by omega)
  omega
 .have hs:s<y:=by omega
  have e:=B.hi s (by omega) (by omega);have e1:kf key l p<=kf key l (mid+m-1-s):=by
   by_cases h:p=mid+m-1-s
   .rw[h];exact Asg _
   .exact h2 _ _ (by omega) (by omega) (by omega)
  have e2:kf key l s<=kf key l q:=by
   by_cases h:q=s
   .rw[h];exact Asg _
   .exact h1 _ _ (by omega) (by omega) (by omega)
  omega
end
theorem Aj7{l r:List α}{a k:Nat}(h:a<=k)(hk:k+1<l.length)(hr:r.length=l.length)(t:Rot l r a (a+1) (k+1)):Rot l (Dh r k (k+1)) a (a+1) (k+2):=by
 have e1:∀ p,(Dh r k (k+1))[p]? = if p=k then r[k+1]? else if p=k+1 then r[k]? else r[p]?:=λp=>by
  rw[DY (by omega) (by omega)]
  by_cases h1:p=k+1
  .subst h1
   rw[if_neg (by omega),if_pos rfl,AqL (by rw[Aqa];omega),Apy (by omega)]
  .rw[AqD (λe=>h1 e.symm)]
   by_cases h2:p=k
   .subst h2
    rw[if_pos rfl,AqL (by omega),Apy (by omega)]
   .rw[if_neg h2,if_neg h1,AqD (λe=>h2 e.symm)]
 refine⟨λp hp=>?_,λp h1 h2=>?_,λp h1 h2=>?_⟩
 .rw[e1,if_neg (by omega),if_neg (by omega),t.out p (by omega)]
 .rw[e1]
  by_cases h:p=k
  .rw[if_pos h,t.out _ (by omega)]
   exact CB (by omega)
  .rw[if_neg h,if_neg (by omega),t.low p h1 (by omega)]
 .rw[e1,if_neg (by omega),if_pos (by omega),t.high k (by omega) (by omega)]
  exact CB (by omega)
theorem Ab4{l r:List α}{m k:Nat}(h:k<m)(hk:m<l.length)(hr:r.length=l.length)(t:Rot l r (k+1) m (m+1)):Rot l (Dh r (k+1) k) k m (m+1):=by
 have e1:∀ p,(Dh r (k+1) k)[p]? = if p=k then r[k+1]? else if p=k+1 then r[k]? else r[p]?:=λp=>by
  rw[DY (by omega) (by omega)]
  by_cases h1:p=k
  .subst h1
   rw[if_pos rfl,AqL (by rw[Aqa];omega),Apy (by omega)]
  .rw[if_neg h1,AqD (λe=>h1 e.symm)]
   by_cases h2:p=k+1
   .subst h2
    rw[if_pos rfl,AqL (by omega),Apy (by omega)]
   .rw[if_neg h2,AqD (λe=>h2 e.symm)]
 refine⟨λp hp=>?_,λp h1 h2=>?_,λp h1 h2=>?_⟩
 .rw[e1,if_neg (by omega),if_neg (by omega),t.out p (by omega)]
 .rw[e1,if_pos (by omega),t.low (k+1) (by omega) (by omega)]
  exact CB (by omega)
 .rw[e1,if_neg (by omega)]
  by_cases h:p=k+1
  .rw[if_pos h,t.out _ (by omega)]
   exact CB (by omega)
  .rw[if_neg h,t.high p (by omega) (by omega)]
end
theorem Dx{a b:Nat}(h:a+b<4611686018427387904):Aj.conv .i64 (Aj.shr .u64 (Aj.conv .u64 (Aj.add .i64 (a:Int) (b:Int))) 1)=(((a+b) / 2:Nat):Int):=by
 rw[Hb (by omega) (by omega),show (a:Int)+(b:Int)=((a+b:Nat):Int) by omega,B4 (by omega)];have:Aj.shr .u64 ((a+b:Nat):Int) 1=(((a+b) / 2:Nat):Int):=by
  show Int.fdiv ((a+b:Nat):Int) (2 ^ 1)=_
  have:(2 ^ 1:Int)=((2:Nat):Int):=by decide
  rw[this,Int.fdiv_eq_ediv_of_nonneg _ (by omega)];rfl
 rw[this]
 show IntKind.i64.wrap (((a+b) / 2:Nat):Int)=_
 rw[IntKind.wrap_i64];omega
theorem JM{a b:Nat}(h:a+b<4611686018427387904):Aj.add .i64 (a:Int) (b:Int)=((a+b:Nat):Int):=by
 rw[Hb (by omega) (by omega)];omega
theorem Cz{a b:Nat}(hb:b<=a)(h:a<4611686018427387904):Aj.sub .i64 (a:Int) (b:Int)=((a-b:Nat):Int):=by
 rw[Gk (by omega) (by omega)];omega
theorem Ii{a:Nat}(hb:1<=a)(h:a<4611686018427387904):Aj.sub .i64 (a:Int) 1=((a-1:Nat):Int):=by
 rw[Gk (by omega) (by omega)];omega
abbrev Hd(l:List Pt):ABlk:=ABlk.mk (Aw eP l) true true
section
variable {D:Orc} (K:Knows Al Fk D)
include K
theorem Ake(a b n:Nat)(l0:List Pt):∀(m i:Nat) (l:List Pt),n-i=m->i<=n->a+n<=b->b+n<=l.length->l.length<=1000000000->l.length=l0.length->SwR l0 l a b i->
  ∃ r:List Pt,D.ask (.lp 273 0) [.sl 0 0 l.length 3,iv (a:Int),iv (b:Int),iv (n:Int),iv (i:Int)] [Hd l]=some (.tup [iv 0,.sl 0 0 l.length 3],[.set (Hd r)])
   ∧ r.length=l.length/\r.Perm l/\SwR l0 r a b n:=by
 intro m
 induction m with
 |zero=>
  intro i l hm hi ha hb hl h0 hs;obtain rfl:i=n:=by omega
  refine⟨l,?_,rfl,List.Perm.refl _,hs⟩;refine K.lp' SG _ rfl (by kernel_rfl) ((Aai ..).trans ?_);exact ltF_go (by omega)rfl
 |succ m ih=>
  intro i l hm hi ha hb hl h0 hs;have hI:a+i<l.length:=by omega
  have hJ:b+i<l.length:=by omega
  have hlen:=IL l (a+i) (b+i);obtain⟨r,g,hr,hp,ho⟩:=ih (i+1) (Dh l (a+i) (b+i)) (by omega) (by omega) ha (by omega) (by omega) (by omega) (Acw (by omega) (by omega) hs h0);rw[hlen]at g hr;refine⟨r,?_,hr,hp.trans (G0 _ _ _),ho⟩;refine K.lp' SG _ rfl (by kernel_rfl) ((Aai ..).trans ?_);refine Ao (by omega)?_;rw[JM (a:=b) (b:=i) (by omega),JM (a:=a) (b:=i) (by omega),Bh (by omega)];rw[AG,Bb hJ];refine Ag ?_;refine(By AK l (b+i) hJ _).trans ?_;simp only[eP,eN,ND,Aa];rw[AG,Bb hI];refine Ag ?_;refine(By AK l (a+i) hI _).trans ?_;simp only[eP,eN,ND,Aa];have s1:=CV AK l (a+i) hI l[(b+i)];have s2:=CV AK (l.set (a+i) l[(b+i)]) (b+i) (by rw[Aqa];exact hJ) l[(a+i)];rw[←DY hI hJ]at s2;simp only[eP,eN]at s1 s2;rw[AG,Bb hI];refine Ag ?_;rw[show ApM (0+(a+i)*3+3) (Aw eP l).length=true by rw[BB AK];simp;omega];refine Ag ?_;rw[AG,Bb hJ];refine Ag ?_;rw[s1,s2];rw[show ApM (0+(b+i)*3+3) (Aw eP (l.set (a+i) l[(b+i)])).length=true by rw[BB AK,Aqa];simp;omega];refine Ag ?_;refine Ab g ?_;rfl
theorem VD{a b n:Nat}{l:List Pt}(ha:a+n<=b)(hb:b+n<=l.length)(hl:l.length<=1000000000) :
  ∃ r:List Pt,D.ask (.fn 273) [.sl 0 0 l.length 3,iv (a:Int),iv (b:Int),iv (n:Int),FC] [Hd l]=some (.tup [],[.set (Hd r)])
   ∧ r.length=l.length/\r.Perm l/\SwR l r a b n:=by
 obtain⟨r,g,h⟩:=Ake K a b n l _ 0 l rfl (by omega) ha hb hl rfl (Acx l a b);refine⟨r,?_,h⟩;refine K.fn' SG _ rfl ((Aoj ..).trans ?_);refine Ab g ?_;rfl
theorem Aj6(m:Nat):∀(s i j:Nat) (l:List Pt),i+j=s->0<i->0<j->i<=m->m+j<=l.length->l.length<=1000000000->
  ∃(r:List Pt) (d:Nat),D.ask (.lp 260 0) [.sl 0 0 l.length 3,iv (m:Int),FC,iv (i:Int),iv (j:Int)] [Hd l]=some (.tup [iv 0,.sl 0 0 l.length 3,iv (m:Int),FC,iv (d:Int)],[.set (Hd r)])
   ∧ r.length=l.length/\r.Perm l/\d<=m/\m+d<=l.length/\∀ r2:List Pt,SwR r r2 (m-d) m d->Rot l r2 (m-i) m (m+j):=by
 intro s
 induction s using AqP with
 |_ s ih=>
  intro i j l hs hi hj him hl hn
  by_cases he:i=j
  .subst he
   refine⟨l,i,?_,rfl,List.Perm.refl _,him,hl,λr2 h=>Ab7 him h⟩;refine K.lp' PK _ rfl (by kernel_rfl) ((UD ..).trans ?_);exact AF rfl rfl
  by_cases hlt:j<i
  .obtain⟨r,g,hr,hp,hsw⟩:=VD K (a:=m-i) (b:=m) (n:=j) (l:=l) (by omega) hl hn
   obtain⟨r2,d,g2,hr2,hp2,hd1,hd2,hd3⟩:=ih (i-j+j) (by omega) (i-j) j r rfl (by omega) hj (by omega) (by omega) (by omega);rw[hr]at g2 hr2 hd2;refine⟨r2,d,?_,hr2,hp2.trans hp,hd1,hd2,λr3 h=>Ab5 him hlt hsw (hd3 r3 h)⟩;refine K.lp' PK _ rfl (by kernel_rfl) ((UD ..).trans ?_);refine eqF_go (by omega)?_;refine Ao (by omega)?_;rw[Cz him (by omega),Cz (a:=i) (b:=j) (by omega) (by omega)];refine Ab g ?_;simp only[FC,ND,Aa];refine Ab g2 ?_;rfl
  .obtain⟨r,g,hr,hp,hsw⟩:=VD K (a:=m-i) (b:=m+j-i) (n:=i) (l:=l) (by omega) (by omega) hn
   obtain⟨r2,d,g2,hr2,hp2,hd1,hd2,hd3⟩:=ih (i+(j-i)) (by omega) i (j-i) r rfl hi (by omega) him (by omega) (by omega);rw[hr]at g2 hr2 hd2;refine⟨r2,d,?_,hr2,hp2.trans hp,hd1,hd2,λr3 h=>Yt him (by omega) hsw (hd3 r3 h)⟩;refine K.lp' PK _ rfl (by kernel_rfl) ((UD ..).trans ?_);refine eqF_go (by omega)?_;refine ltF_go (by omega)?_;rw[Cz him (by omega),JM (a:=m) (b:=j) (by omega),Cz (a:=m+j) (b:=i) (by omega) (by omega),Cz (a:=j) (b:=i) (by omega) (by omega)];refine Ab g ?_;simp only[FC,ND,Aa];refine Ab g2 ?_;rfl
theorem Ab6{a m b:Nat}{l:List Pt}(ha:a<m)(hm:m<b)(hb:b<=l.length)(hl:l.length<=1000000000) :
  ∃ r:List Pt,D.ask (.fn 260) [.sl 0 0 l.length 3,iv (a:Int),iv (m:Int),iv (b:Int),FC] [Hd l]=some (.tup [],[.set (Hd r)])
   ∧ r.length=l.length/\r.Perm l/\Rot l r a m b:=by
 obtain⟨r,d,g,hr,hp,hd1,hd2,hd3⟩:=Aj6 K m _ (m-a) (b-m) l rfl (by omega) (by omega) (by omega) (by omega) hl;obtain⟨r2,g2,hr2,hp2,hsw⟩:=VD K (a:=m-d) (b:=m) (n:=d) (l:=r) (by omega) (by omega) (by omega);have h:=hd3 r2 hsw;rw[show m-(m-a)=a by omega,show m+(b-m)=b by omega]at h;rw[hr]at g2;refine⟨r2,?_,by omega,hp2.trans hp,h⟩;refine K.fn' PK _ rfl ((Aog ..).trans ?_);rw[Cz (a:=m) (b:=a) (by omega) (by omega),Cz (a:=b) (b:=m) (by omega) (by omega)];refine Ab g ?_;simp only[FC,ND,Aa];rw[Cz hd1 (by omega)];refine Ab g2 ?_;rfl
theorem AfD(a m b:Nat)(l:List Pt)(hl:l.length<=1000000000)(ha:a<m)(hb:b<=l.length)(hs:Srt Pt.v l m b):∀(k i j:Nat),j-i=k->m<=i->i<=j->j<=b->(∀ p,m<=p->p<i->kf Pt.v l p<kf Pt.v l a)->(∀ p,j<=p->p<b->kf Pt.v l a<=kf Pt.v l p)->
  ∃ x:Nat,D.ask (.lp 243 0) [.sl 0 0 l.length 3,iv (a:Int),FC,iv (i:Int),iv (j:Int)] [Hd l]=some (.tup [iv 0,.sl 0 0 l.length 3,iv (a:Int),iv (x:Int)],[.set (Hd l)])
   ∧ m<=x/\x<=b/\(∀ p,m<=p->p<x->kf Pt.v l p<kf Pt.v l a)/\(∀ p,x<=p->p<b->kf Pt.v l a<=kf Pt.v l p):=by
 intro k
 induction k using AqP with
 |_ k ih=>
  intro i j hk hmi hij hjb h1 h2
  by_cases he:i<j
  .have hH:(i+j) / 2<l.length:=by omega
   have hA:a<l.length:=by omega
   have kh:kf Pt.v l ((i+j) / 2)=l[(i+j) / 2].v:=FV Pt.v hH;have ka:kf Pt.v l a=l[a].v:=FV Pt.v hA
   by_cases hlt:l[(i+j) / 2].v<l[a].v
   .obtain⟨x,g,hx⟩:=ih (j-((i+j) / 2+1)) (by omega) ((i+j) / 2+1) j rfl (by omega) (by omega) hjb (λp p1 p2=>by
     by_cases hp:p=(i+j) / 2
     .rw[hp,kh,ka];exact hlt
     .have:=hs p ((i+j) / 2) p1 (by omega) (by omega)
      omega) h2
    refine⟨x,?_,hx⟩;refine K.lp' CM _ rfl (by kernel_rfl) ((UA ..).trans ?_);refine Ao (by omega)?_;refine ltF_go (by decide)?_;rw[Dx (by omega),Bh (by omega)];rw[AG,Bb hH];refine Ag ?_;refine(By AK l ((i+j) / 2) hH _).trans ?_;simp only[eP,eN,ND,Aa];rw[AG,Bb hA];refine Ag ?_;refine(By AK l a hA _).trans ?_;simp only[eP,eN,ND,Aa];refine Ab (Ho K l[(i+j) / 2] l[a])?_;simp only[ND,Aa];refine Ao (Fx.2 hlt)?_;refine Ab g ?_;rfl
   .obtain⟨x,g,hx⟩:=ih ((i+j) / 2-i) (by omega) i ((i+j) / 2) rfl hmi (by omega) (by omega) h1 (λp p1 p2=>by
     by_cases hp:p=(i+j) / 2
     .rw[hp];omega
     .have:=hs ((i+j) / 2) p (by omega) (by omega) (by omega)
      omega)
    refine⟨x,?_,hx⟩;refine K.lp' CM _ rfl (by kernel_rfl) ((UA ..).trans ?_);refine Ao (by omega)?_;refine ltF_go (by decide)?_;rw[Dx (by omega)];rw[AG,Bb hH];refine Ag ?_;refine(By AK l ((i+j) / 2) hH _).trans ?_;simp only[eP,eN,ND,Aa];rw[AG,Bb hA];refine Ag ?_;refine(By AK l a hA _).trans ?_;simp only[eP,eN,ND,Aa];refine Ab (Ho K l[(i+j) / 2] l[a])?_;simp only[ND,Aa];refine ltF_go (λh=>hlt (Fx.1 h))?_;refine Ab g ?_;rfl
  .obtain rfl:i=j:=by omega
   refine⟨i,?_,hmi,hjb,h1,h2⟩;refine K.lp' CM _ rfl (by kernel_rfl) ((UA ..).trans ?_);exact ltF_go (by omega)rfl
theorem AfE(a x:Nat)(l0:List Pt):∀(n k:Nat) (l:List Pt),x-1-k=n->a<=k->k<x->x<=l.length->l.length<=1000000000->l.length=l0.length->Rot l0 l a (a+1) (k+1)->
  ∃ r:List Pt,D.ask (.lp 243 1) [.sl 0 0 l.length 3,iv (x:Int),iv (k:Int)] [Hd l]=some (.tup [iv 2,.sl 0 0 l.length 3],[.set (Hd r)])
   ∧ r.length=l.length/\r.Perm l/\Rot l0 r a (a+1) x:=by
 intro n
 induction n with
 |zero=>
  intro k l hn ha hk hx hl h0 ht;obtain rfl:x=k+1:=by omega
  refine⟨l,?_,rfl,List.Perm.refl _,ht⟩;refine K.lp' CM _ rfl (by kernel_rfl) ((Aac ..).trans ?_);rw[Ii (by omega) (by omega)];exact ltF_go (by omega)rfl
 |succ n ih=>
  intro k l hn ha hk hx hl h0 ht;have hI:k<l.length:=by omega
  have hJ:k+1<l.length:=by omega
  have hlen:=IL l k (k+1);obtain⟨r,g,hr,hp,ho⟩:=ih (k+1) (Dh l k (k+1)) (by omega) (by omega) (by omega) (by omega) (by omega) (by omega) (Aj7 ha (by omega) h0 ht);rw[hlen]at g hr;refine⟨r,?_,hr,hp.trans (G0 _ _ _),ho⟩;refine K.lp' CM _ rfl (by kernel_rfl) ((Aac ..).trans ?_);rw[Ii (by omega) (by omega)];refine Ao (by omega)?_;rw[Bh (by omega)];rw[AG,Bb hJ];refine Ag ?_;refine(By AK l (k+1) hJ _).trans ?_;simp only[eP,eN,ND,Aa];rw[AG,Bb hI];refine Ag ?_;refine(By AK l k hI _).trans ?_;simp only[eP,eN,ND,Aa];have s1:=CV AK l k hI l[(k+1)];have s2:=CV AK (l.set k l[(k+1)]) (k+1) (by rw[Aqa];exact hJ) l[k];rw[←DY hI hJ]at s2;simp only[eP,eN]at s1 s2;rw[AG,Bb hI];refine Ag ?_;rw[show ApM (0+k*3+3) (Aw eP l).length=true by rw[BB AK];simp;omega];refine Ag ?_;rw[AG,Bb hJ];refine Ag ?_;rw[s1,s2];rw[show ApM (0+(k+1)*3+3) (Aw eP (l.set k l[(k+1)])).length=true by rw[BB AK,Aqa];simp;omega];refine Ag ?_;refine Ab g ?_;rfl
theorem AfF(a m:Nat)(l:List Pt)(hl:l.length<=1000000000)(hb:m<l.length)(hs:Srt Pt.v l a m):∀(k i j:Nat),j-i=k->a<=i->i<=j->j<=m->(∀ p,a<=p->p<i->kf Pt.v l p<=kf Pt.v l m)->(∀ p,j<=p->p<m->kf Pt.v l m<kf Pt.v l p)->
  ∃ x:Nat,D.ask (.lp 243 2) [.sl 0 0 l.length 3,iv (m:Int),FC,iv (i:Int),iv (j:Int)] [Hd l]=some (.tup [iv 4,.sl 0 0 l.length 3,iv (m:Int),iv (x:Int)],[.set (Hd l)])
   ∧ a<=x/\x<=m/\(∀ p,a<=p->p<x->kf Pt.v l p<=kf Pt.v l m)/\(∀ p,x<=p->p<m->kf Pt.v l m<kf Pt.v l p):=by
 intro k
 induction k using AqP with
 |_ k ih=>
  intro i j hk hmi hij hjb h1 h2
  by_cases he:i<j
  .have hH:(i+j) / 2<l.length:=by omega
   have kh:kf Pt.v l ((i+j) / 2)=l[(i+j) / 2].v:=FV Pt.v hH;have ka:kf Pt.v l m=l[m].v:=FV Pt.v hb
   by_cases hlt:l[m].v<l[(i+j) / 2].v
   .obtain⟨x,g,hx⟩:=ih ((i+j) / 2-i) (by omega) i ((i+j) / 2) rfl hmi (by omega) (by omega) h1 (λp p1 p2=>by
     by_cases hp:p=(i+j) / 2
     .rw[hp];omega
     .have:=hs ((i+j) / 2) p (by omega) (by omega) (by omega)
      omega)
    refine⟨x,?_,hx⟩;refine K.lp' CM _ rfl (by kernel_rfl) ((UB ..).trans ?_);refine Ao (by omega)?_;refine ltF_go (by decide)?_;rw[Dx (by omega)];rw[AG,Bb hb];refine Ag ?_;refine(By AK l m hb _).trans ?_;simp only[eP,eN,ND,Aa];rw[AG,Bb hH];refine Ag ?_;refine(By AK l ((i+j) / 2) hH _).trans ?_;simp only[eP,eN,ND,Aa];refine Ab (Ho K l[m] l[(i+j) / 2])?_;simp only[ND,Aa];refine Ao (Fx.2 hlt)?_;refine Ab g ?_;rfl
   .obtain⟨x,g,hx⟩:=ih (j-((i+j) / 2+1)) (by omega) ((i+j) / 2+1) j rfl (by omega) (by omega) hjb (λp p1 p2=>by
     by_cases hp:p=(i+j) / 2
     .rw[hp];omega
     .have:=hs p ((i+j) / 2) p1 (by omega) (by omega)
      omega) h2
    refine⟨x,?_,hx⟩;refine K.lp' CM _ rfl (by kernel_rfl) ((UB ..).trans ?_);refine Ao (by omega)?_;refine ltF_go (by decide)?_;rw[Dx (by omega),Bh (by omega)];rw[AG,Bb hb];refine Ag ?_;refine(By AK l m hb _).trans ?_;simp only[eP,eN,ND,Aa];rw[AG,Bb hH];refine Ag ?_;refine(By AK l ((i+j) / 2) hH _).trans ?_;simp only[eP,eN,ND,Aa];refine Ab (Ho K l[m] l[(i+j) / 2])?_;simp only[ND,Aa];refine ltF_go (λh=>hlt (Fx.1 h))?_;refine Ab g ?_;rfl
  .obtain rfl:i=j:=by omega
   refine⟨i,?_,hmi,hjb,h1,h2⟩;refine K.lp' CM _ rfl (by kernel_rfl) ((UB ..).trans ?_);exact ltF_go (by omega)rfl
theorem AfG(m x:Nat)(l0:List Pt):∀(n k:Nat) (l:List Pt),k-x=n->x<=k->k<=m->m<l.length->l.length<=1000000000->l.length=l0.length->Rot l0 l k m (m+1)->
  ∃ r:List Pt,D.ask (.lp 243 3) [.sl 0 0 l.length 3,iv (x:Int),iv (k:Int)] [Hd l]=some (.tup [iv 6,.sl 0 0 l.length 3],[.set (Hd r)])
   ∧ r.length=l.length/\r.Perm l/\Rot l0 r x m (m+1):=by
 intro n
 induction n with
 |zero=>
  intro k l hn hx hk hm hl h0 ht;obtain rfl:x=k:=by omega
  refine⟨l,?_,rfl,List.Perm.refl _,ht⟩;refine K.lp' CM _ rfl (by kernel_rfl) ((Aad ..).trans ?_);exact ltF_go (by omega)rfl
 |succ n ih=>
  intro k l hn hx hk hm hl h0 ht;obtain⟨j,rfl⟩:∃ j,k=j+1:=⟨k-1,by omega⟩;have hI:j+1<l.length:=by omega
  have hJ:j<l.length:=by omega
  have hlen:=IL l (j+1) j;obtain⟨r,g,hr,hp,ho⟩:=ih j (Dh l (j+1) j) (by omega) (by omega) (by omega) (by omega) (by omega) (by omega) (Ab4 (by omega) (by omega) h0 ht);rw[hlen]at g hr;refine⟨r,?_,hr,hp.trans (G0 _ _ _),ho⟩;refine K.lp' CM _ rfl (by kernel_rfl) ((Aad ..).trans ?_);refine Ao (by omega)?_;rw[TE (by omega)];rw[AG,Bb hJ];refine Ag ?_;refine(By AK l j hJ _).trans ?_;simp only[eP,eN,ND,Aa];rw[AG,Bb hI];refine Ag ?_;refine(By AK l (j+1) hI _).trans ?_;simp only[eP,eN,ND,Aa];have s1:=CV AK l (j+1) hI l[j];have s2:=CV AK (l.set (j+1) l[j]) j (by rw[Aqa];exact hJ) l[(j+1)];rw[←DY hI hJ]at s2;simp only[eP,eN]at s1 s2;rw[AG,Bb hI];refine Ag ?_;rw[show ApM (0+(j+1)*3+3) (Aw eP l).length=true by rw[BB AK];simp;omega];refine Ag ?_;rw[AG,Bb hJ];refine Ag ?_;rw[s1,s2];rw[show ApM (0+j*3+3) (Aw eP (l.set (j+1) l[j])).length=true by rw[BB AK,Aqa];simp;omega];refine Ag ?_;refine Ab g ?_;rfl
theorem WW(a m b mid x y:Nat)(l:List Pt)(hl:l.length<=1000000000)(hb:b<=l.length)(hs1:Srt Pt.v l a m)(hs2:Srt Pt.v l m b)(hx:a<=x)(hy:y<=m)(hn:mid+m<=x+b)(hm:y<=mid)(hmid:mid<=b)(hmb:m<=b):∀(k s r:Nat),r-s=k->Bs Pt.v l (mid+m) x y s r->
  ∃ z:Nat,D.ask (.lp 243 4) [.sl 0 0 l.length 3,iv (a:Int),iv (m:Int),iv (b:Int),FC,iv (mid:Int),iv ((mid+m:Nat):Int),iv (s:Int),iv (r:Int),iv ((mid+m-1:Nat):Int)] [Hd l]=some (.tup [iv 8,.sl 0 0 l.length 3,iv (a:Int),iv (m:Int),iv (b:Int),FC,iv (mid:Int),iv ((mid+m:Nat):Int),iv (z:Int)],[.set (Hd l)])
   ∧ Bs Pt.v l (mid+m) x y z z:=by
 intro k
 induction k using AqP with
 |_ k ih=>
  intro s r hk B;have:=B.xs;have:=B.sr;have:=B.ry
  by_cases he:s<r
  .have hH:(s+r) / 2<l.length:=by omega
   have hP:mid+m-1-(s+r) / 2<l.length:=by omega
   have kh:kf Pt.v l ((s+r) / 2)=l[(s+r) / 2].v:=FV Pt.v hH;have kp:kf Pt.v l (mid+m-1-(s+r) / 2)=l[mid+m-1-(s+r) / 2].v:=FV Pt.v hP
   by_cases hlt:l[mid+m-1-(s+r) / 2].v<l[(s+r) / 2].v
   .obtain⟨z,g,hz⟩:=ih ((s+r) / 2-s) (by omega) s ((s+r) / 2) rfl (B.dn Pt.v hs1 hs2 hx hy (by omega) (by omega) (by omega) (by omega) (by omega))
    refine⟨z,?_,hz⟩;refine K.lp' CM _ rfl (by kernel_rfl) ((UC ..).trans ?_);refine Ao (by omega)?_;refine ltF_go (by decide)?_;rw[Dx (by omega),Cz (a:=mid+m-1) (b:=(s+r) / 2) (by omega) (by omega)];rw[AG,Bb hP];refine Ag ?_;refine(By AK l (mid+m-1-(s+r) / 2) hP _).trans ?_;simp only[eP,eN,ND,Aa];rw[AG,Bb hH];refine Ag ?_;refine(By AK l ((s+r) / 2) hH _).trans ?_;simp only[eP,eN,ND,Aa];refine Ab (Ho K l[mid+m-1-(s+r) / 2] l[(s+r) / 2])?_;simp only[ND,Aa];refine Ao (Fx.2 hlt)?_;refine Ab g ?_;rfl
   .obtain⟨z,g,hz⟩:=ih (r-((s+r) / 2+1)) (by omega) ((s+r) / 2+1) r rfl (B.up Pt.v hs1 hs2 hx hy (by omega) (by omega) (by omega) (by omega) (by omega))
    refine⟨z,?_,hz⟩;refine K.lp' CM _ rfl (by kernel_rfl) ((UC ..).trans ?_);refine Ao (by omega)?_;refine ltF_go (by decide)?_;rw[Dx (by omega),Cz (a:=mid+m-1) (b:=(s+r) / 2) (by omega) (by omega),Bh (by omega)];rw[AG,Bb hP];refine Ag ?_;refine(By AK l (mid+m-1-(s+r) / 2) hP _).trans ?_;simp only[eP,eN,ND,Aa];rw[AG,Bb hH];refine Ag ?_;refine(By AK l ((s+r) / 2) hH _).trans ?_;simp only[eP,eN,ND,Aa];refine Ab (Ho K l[mid+m-1-(s+r) / 2] l[(s+r) / 2])?_;simp only[ND,Aa];refine ltF_go (λh=>hlt (Fx.1 h))?_;refine Ab g ?_;rfl
  .obtain rfl:s=r:=by omega
   refine⟨s,?_,B⟩;refine K.lp' CM _ rfl (by kernel_rfl) ((UC ..).trans ?_);exact ltF_go (by omega)rfl
end
def tl2(D:Orc)(n:Nat)(mid e b:Int)(cs:List AV):KR:=
 br (Aj.lt mid e)
  (br (Aj.lt e b)
   (Ae D (.fn 243) [.sl 0 0 n 3,iv mid,iv e,iv b,FC] [ABlk.mk cs true true] λr o=>
   Az r λcs4=>
   Ad cs4<|
   Am o λc l=>
   AE true true c λcs5=>
   Ac l<|
   some ((AV.tup [],[BO.set (ABlk.mk cs5 true true)])))
   (some ((AV.tup [],[BO.set (ABlk.mk cs true true)]))))
  (some ((AV.tup [],[BO.set (ABlk.mk cs true true)])))
def tl1(D:Orc)(n:Nat)(a s mid e b:Int)(cs:List AV):KR:=
 br (Aj.lt a s)
  (br (Aj.lt s mid)
   (Ae D (.fn 243) [.sl 0 0 n 3,iv a,iv s,iv mid,FC] [ABlk.mk cs true true] λr o=>
   Az r λcs4=>
   Ad cs4<|
   Am o λc l=>
   AE true true c λcs5=>
   Ac l<|
   tl2 D n mid e b cs5)
   (tl2 D n mid e b cs))
  (tl2 D n mid e b cs)
section
variable {D:Orc}
def MQ(D:Orc)(N:Nat):Prop:=∀(l:List Pt) (a m b:Nat),b-a<N->a<m->m<b->b<=l.length->l.length<=1000000000->Srt Pt.v l a m->Srt Pt.v l m b->
 ∃ r:List Pt,D.ask (.fn 243) [.sl 0 0 l.length 3,iv (a:Int),iv (m:Int),iv (b:Int),FC] [Hd l]=some (.tup [],[.set (Hd r)])
  ∧ r.length=l.length/\r.Perm l/\Srt Pt.v r a b/\Same0 l r a b
theorem Akh{N:Nat}(ih:MQ D N){l:List Pt}{mid e b:Nat}(hN:b-mid<N)(h1:mid<=e)(h2:e<=b)(hb:b<=l.length)(hl:l.length<=1000000000)(s1:Srt Pt.v l mid e)(s2:Srt Pt.v l e b) :
  ∃ r:List Pt,tl2 D l.length (mid:Int) (e:Int) (b:Int) (Aw eP l)=some (.tup [],[.set (Hd r)])/\r.length=l.length/\r.Perm l/\Srt Pt.v r mid b/\Same0 l r mid b:=by
 by_cases q1:mid<e
 .by_cases q2:e<b
  .obtain⟨r,g,hr,hp,ho,hs⟩:=ih l mid e b hN q1 q2 hb hl s1 s2
   refine⟨r,?_,hr,hp,ho,hs⟩;unfold tl2;refine Ao (by omega)?_;refine Ao (by omega)?_;refine Ab g ?_;rfl
  .refine⟨l,?_,rfl,List.Perm.refl _,KI Pt.v (.inr (by omega)) s1 s2,De _ _ _⟩
   unfold tl2;refine Ao (by omega)?_;exact ltF_go (by omega)rfl
 .refine⟨l,?_,rfl,List.Perm.refl _,KI Pt.v (.inl (by omega)) s1 s2,De _ _ _⟩
  unfold tl2;exact ltF_go (by omega)rfl
theorem LN{N:Nat}(ih:MQ D N){l:List Pt}{a s mid e b:Nat}(hN:mid-a<N)(hN2:b-mid<N)(h1:a<=s)(h2:s<=mid)(h3:mid<=e)(h4:e<=b)(hb:b<=l.length)(hl:l.length<=1000000000)(s1:Srt Pt.v l a s)(s2:Srt Pt.v l s mid)(s3:Srt Pt.v l mid e)(s4:Srt Pt.v l e b)(lo:Low Pt.v l a mid b) :
  ∃ r:List Pt,tl1 D l.length (a:Int) (s:Int) (mid:Int) (e:Int) (b:Int) (Aw eP l)=some (.tup [],[.set (Hd r)])/\r.length=l.length/\r.Perm l/\Srt Pt.v r a b/\Same0 l r a b:=by
 have fin:∀{l1:List Pt},l1.length=l.length->l1.Perm l->Srt Pt.v l1 a mid->Same0 l l1 a mid->∃ r:List Pt,tl2 D l.length (mid:Int) (e:Int) (b:Int) (Aw eP l1)=some (.tup [],[.set (Hd r)])/\r.length=l.length/\r.Perm l/\Srt Pt.v r a b/\Same0 l r a b:=by
  intro l1 k1 k2 k3 k4;have lo1:=Abk Pt.v lo k2 k4 (by omega);obtain⟨r,g,hr,hp,ho,hs⟩:=Akh ih (l:=l1) (mid:=mid) (e:=e) (b:=b) hN2 h3 h4 (by omega) (by omega) (s3.same' Pt.v k4 (.inr (ApA _))) (s4.same' Pt.v k4 (.inr h3));rw[k1]at g hr;exact⟨r,g,hr,hp.trans k2,Afw Pt.v (k3.same' Pt.v hs (.inl (ApA _))) ho (X5 Pt.v lo1 hp hs (by omega)),(k4.wide (ApA _) (by omega)).trans (hs.wide (by omega) (ApA _))⟩
 by_cases q1:a<s
 .by_cases q2:s<mid
  .obtain⟨r,g,hr,hp,ho,hs⟩:=ih l a s mid hN q1 q2 (by omega) hl s1 s2
   obtain⟨r2,g2,h⟩:=fin hr hp ho hs;refine⟨r2,?_,h⟩;unfold tl1;refine Ao (by omega)?_;refine Ao (by omega)?_;refine Ab g ?_;exact g2
  .obtain⟨r2,g2,h⟩:=fin (l1:=l) rfl (List.Perm.refl _) (KI Pt.v (.inr (by omega)) s1 s2) (De _ _ _)
   refine⟨r2,?_,h⟩;unfold tl1;refine Ao (by omega)?_;exact(Zx (by omega)).trans g2
 .obtain⟨r2,g2,h⟩:=fin (l1:=l) rfl (List.Perm.refl _) (KI Pt.v (.inl (by omega)) s1 s2) (De _ _ _)
  refine⟨r2,?_,h⟩;unfold tl1;exact(Zx (by omega)).trans g2
variable (K:Knows Al Fk D)
include K
theorem AfC:∀ N,MQ D N:=by
 intro N
 induction N with
 |zero=>intro l a m b h;omega
 |succ N ih0=>
  intro l a m b hN ha hm hb hl hs1 hs2
  by_cases hA:m-a=1
  .obtain rfl:m=a+1:=by omega
   obtain⟨x,g1,x1,x2,x3,x4⟩:=AfD K a (a+1) b l hl (by omega) hb hs2 _ (a+1) b rfl (ApA _) (by omega) (ApA _) (λp p1 p2=>by omega) (λp p1 p2=>by omega);obtain⟨r,g2,r1,r2,r3⟩:=AfE K a x l _ a l rfl (ApA _) (by omega) (by omega) hl rfl (Gp (.inr rfl) (by omega) (by omega));refine⟨r,?_,r1,r2,SZ Pt.v x1 x2 hs2 x3 x4 r3,λp hp=>r3.out p (by omega)⟩;refine K.fn' CM _ rfl ((R5 ..).trans ?_);rw[Cz (a:=a+1) (b:=a) (by omega) (by omega)];refine AF (by omega)?_;refine Ab g1 ?_;simp only[FC,ND,Aa];refine Ab g2 ?_;rfl
  by_cases hB:b-m=1
  .obtain rfl:b=m+1:=by omega
   obtain⟨x,g1,x1,x2,x3,x4⟩:=AfF K a m l hl (by omega) hs1 _ a m rfl (ApA _) (by omega) (ApA _) (λp p1 p2=>by omega) (λp p1 p2=>by omega);obtain⟨r,g2,r1,r2,r3⟩:=AfG K m x l _ m l rfl x2 (ApA _) (by omega) hl rfl (Gp (.inl rfl) (by omega) (by omega));refine⟨r,?_,r1,r2,U9 Pt.v x1 x2 hs1 x3 x4 r3,λp hp=>r3.out p (by omega)⟩;refine K.fn' CM _ rfl ((R5 ..).trans ?_);rw[Cz (a:=m) (b:=a) (by omega) (by omega)];refine eqF_go (by omega)?_;rw[Cz (a:=m+1) (b:=m) (by omega) (by omega)];refine AF (by omega)?_;refine Ab g1 ?_;simp only[FC,ND,Aa];refine Ag ?_;refine Ab g2 ?_;rfl
  have ih:MQ D N:=ih0
  by_cases hC:(a+b) / 2<m
  .obtain⟨z,g4,B⟩:=WW K a m b ((a+b) / 2) ((a+b) / 2+m-b) ((a+b) / 2) l hl hb hs1 hs2 (by omega) (by omega) (by omega) (by omega) (by omega) (by omega) _ ((a+b) / 2+m-b) ((a+b) / 2) rfl ⟨ApA _,by omega,ApA _,λc c1 c2=>by omega,λc c1 c2=>by omega⟩
   have C:=B.cut Pt.v hs1 hs2 (by omega) (by omega) (by omega) (by omega) (.inr (by omega)) (.inr rfl);have:=C.asl;have:=C.sm;have:=C.me;have:=C.eb;have:=C.mid;have:=B.ry;have:=B.xs;have e0:Aj.sub .i64 (((a+b) / 2+m:Nat):Int) (z:Int)=(((a+b) / 2+m-z:Nat):Int):=Cz (by omega) (by omega)
   by_cases w1:z<m
   .by_cases w2:m<(a+b) / 2+m-z
    .obtain⟨l1,g5,k1,k2,k3⟩:=Ab6 K w1 w2 (by omega) hl
     obtain⟨f1,f2,f3,f4,f5⟩:=ES Pt.v C hs1 hs2 k3;obtain⟨r,g6,r1,r2,r3,r4⟩:=LN ih (l:=l1) (a:=a) (s:=z) (mid:=(a+b) / 2) (e:=(a+b) / 2+m-z) (b:=b) (by omega) (by omega) (by omega) (by omega) (by omega) (by omega) (by omega) (by omega) f1 f2 f3 f4 f5;have sm:Same0 l l1 a b:=λp hp=>k3.out p (by omega)
     rw[k1]at g6 r1;refine⟨r,?_,r1,r2.trans k2,r3,sm.trans r4⟩;refine K.fn' CM _ rfl ((R5 ..).trans ?_);rw[Cz (a:=m) (b:=a) (by omega) (by omega)];refine eqF_go (by omega)?_;rw[Cz (a:=b) (b:=m) (by omega) (by omega)];refine eqF_go (by omega)?_;refine ltF_go (by decide)?_;rw[Dx (a:=a) (b:=b) (by omega)];rw[JM (a:=(a+b) / 2) (b:=m) (by omega),Ii (a:=(a+b) / 2+m) (by omega) (by omega)];rw[Cz (a:=(a+b) / 2+m) (b:=b) (by omega) (by omega)];refine Ao (by omega)?_;refine Ab g4 ?_;simp only[FC,ND,Aa];refine Ag ?_;rw[e0];refine Ao (by omega)?_;refine Ao (by omega)?_;refine Ab g5 ?_;exact g6
    .obtain⟨f1,f2,f3,f4,f5⟩:=ES Pt.v C hs1 hs2 (Gp (l:=l) (.inr (by omega)) (by omega) (by omega))
     obtain⟨r,g6,r1,r2,r3,r4⟩:=LN ih (l:=l) (a:=a) (s:=z) (mid:=(a+b) / 2) (e:=(a+b) / 2+m-z) (b:=b) (by omega) (by omega) (by omega) (by omega) (by omega) (by omega) (by omega) (by omega) f1 f2 f3 f4 f5;refine⟨r,?_,r1,r2,r3,r4⟩;refine K.fn' CM _ rfl ((R5 ..).trans ?_);rw[Cz (a:=m) (b:=a) (by omega) (by omega)];refine eqF_go (by omega)?_;rw[Cz (a:=b) (b:=m) (by omega) (by omega)];refine eqF_go (by omega)?_;refine ltF_go (by decide)?_;rw[Dx (a:=a) (b:=b) (by omega)];rw[JM (a:=(a+b) / 2) (b:=m) (by omega),Ii (a:=(a+b) / 2+m) (by omega) (by omega)];rw[Cz (a:=(a+b) / 2+m) (b:=b) (by omega) (by omega)];refine Ao (by omega)?_;refine Ab g4 ?_;simp only[FC,ND,Aa];refine Ag ?_;rw[e0];refine Ao (by omega)?_;refine ltF_go (by omega)?_;exact g6
   .obtain⟨f1,f2,f3,f4,f5⟩:=ES Pt.v C hs1 hs2 (Gp (l:=l) (.inl (by omega)) (by omega) (by omega))
    obtain⟨r,g6,r1,r2,r3,r4⟩:=LN ih (l:=l) (a:=a) (s:=z) (mid:=(a+b) / 2) (e:=(a+b) / 2+m-z) (b:=b) (by omega) (by omega) (by omega) (by omega) (by omega) (by omega) (by omega) (by omega) f1 f2 f3 f4 f5;refine⟨r,?_,r1,r2,r3,r4⟩;refine K.fn' CM _ rfl ((R5 ..).trans ?_);rw[Cz (a:=m) (b:=a) (by omega) (by omega)];refine eqF_go (by omega)?_;rw[Cz (a:=b) (b:=m) (by omega) (by omega)];refine eqF_go (by omega)?_;refine ltF_go (by decide)?_;rw[Dx (a:=a) (b:=b) (by omega)];rw[JM (a:=(a+b) / 2) (b:=m) (by omega),Ii (a:=(a+b) / 2+m) (by omega) (by omega)];rw[Cz (a:=(a+b) / 2+m) (b:=b) (by omega) (by omega)];refine Ao (by omega)?_;refine Ab g4 ?_;simp only[FC,ND,Aa];refine Ag ?_;rw[e0];refine ltF_go (by omega)?_;exact g6
  .obtain⟨z,g4,B⟩:=WW K a m b ((a+b) / 2) a m l hl hb hs1 hs2 (by omega) (by omega) (by omega) (by omega) (by omega) (by omega) _ a m rfl ⟨ApA _,by omega,ApA _,λc c1 c2=>by omega,λc c1 c2=>by omega⟩
   have C:=B.cut Pt.v hs1 hs2 (by omega) (by omega) (by omega) (by omega) (.inl rfl) (.inl rfl);have:=C.asl;have:=C.sm;have:=C.me;have:=C.eb;have:=C.mid;have:=B.ry;have:=B.xs;have e0:Aj.sub .i64 (((a+b) / 2+m:Nat):Int) (z:Int)=(((a+b) / 2+m-z:Nat):Int):=Cz (by omega) (by omega)
   by_cases w1:z<m
   .by_cases w2:m<(a+b) / 2+m-z
    .obtain⟨l1,g5,k1,k2,k3⟩:=Ab6 K w1 w2 (by omega) hl
     obtain⟨f1,f2,f3,f4,f5⟩:=ES Pt.v C hs1 hs2 k3;obtain⟨r,g6,r1,r2,r3,r4⟩:=LN ih (l:=l1) (a:=a) (s:=z) (mid:=(a+b) / 2) (e:=(a+b) / 2+m-z) (b:=b) (by omega) (by omega) (by omega) (by omega) (by omega) (by omega) (by omega) (by omega) f1 f2 f3 f4 f5;have sm:Same0 l l1 a b:=λp hp=>k3.out p (by omega)
     rw[k1]at g6 r1;refine⟨r,?_,r1,r2.trans k2,r3,sm.trans r4⟩;refine K.fn' CM _ rfl ((R5 ..).trans ?_);rw[Cz (a:=m) (b:=a) (by omega) (by omega)];refine eqF_go (by omega)?_;rw[Cz (a:=b) (b:=m) (by omega) (by omega)];refine eqF_go (by omega)?_;refine ltF_go (by decide)?_;rw[Dx (a:=a) (b:=b) (by omega)];rw[JM (a:=(a+b) / 2) (b:=m) (by omega),Ii (a:=(a+b) / 2+m) (by omega) (by omega)];refine ltF_go (by omega)?_;refine Ab g4 ?_;simp only[FC,ND,Aa];refine Ag ?_;rw[e0];refine Ao (by omega)?_;refine Ao (by omega)?_;refine Ab g5 ?_;exact g6
    .obtain⟨f1,f2,f3,f4,f5⟩:=ES Pt.v C hs1 hs2 (Gp (l:=l) (.inr (by omega)) (by omega) (by omega))
     obtain⟨r,g6,r1,r2,r3,r4⟩:=LN ih (l:=l) (a:=a) (s:=z) (mid:=(a+b) / 2) (e:=(a+b) / 2+m-z) (b:=b) (by omega) (by omega) (by omega) (by omega) (by omega) (by omega) (by omega) (by omega) f1 f2 f3 f4 f5;refine⟨r,?_,r1,r2,r3,r4⟩;refine K.fn' CM _ rfl ((R5 ..).trans ?_);rw[Cz (a:=m) (b:=a) (by omega) (by omega)];refine eqF_go (by omega)?_;rw[Cz (a:=b) (b:=m) (by omega) (by omega)];refine eqF_go (by omega)?_;refine ltF_go (by decide)?_;rw[Dx (a:=a) (b:=b) (by omega)];rw[JM (a:=(a+b) / 2) (b:=m) (by omega),Ii (a:=(a+b) / 2+m) (by omega) (by omega)];refine ltF_go (by omega)?_;refine Ab g4 ?_;simp only[FC,ND,Aa];refine Ag ?_;rw[e0];refine Ao (by omega)?_;refine ltF_go (by omega)?_;exact g6
   .obtain⟨f1,f2,f3,f4,f5⟩:=ES Pt.v C hs1 hs2 (Gp (l:=l) (.inl (by omega)) (by omega) (by omega))
    obtain⟨r,g6,r1,r2,r3,r4⟩:=LN ih (l:=l) (a:=a) (s:=z) (mid:=(a+b) / 2) (e:=(a+b) / 2+m-z) (b:=b) (by omega) (by omega) (by omega) (by omega) (by omega) (by omega) (by omega) (by omega) f1 f2 f3 f4 f5;refine⟨r,?_,r1,r2,r3,r4⟩;refine K.fn' CM _ rfl ((R5 ..).trans ?_);rw[Cz (a:=m) (b:=a) (by omega) (by omega)];refine eqF_go (by omega)?_;rw[Cz (a:=b) (b:=m) (by omega) (by omega)];refine eqF_go (by omega)?_;refine ltF_go (by decide)?_;rw[Dx (a:=a) (b:=b) (by omega)];rw[JM (a:=(a+b) / 2) (b:=m) (by omega),Ii (a:=(a+b) / 2+m) (by omega) (by omega)];refine ltF_go (by omega)?_;refine Ab g4 ?_;simp only[FC,ND,Aa];refine Ag ?_;rw[e0];refine ltF_go (by omega)?_;exact g6
theorem Ya:M8 D:=λl a m b h1 h2 h3 h4 h5 h6=>AfC K (b-a+1) l a m b (by omega) h1 h2 h3 h4 h5 h6
theorem Acu{l:List Pt}(hl:l.length<=1000000000) :
  ∃ r:List Pt,D.ask (.fn 152) [.sl 0 0 l.length 3,FC] [Hd l]=some (.tup [],[.set (Hd r)])
   ∧ r.length=l.length/\r.Perm l/\Srt Pt.v r 0 r.length:=Afv K (Ya K) hl
end
def fnZ:AV:=.fn (.func 157) [] []
section
variable {D:Orc} (K:Knows Al Fk D)
include K
theorem Ajm(P:Pt->Bool)(l:List Pt)(hl:l.length<=1000000000)(hP:∀ p∈l,D.ask (.fn 157) [.agg (eP p)] []=some (bv (P p),[])):∀(m i:Nat),l.length-i=m->i<=l.length->
  D.ask (.lp 208 0) [.sl 0 0 l.length 3,fnZ,iv (l.length:Int),iv (i:Int)] [ABlk.mk (Aw eP l) true true]
   = if i+(l.drop i).findIdx P<l.length then some (.tup [bv true,.sl 0 0 l.length 3,iv ((i+(l.drop i).findIdx P:Nat):Int)],[.set (ABlk.mk (Aw eP l) true true)]) else some (.tup [iv 0,.sl 0 0 l.length 3],[.set (ABlk.mk (Aw eP l) true true)]):=by
 intro m
 induction m with
 |zero=>
  intro i hm hi;rw[if_neg (by omega)];refine K.lp' NQ _ rfl (by kernel_rfl) ((Q0 ..).trans ?_);exact ltF_go (by omega)rfl
 |succ m ih=>
  intro i hm hi;have h1:i<l.length:=by omega
  have g:=hP l[i] (ApQ h1);have ih':=ih (i+1) (by omega) (by omega);rw[ApE h1,Asz]
  cases hp:P l[i]with
  |true=>
   rw[hp]at g;rw[if_pos (by simpa using h1)];refine K.lp' NQ _ rfl (by kernel_rfl) ((Q0 ..).trans ?_);refine Ao (by omega)?_;rw[AG,Bb h1];refine Ag ?_;refine(By AK l i h1 _).trans ?_;simp only[eP,eN,ND,Aa];refine Ab g ?_;simp only[ND,Aa];rfl
  |false=>
   rw[hp]at g;rw[show (bif false then 0 else(l.drop (i+1)).findIdx P+1)=(l.drop (i+1)).findIdx P+1 from rfl,show i+((l.drop (i+1)).findIdx P+1)=i+1+(l.drop (i+1)).findIdx P by omega]
   by_cases h:i+1+(l.drop (i+1)).findIdx P<l.length
   .rw[if_pos h]at ih' ⊢
    refine K.lp' NQ _ rfl (by kernel_rfl) ((Q0 ..).trans ?_);refine Ao (by omega)?_;rw[AG,Bb h1];refine Ag ?_;refine(By AK l i h1 _).trans ?_;simp only[eP,eN,ND,Aa];refine Ab g ?_;simp only[ND,Aa];rw[Bh (by omega)];refine Ab ih' ?_;rfl
   .rw[if_neg h]at ih' ⊢
    refine K.lp' NQ _ rfl (by kernel_rfl) ((Q0 ..).trans ?_);refine Ao (by omega)?_;rw[AG,Bb h1];refine Ag ?_;refine(By AK l i h1 _).trans ?_;simp only[eP,eN,ND,Aa];refine Ab g ?_;simp only[ND,Aa];rw[Bh (by omega)];refine Ab ih' ?_;rfl
theorem Ajn(P:Pt->Bool)(l:List Pt)(hl:l.length<=1000000000)(hP:∀ p∈l,D.ask (.fn 157) [.agg (eP p)] []=some (bv (P p),[])) :
  D.ask (.fn 208) [.sl 0 0 l.length 3,fnZ] [ABlk.mk (Aw eP l) true true]
   = some (iv (if l.findIdx P<l.length then(l.findIdx P:Int) else -1),[.set (ABlk.mk (Aw eP l) true true)]):=by
 have g:=Ajm K P l hl hP _ 0 rfl (by omega);rw[ApD,ApX]at g;refine K.fn' NQ _ rfl ((AnW ..).trans ?_)
 by_cases h:l.findIdx P<l.length
 .rw[if_pos h]at g ⊢
  refine Ab g ?_;rfl
 .rw[if_neg h]at g ⊢
  refine Ab g ?_;rfl
theorem Ai3(P:Pt->Bool)(Q:Pt->Prop)(hP:∀ p,Q p->D.ask (.fn 157) [.agg (eP p)] []=some (bv (P p),[])):∀(m j i:Nat) (l:List Pt),l.length-j=m->i<=j->j<=l.length->l.length<=1000000000->(∀ p∈l.drop j,Q p)->
  ∃(r:List Pt) (c:Nat),D.ask (.lp 156 0) [.sl 0 0 l.length 3,fnZ,iv (i:Int),iv (j:Int)] [ABlk.mk (Aw eP l) true true]
   = some (.tup [iv 0,.sl 0 0 l.length 3,iv (c:Int)],[.set (ABlk.mk (Aw eP r) true true)])
   ∧ r.length=l.length/\c<=l.length/\r.take c=l.take i++(l.drop j).filter (λp=>!P p):=by
 intro m
 induction m with
 |zero=>
  intro j i l hm hi hj hl hq;refine⟨l,i,?_,rfl,by omega,?_⟩
  .refine K.lp' NO _ rfl (by kernel_rfl) ((Uw ..).trans ?_)
   exact ltF_go (by omega)rfl
  .rw[ApL (by omega),List.filter_nil,AqH]
 |succ m ih=>
  intro j i l hm hi hj hl hq;have h1:j<l.length:=by omega
  have h0:i<l.length:=by omega
  have ed:=ApE h1;have g:=hP l[j] (hq _ (by rw[ed];exact ApV ..));rw[ed,AsF]
  cases hp:P l[j]with
  |true=>
   rw[hp]at g;obtain⟨r,c,g2,hr,hc,he⟩:=ih (j+1) i l (by omega) (by omega) (by omega) hl (λp h=>hq p (by rw[ed];exact ApW _ h));refine⟨r,c,?_,hr,hc,he⟩;refine K.lp' NO _ rfl (by kernel_rfl) ((Uw ..).trans ?_);refine Ao (by omega)?_;rw[AG,Bb h1];refine Ag ?_;refine(By AK l j h1 _).trans ?_;simp only[eP,eN,ND,Aa];refine Ab g ?_;simp only[ND,Aa];rw[Bh (by omega)];refine Ab g2 ?_;rfl
  |false=>
   rw[hp]at g;have hd:(l.set i l[j]).drop (j+1)=l.drop (j+1):=List.drop_set_of_lt (by omega);obtain⟨r,c,g2,hr,hc,he⟩:=ih (j+1) (i+1) (l.set i l[j]) (by rw[Aqa];omega) (by omega) (by rw[Aqa];omega) (by rw[Aqa];exact hl) (λp h=>hq p (by rw[ed];rw[hd]at h;exact ApW _ h));rw[Aqa]at g2 hr hc;have s1:=CV AK l i h0 l[j];simp only[eP,eN]at s1;refine⟨r,c,?_,hr,hc,?_⟩
   .skip
    refine K.lp' NO _ rfl (by kernel_rfl) ((Uw ..).trans ?_);refine Ao (by omega)?_;rw[AG,Bb h1];refine Ag ?_;refine(By AK l j h1 _).trans ?_;simp only[eP,eN,ND,Aa];refine Ab g ?_;simp only[ND,Aa];rw[AG,Bb h0];refine Ag ?_;rw[show ApM (0+i*3+3) (Aw eP l).length=true by rw[BB AK];simp;omega];refine Ag ?_;rw[s1,Bh (by omega),Bh (by omega)];refine Ab g2 ?_;rfl
   .rw[he,hd,List.take_succ_eq_append_getElem (by rw[Aqa];exact h0),List.getElem_set_self,List.take_set_of_le (ApA _),Ap9]
    rfl
omit K in
theorem NF(P:Pt->Bool):∀ l:List Pt,l.findIdx P<l.length->l.take (l.findIdx P)++(l.drop (l.findIdx P+1)).filter (λp=>!P p)=l.filter (λp=>!P p)
 |[],h=>by simp at h
 |x::r,h=>by
  rw[Asz]at h ⊢
  cases hp:P x with
  |true=>simp[hp]
  |false=>
   rw[hp]at h;have:=NF P r (by simpa using h);simp only[cond_false,List.take_succ_cons,List.drop_succ_cons,AsF,hp,AsL,if_true,AqX];rw[this]
omit K in
theorem Sa(P:Pt->Bool)(l:List Pt)(h:¬ l.findIdx P<l.length):l.filter (λp=>!P p)=l:=by
 rw[List.filter_eq_self];intro p hp
 cases e:P p with
 |false=>rfl
 |true=>exact absurd (List.findIdx_lt_length_of_exists ⟨p,hp,e⟩) h
omit K in
theorem Ox:∀(l:List Pt) (i:Nat),i<=l.length->(Aw eP l).take (i*3)=Aw eP (l.take i)
 |[],i,_=>by simp[Aw]
 |y::r,0,_=>by simp[Aw]
 |y::r,i+1,h=>by
  rw[show (i+1)*3=3+i*3 by omega]
  show (eP y++Aw eP r).take (3+i*3)=eP y++Aw eP (r.take i)
  rw[AsH,AqM (by rw[AK];omega),AK,show 3+i*3-3=i*3 by omega,Ox r i (by simpa using h)]
theorem Ai4(P:Pt->Bool)(l:List Pt)(hl:l.length<=1000000000)(hP:∀ p∈l,D.ask (.fn 157) [.agg (eP p)] []=some (bv (P p),[])) :
  ∃ cells:List AV,D.ask (.fn 156) [.sl 0 0 l.length 3,fnZ] [ABlk.mk (Aw eP l) true true]
   = some (.sl 0 0 (l.filter λp=>!P p).length 3,[.set (ABlk.mk cells true true)])
   ∧ cells.take ((l.filter λp=>!P p).length*3)=Aw eP (l.filter λp=>!P p)/\(l.filter λp=>!P p).length*3<=cells.length:=by
 have g:=Ajn K P l hl hP
 by_cases h:l.findIdx P<l.length
 .rw[if_pos h]at g
  obtain⟨r,c,g2,hr,hc,he⟩:=Ai3 K P (λp=>p∈l) hP _ (l.findIdx P+1) (l.findIdx P) l rfl (by omega) (by omega) hl (λp hp=>List.mem_of_mem_drop hp);rw[NF P l h]at he;have hk:(l.filter λp=>!P p).length=c:=by
   rw[←he,Ap0];omega
  rw[hk,←he];refine⟨Ba (Aw eP r) (0+c*3) (Cw [iv 0,bv false,.v (.slice none 0 0)] ((l.length-c)*3)),?_,?_,?_⟩
  .refine K.fn' NO _ rfl ((AkI ..).trans ?_)
   refine Ab g ?_;simp only[ND,Aa];refine eqF_go (by omega)?_;rw[Bh (by omega)];refine Ab g2 ?_;simp only[ND,Aa];rw[AG,show J3 c l.length l.length=true by unfold J3;rw[AqB hc,AqB (ApA _)]];refine Ag ?_;rw[show ApM (0+c*3+(l.length-c)*3) (Aw eP r).length=true by rw[BB AK];simp;omega];refine Ag ?_;rw[AG,show J3 0 c l.length=true by unfold J3;rw[AqB (Aqv _),AqB hc]];rfl
  .unfold Ba
   have hlen:((Aw eP r).take (0+c*3)).length=c*3:=by
    rw[Ap0,BB AK];omega
   rw[Ap9,List.take_left' hlen,ApX,Ox r c (by omega)]
  .unfold Ba
   rw[ApH,ApH,Ap0,BB AK];omega
 .rw[if_neg h]at g
  rw[Sa P l h];refine⟨Aw eP l,?_,Bf AK l rfl,by rw[BB AK];exact ApA _⟩;refine K.fn' NO _ rfl ((AkI ..).trans ?_);refine Ab g ?_;simp only[ND,Aa];exact AF rfl rfl
end
structure PartF (D:Orc):Prop where
 clone:∀ l:List Pt,l.length<=1000000000->D.ask (.fn 151) [.ls (l.map eP)] []=some (.sl 0 0 l.length 3,[.set (Hd l)])
 grow:∀ n:Nat,n<=1000000000->D.ask (.fn 263) [.v (.slice none 0 0),iv (n:Int)] []=some (.sl 0 0 0 3,[.set (Hd [])])
section
variable (o:List Pt) (x:Pt)
theorem AmA(k:List AV->KR):IG (Aw eP (o++[x])) (0+o.length*3+0) 1 k=k [iv x.v]:=by
 have hl:=BB AK o;rw[←Bg];unfold IG;rw[show ApM (0+o.length*3+0+1) (Aw eP o++eP x).length=true by rw[ApH,hl,AK];simp<;>omega]
 show k (((Aw eP o++eP x).drop (0+o.length*3+0)).take 1)=_
 rw[List.drop_left' (by omega)];rfl
theorem AoX(k:List AV->KR):IG (Aw eP (o++[x])) (0+o.length*3+1) 2 k=k [bv x.z.neg,eN x.z.abs]:=by
 have hl:=BB AK o;rw[←Bg];unfold IG;rw[show ApM (0+o.length*3+1+2) (Aw eP o++eP x).length=true by rw[ApH,hl,AK];simp]
 show k (((Aw eP o++eP x).drop (0+o.length*3+1)).take 2)=_
 rw[List.drop_append,Ash (by omega),show 0+o.length*3+1-(Aw eP o).length=1 by omega];rfl
theorem Ao0(z:Zi):Ba (Aw eP (o++[x])) (0+o.length*3+1) [bv z.neg,eN z.abs]=Aw eP (o++[⟨x.v,z⟩]):=by
 have hl:=BB AK o;rw[←Bg,←Bg];unfold Ba;rw[AsH,AqM (by omega),show 0+o.length*3+1-(Aw eP o).length=1 by omega,Ash (by rw[ApH,AK,hl];simp),AqH,Ap9];rfl
end
section
variable {D:Orc} (Kt:Knows Al I7 D) (Ks:Knows Al Fk D) (Z:ZF D) (C:PartF D)
include Z
include Kt in
theorem GD{z:Zi}(hz:Lz 1000000000 z):D.ask (.fn 155) [.agg (eZ z)] []=some (.agg (eZ (AO (zv z))),[]):=by
 refine Kt.fn' AgH _ rfl ((Anu ..).trans ?_);refine Ab (Z.frm z hz)?_;rfl
include Ks in
theorem XW{p:Pt}(hz:Lz 1000000000 p.z):D.ask (.fn 157) [.agg (eP p)] []=some (bv (decide (zv p.z=0)),[]):=by
 have g:=Z.sign p.z hz;refine Ks.fn' AgI _ rfl ((Anv ..).trans ?_);refine Ab g ?_;simp only[ND,Aa]
 by_cases h:zv p.z=0
 .rw[decide_eq_true h,h]
  exact K3 rfl
 .rw[decide_eq_false h]
  refine Uk ?_;unfold CH;split
  .omega
  .split
   .omega
   .omega
include Kt in
theorem AbP{k:Nat}(ps:List Pt)(hl:ps.length<=1000000)(hk:k+ps.length<=900000000)(hz:∀ p∈ps,Lz k p.z)(r0:List (List AV))(r1:Bool)(r2:List (List AV))(k1:Bool)(k2:List (List AV)):∀(m i:Nat) (s:List (Int × Int)),ps.length-i=m->i<=ps.length->s.length<=i->(∀ q∈s,InB (k+i) q.2)->
  D.ask (.lp 89 0) [.ptr 0 0,.ptr 1 0,.ls (ps.map eP),iv (ps.length:Int),iv (i:Int)] [⟨[.ls r0,bv r1,.ls r2],true,false⟩,⟨[.sl 2 0 (s.map Bm).reverse.length 3,bv k1,.ls k2],true,false⟩,Hd (s.map Bm).reverse]
   = some (.tup [iv 0,.ptr 0 0,.ptr 1 0],[.set ⟨[.ls r0,bv r1,.ls r2],true,false⟩,.set ⟨[.sl 3 0 ((((ps.drop i).map pv).foldl FU s).map Bm).reverse.length 3,bv k1,.ls k2],true,false⟩,.del,.set (Hd ((((ps.drop i).map pv).foldl FU s).map Bm).reverse)]):=by
 intro m
 induction m with
 |zero=>
  intro i s hm hi hs hb;rw[ApL (by omega),Aq9,List.foldl_nil];refine Kt.lp' AaW _ rfl (by kernel_rfl) ((Age ..).trans ?_);exact ltF_go (by omega)rfl
 |succ m ih0=>
  intro i s hm hi hs hb;have h1:i<ps.length:=by omega
  have hzk:=hz ps[i] (ApQ h1);have hzi:=hzk.mono (show k<=1000000000 by omega);rw[ApE h1,Ap2,Arl];have ih:=ih0 (i+1) (FU s (pv ps[i])) (by omega) (by omega) (by have:=Sj s (pv ps[i]);omega) (Si hb (hzk.inb.mono (show k<=k+i by omega)));refine Kt.lp' AaW _ rfl (by kernel_rfl) ((Age ..).trans ?_);refine Ao (by omega)?_;rw[AG,AD (Apy h1)];simp only[eP,eN,ND,Aa];generalize hS:((ps.drop (i+1)).map pv).foldl FU (FU s (pv ps[i]))=S at ih ⊢
  by_cases hneg:ps[i].v<0
  .have e:FU s (pv ps[i])=s:=by
    have hn:(pv ps[i]).1<0:=hneg
    cases s with
    |nil=>rw[Ga,if_pos hn]
    |cons q r=>rw[EU,if_pos hn]
   rw[e]at ih;refine Ao hneg ?_;rw[Bh (by omega)];refine Ab ih ?_;rfl
  have hn:¬(pv ps[i]).1<0:=hneg;refine ltF_go hneg ?_
  cases s with
  |nil=>
   rw[Ga,if_neg hn]at ih;refine leF_go (by decide)?_;obtain⟨o,ho0⟩:∃ o:List Pt,o=[]:=⟨_,rfl⟩;have eo:(([pv ps[i]].map Bm).reverse)=o++[Bm (pv ps[i])]:=by rw[ho0];rfl
   rw[eo]at ih;have ho:o.length<=i:=by rw[ho0];exact Aqv _
   rw[show ((([]:List (Int × Int)).map Bm).reverse)=o from ho0.symm];have hf:Bp (o.length+1) 40=true:=AS (by omega) (by omega);have hb1:ApM (0+o.length*3) (Aw eP o).length=true:=A3 AK o (by omega);have e3:ApK 0 (ApG (0+o.length*3) (Aw eP o))++[iv ps[i].v,bv (AO (zv ps[i].z)).neg,eN (AO (zv ps[i].z)).abs]=Aw eP (o++[Bm (pv ps[i])]):=by
    rw[ApD,Bf AK o (by omega)];exact Bg eP o (Bm (pv ps[i]))
   refine Ab (GD Kt Z hzi)?_;simp only[eZ,eN,ND,Aa]at e3 ⊢;rw[hf];refine Ag ?_;rw[hb1];refine Ag ?_;rw[e3,Bh (by omega)];rw[ApH,Aql]at ih;refine Ab ih ?_;rfl
  |cons q r=>
   have eo:(((q::r).map Bm).reverse)=(r.map Bm).reverse++[Bm q]:=by simp
   have hq:=hb q (ApV ..);rw[eo];rw[EU,if_neg hn]at ih;have hro:(r.map Bm).reverse.length<=i:=by simp at hs ⊢;omega
   by_cases heq:q.1=(pv ps[i]).1
   .rw[if_pos heq,Ap2,AsB]at ih
    generalize (r.map Bm).reverse=o at hro ih ⊢;have e1:Aj.sub .i64 (((o++[Bm q]).length:Nat):Int) 1=((o.length:Nat):Int):=by
     rw[ApH,Aql];exact TE (by omega)
    have hlt:o.length<(o++[Bm q]).length:=by simp
    have ga:=Z.add (AO q.2) ps[i].z (hq.lz.mono (by omega)) (hzk.mono (by omega));rw[AJ]at ga;have sp:=Ao0 o (Bm q) (AO (q.2+zv ps[i].z));rw[e1];refine CA (by omega)?_;rw[AG,Bb hlt];refine Ag ?_;refine(AmA o (Bm q) _).trans ?_;simp only[ND,Aa];refine AF (show (Bm q).v=ps[i].v from heq)?_;rw[AG,Bb hlt];refine Ag ?_;refine(AoX o (Bm q) _).trans ?_;simp only[eN,ND,Aa];refine Ab ga ?_;simp only[eZ,eN,ND,Aa]at sp ⊢;rw[AG,Bb hlt];refine Ag ?_;rw[show ApM (0+o.length*3+1+2) (Aw eP (o++[Bm q])).length=true by rw[BB AK];simp;omega];refine Ag ?_;rw[sp,Bh (by omega)];have el:(o++[Bm q]).length=(o++[Bm (q.1,q.2+(pv ps[i]).2)]).length:=by simp
    rw[el];refine Ab ih ?_;rfl
   .rw[if_neg heq,Ap2,AsB,eo]at ih
    have hlen:((r.map Bm).reverse++[Bm q]).length<=i:=by simp at hs ⊢;omega
    have e1:Aj.sub .i64 ((((r.map Bm).reverse++[Bm q]).length:Nat):Int) 1=(((r.map Bm).reverse.length:Nat):Int):=by
     rw[ApH,Aql];exact TE (by omega)
    have hlt:(r.map Bm).reverse.length<((r.map Bm).reverse++[Bm q]).length:=by simp
    rw[e1];refine CA (by omega)?_;rw[AG,Bb hlt];refine Ag ?_;refine(AmA _ (Bm q) _).trans ?_;simp only[ND,Aa];refine eqF_go (show ¬(Bm q).v=ps[i].v from heq)?_;generalize (r.map Bm).reverse++[Bm q]=o at hlen ih ⊢;have ho:=hlen;have hf:Bp (o.length+1) 40=true:=AS (by omega) (by omega);have hb1:ApM (0+o.length*3) (Aw eP o).length=true:=A3 AK o (by omega);have e3:ApK 0 (ApG (0+o.length*3) (Aw eP o))++[iv ps[i].v,bv (AO (zv ps[i].z)).neg,eN (AO (zv ps[i].z)).abs]=Aw eP (o++[Bm (pv ps[i])]):=by
     rw[ApD,Bf AK o (by omega)];exact Bg eP o (Bm (pv ps[i]))
    refine Ab (GD Kt Z hzi)?_;simp only[eZ,eN,ND,Aa]at e3 ⊢;rw[hf];refine Ag ?_;rw[hb1];refine Ag ?_;rw[e3,Bh (by omega)];rw[ApH,Aql]at ih;refine Ab ih ?_;rfl
include Kt Ks C in
theorem Ez{n k:Nat}{t:Tm}(h:TmB n k t)(hn:n<=1000000)(hk:k+n<=900000000):D.ask (.fn 89) [.agg (eT t)] []=some (.agg (eT t.lf.pln.tm),[]):=by
 obtain⟨ps,kz⟩:=t;have hlen:ps.length<=n:=h.len;obtain⟨r,gs,gr,gp,go⟩:=Acu Ks (l:=ps) (by omega);have gc:=C.clone ps (by omega);have gk:=GD Kt Z (h.k.mono (show k<=1000000000 by omega));have hzr:∀ p∈r,Lz k p.z:=λp hp=>h.ps p (gp.mem_iff.1 hp)
 have gl:=AbP Kt Z r (k:=k) (by omega) (by omega) hzr [] false [] (AO (zv kz)).neg ((AO (zv kz)).abs.map eL) _ 0 [] rfl (by omega) (by simp) (by simp);rw[ApD]at gl;have hsrt:(r.map pv).Pairwise λa b=>a.1<=b.1:=by
  rw[List.pairwise_map];exact RA Pt.v go
 have hpl:=Ad8 hsrt (gp.map pv);generalize hS:(r.map pv).foldl FU []=S at gl hpl;have hsb:∀ p∈((S.map Bm).reverse),Lz 1000000000 p.z:=by
  have key:∀(t s:List (Int × Int)) (j:Nat),(∀ q∈s,InB (k+j) q.2)->(∀ q∈t,InB k q.2)->∀ q∈t.foldl FU s,InB (k+j+t.length) q.2:=by
   intro t
   induction t with
   |nil=>intro s j hs _ q hq;exact hs q hq
   |cons p t ih=>
    intro s j hs ht q hq;have:=ih (FU s p) (j+1) (Si hs ((ht p (ApV ..)).mono (show k<=k+j by omega))) (λq hq=>ht q (ApW _ hq)) q hq;rw[ApI];exact this.mono (by omega)
  intro p hp;rw[List.mem_reverse,AqS]at hp;obtain⟨q,hq,rfl⟩:=hp;have:=key (r.map pv) [] 0 (by simp) (λq hq=>by
   rw[AqS]at hq;obtain⟨p,hp,rfl⟩:=hq;exact(hzr p hp).inb) q (by rw[hS];exact hq)
  rw[ApY]at this;exact(this.lz).mono (by omega)
 have hSl:S.length<=1000000:=by
  have key:∀(t s:List (Int × Int)),(t.foldl FU s).length<=s.length+t.length:=by
   intro t
   induction t with
   |nil=>intro s;simp
   |cons p t ih=>
    intro s;have:=ih (FU s p);have h2:=Sj s p;rw[Arl,ApI];omega
  have:=key (r.map pv) [];rw[hS,ApY]at this;simp at this;omega
 obtain⟨cells,gd,gt,gle⟩:=Ai4 Ks (λp=>decide (zv p.z=0)) (S.map Bm).reverse (by simp;omega) λp hp=>XW Ks Z (hsb p hp)
 have hfin:((S.map Bm).reverse).filter (λp=>!decide (zv p.z=0))=(D4 (ps.map pv)).map Bm:=by
  rw[←hpl,←List.map_reverse,List.filter_map]
  congr 1
  refine List.filter_congr λq _=>?_
  show (!decide (zv (AO q.2)=0))=_
  rw[AJ]
 rw[hfin]at gd gt gle;refine Kt.fn' AaW _ rfl ((e89 ..).trans ?_);refine Ab gc ?_;simp only[ND,Aa];refine Ab gs ?_;simp only[ND,Aa];refine Ab gk ?_;simp only[eZ,eN,ND,Aa];rw[show ApM (0+ps.length*3) (Aw eP r).length=true from A3 AK r (by omega)];refine Ag ?_;rw[Cs AK r (by omega),←gr];refine Ab gl ?_;simp only[ND,Aa];refine Ab gd ?_;simp only[ND,Aa];rw[show ApM (0+((D4 (ps.map pv)).map Bm).length*3) cells.length=true by simp;simp at gle;omega];refine Ag ?_;rw[gt,C2 AK];rfl
end
def eR(r:List Pt):List AV:=[.ls (r.map eP)]
theorem AbI(p:Pt):Kd (eP p)=true:=rfl
def scP(x:Zi)(p:Pt):Pt:=⟨p.v,AO (zv p.z*zv x)⟩
theorem AiG{a b:Nat}(h:a+b<4611686018427387904):Aj.add .i64 (a:Int) (b:Int)=((a+b:Nat):Int):=by
 rw[Hb (by omega) (by omega)];omega
section
variable {D:Orc} (Kt:Knows Al I7 D) (Kf:Knows Al Mt D) (Ks:Knows Al Fk D) (Z:ZF D) (C:PartF D)
include Kf
theorem AiY(rs:List (List Pt))(X:List (List AV))(hr:rs.length<=1000000):∀(m i s:Nat),rs.length-i=m->i<=rs.length->s+(rs.drop i).flatten.length<=1000000000->
  D.ask (.lp 250 0) [.ls X,iv (s:Int),.ls (rs.map eR),iv (rs.length:Int),iv (i:Int)] []=some (.tup [iv 0,.ls X,iv ((s+(rs.drop i).flatten.length:Nat):Int)],[]):=by
 intro m
 induction m with
 |zero=>
  intro i s hm hi hs;rw[ApL (by omega)];refine Kf.lp' Ma _ rfl (by kernel_rfl) ((Aae ..).trans ?_);exact ltF_go (by omega)rfl
 |succ m ih=>
  intro i s hm hi hs;have h1:i<rs.length:=by omega
  rw[ApE h1,AqU,ApH]at hs ⊢;have ih:=ih (i+1) (s+rs[i].length) (by omega) (by omega) (by omega);rw[show s+rs[i].length+(rs.drop (i+1)).flatten.length=s+(rs[i].length+(rs.drop (i+1)).flatten.length) by omega]at ih;refine Kf.lp' Ma _ rfl (by kernel_rfl) ((Aae ..).trans ?_);refine Ao (by omega)?_;rw[AG,AD (Apy h1)];simp only[eR,ND,Aa];rw[Av,AiG (by omega),Bh (by omega)];refine ltF_go (by omega)?_;refine Ab ih ?_;rfl
theorem AiZ(rs:List (List Pt))(hr:rs.length<=1000000):∀(m i:Nat) (out:List Pt),rs.length-i=m->i<=rs.length->out.length+(rs.drop i).flatten.length<=1000000000->
  D.ask (.lp 250 1) [.sl 0 0 out.length 3,.ls (rs.map eR),iv (rs.length:Int),iv (i:Int)] [Hd out]=some (.tup [iv 2,.sl 1 0 (out++(rs.drop i).flatten).length 3],[.del,.set (Hd (out++(rs.drop i).flatten))]):=by
 intro m
 induction m with
 |zero=>
  intro i out hm hi hs;rw[ApL (by omega),List.flatten_nil,AqH];refine Kf.lp' Ma _ rfl (by kernel_rfl) ((Aaf ..).trans ?_);exact ltF_go (by omega)rfl
 |succ m ih=>
  intro i out hm hi hs;have h1:i<rs.length:=by omega
  rw[ApE h1,AqU]at hs ⊢;rw[ApH]at hs;have ih:=ih (i+1) (out++rs[i]) (by omega) (by omega) (by rw[ApH];omega);rw[Ap9]at ih;refine Kf.lp' Ma _ rfl (by kernel_rfl) ((Aaf ..).trans ?_);refine Ao (by omega)?_;rw[AG,AD (Apy h1)];revert hs ih;generalize rs[i]=r;intro hs ih;simp only[eR,ND,Aa];rw[IO AK,Av,Bh (by omega)];refine Ag ?_
  by_cases h0:r=[]
  .subst h0
   rw[AqH]at ih;rw[Ap4]at ih ⊢;refine Ag ?_;refine Ab ih ?_;rfl
  .have hz:Nat.beq r.length 0=false:=by
    cases r with
    |nil=>exact absurd rfl h0
    |cons x r=>rfl
   rw[hz];refine brF_go ?_;rw[E3,Kg AbI];refine Ag ?_;rw[AS (n:=out.length+r.length) (b:=40) (by omega) (by omega)];refine Ag ?_;rw[show ApM (0+out.length*3) (Aw eP out).length=true from A3 AK out (by omega)];refine Ag ?_;have e3:ApK 0 (ApG (0+out.length*3) (Aw eP out))++Aw eP r=Aw eP (out++r):=by
    rw[ApD,Bf AK out (by omega)];simp[Aw]
   rw[e3];rw[show (out++r).length=out.length+r.length from ApH]at ih;refine Ab ih ?_;rfl
include C in
theorem Xy(a b:List Pt)(h:a.length+b.length<=1000000):D.ask (.fn 250) [.ls [[.ls (a.map eP)],[.ls (b.map eP)]]] []=some (.ls ((a++b).map eP),[]):=by
 have hf:([a,b]).flatten=a++b:=by simp
 have g0:=AiY Kf [a,b] (([a,b]).map eR) (by simp) _ 0 0 rfl (by simp) (by rw[ApD,hf,ApH];omega);rw[ApD,hf,ApX]at g0;have gg:=C.grow (a++b).length (by rw[ApH];omega);have g1:=AiZ Kf [a,b] (by simp) _ 0 [] rfl (by simp) (by rw[ApD,hf,ApH];simp;omega);rw[ApD,hf,Ap4]at g1;refine Kf.fn' Ma _ rfl ((Aob ..).trans ?_);refine Ab g0 ?_;simp only[ND,Aa];refine Ab gg ?_;simp only[ND,Aa];refine Ab g1 ?_;simp only[ND,Aa];rw[show ApM (0+(a++b).length*3) (Aw eP (a++b)).length=true from A3 AK (a++b) (by omega)];refine Ag ?_;rw[Cs AK (a++b) rfl];rfl
include Kt Ks Z C
theorem AiH{n m k:Nat}{a b:Tm}(ha:TmB n k a)(hb:TmB m k b)(hn:n+m<=1000000)(hk:k+1+(n+m)<=900000000):D.ask (.fn 223) [.agg (eT a),.agg (eT b)] []=some (.agg (eT (a.lf.add b.lf).tm),[]):=by
 obtain⟨ap,ak⟩:=a;obtain⟨bp,bk⟩:=b;have l1:ap.length<=n:=ha.len;have l2:bp.length<=m:=hb.len;have gc:=Xy Kf C ap bp (by omega);have ga:=Z.add ak bk (ha.k.mono (by omega)) (hb.k.mono (by omega));have hT:TmB (n+m) (k+1) ⟨ap++bp,AO (zv ak+zv bk)⟩:=by
  refine⟨by simp;omega,λp hp=>?_,?_⟩
  .rcases List.mem_append.1 hp with h|h
   .exact(ha.ps p h).mono (by omega)
   .exact(hb.ps p h).mono (by omega)
  .exact(InB.add ha.k.inb hb.k.inb).lz
 have gp:=Ez Kt Ks Z C hT hn (by omega);have el:(⟨ap++bp,AO (zv ak+zv bk)⟩:Tm).lf.pln=Lf.add (Tm.lf ⟨ap,ak⟩) (Tm.lf ⟨bp,bk⟩):=by
  unfold Lf.add Tm.lf;simp only[List.map_append,AJ]
 rw[el]at gp;refine Kf.fn' Ag0 _ rfl ((An0 ..).trans ?_);refine Ab gc ?_;simp only[ND,Aa];refine Ab ga ?_;simp only[eZ,eN,ND,Aa];refine Ab gp ?_;rfl
omit Kt Ks C in
theorem Acj{k j:Nat}{x:Zi}(hx:Lz j x)(hx24:x.abs.length<24)(ps:List Pt)(hl:ps.length<=1000000)(hz:∀ p∈ps,Lz k p.z)(hk:k<=400000000)(hj:j<=400000000)(r0:List (List AV))(r1:Bool)(r2:List (List AV))(k1:Bool)(k2:List (List AV)):∀(m i:Nat) (out:List Pt),ps.length-i=m->i<=ps.length->out.length<=i->
  D.ask (.lp 251 0) [.ptr 0 0,.ptr 1 0,.ptr 2 0,.ls (ps.map eP),iv (ps.length:Int),iv (i:Int)] [⟨eZ x,true,false⟩,⟨[.ls r0,bv r1,.ls r2],true,false⟩,⟨[.sl 3 0 out.length 3,bv k1,.ls k2],true,false⟩,Hd out]
   = some (.tup [iv 0,.ptr 1 0,.ptr 2 0],[.del,.set ⟨[.ls r0,bv r1,.ls r2],true,false⟩,.set ⟨[.sl 4 0 (out++(ps.drop i).map (scP x)).length 3,bv k1,.ls k2],true,false⟩,.del,.set (Hd (out++(ps.drop i).map (scP x)))]):=by
 intro m
 induction m with
 |zero=>
  intro i out hm hi ho;rw[ApL (by omega),Aq9,AqH];refine Kf.lp' SE _ rfl (by kernel_rfl) ((Aag ..).trans ?_);exact ltF_go (by omega)rfl
 |succ m ih=>
  intro i out hm hi ho;have h1:i<ps.length:=by omega
  have hzk:=hz ps[i] (ApQ h1);have gm:=Z.mul ps[i].z x (hzk.mono (by omega)) (hx.mono (by omega)) (.inr hx24);rw[ApE h1,Ap2];have ih:=ih (i+1) (out++[scP x ps[i]]) (by omega) (by omega) (by simp;omega);rw[Ap9,Arn,show (out++[scP x ps[i]]).length=out.length+1 by simp]at ih;have hf:Bp (out.length+1) 40=true:=AS (by omega) (by omega);have hb1:ApM (0+out.length*3) (Aw eP out).length=true:=A3 AK out (by omega);have e3:ApK 0 (ApG (0+out.length*3) (Aw eP out))++[iv ps[i].v,bv (AO (zv ps[i].z*zv x)).neg,eN (AO (zv ps[i].z*zv x)).abs]=Aw eP (out++[scP x ps[i]]):=by
   rw[ApD,Bf AK out (by omega)];exact Bg eP out (scP x ps[i])
  obtain⟨xn,xa⟩:=x;refine Kf.lp' SE _ rfl (by kernel_rfl) ((Aag ..).trans ?_);refine Ao (by omega)?_;rw[AG,AD (Apy h1)];simp only[eP,eN,ND,Aa];refine Ab gm ?_;simp only[eZ,eN,ND,Aa]at e3 ⊢;rw[hf];refine Ag ?_;rw[hb1];refine Ag ?_;rw[e3,Bh (by omega)];refine Ab ih ?_;rfl
theorem Ack{n k j:Nat}{a:Tm}{x:Zi}(ha:TmB n k a)(hx:Lz j x)(hx24:x.abs.length<24)(hn:n<=1000000)(hj:j<=23)(hk:k+j+n<=400000000):D.ask (.fn 251) [.agg (eT a),.agg (eZ x)] []=some (.agg (eT (a.lf.scale (zv x)).tm),[]):=by
 obtain⟨ap,ak⟩:=a;have l1:ap.length<=n:=ha.len;have gm:=Z.mul ak x (ha.k.mono (by omega)) (hx.mono (by omega)) (.inr hx24);have gl:=Acj Kf Z hx hx24 ap (by omega) ha.ps (by omega) (by omega) [] false [] (AO (zv ak*zv x)).neg ((AO (zv ak*zv x)).abs.map eL) _ 0 [] rfl (by omega) (by simp);rw[ApD,Ap4]at gl;have hT:TmB n (k+j) ⟨ap.map (scP x),AO (zv ak*zv x)⟩:=by
  refine⟨by simpa using l1,λp hp=>?_,(InB.mul ha.k.inb hx.inb).lz⟩;rw[AqS]at hp;obtain⟨q,hq,rfl⟩:=hp;exact(InB.mul (ha.ps q hq).inb hx.inb).lz
 have gp:=Ez Kt Ks Z C hT hn (by omega);have el:(⟨ap.map (scP x),AO (zv ak*zv x)⟩:Tm).lf.pln=Lf.scale (Tm.lf ⟨ap,ak⟩) (zv x):=by
  unfold Lf.scale Tm.lf;simp only[List.map_map,AJ]
  congr 2
  refine List.map_congr_left λp _=>?_
  show ((p.v,zv (AO (zv p.z*zv x))):Int × Int)=_
  rw[AJ];rfl
 rw[el]at gp;obtain⟨xn,xa⟩:=x;refine Kf.fn' SE _ rfl ((Aoc ..).trans ?_);refine Ab gm ?_;simp only[eZ,eN,ND,Aa,Av];refine Ab gl ?_;simp only[ND,Aa];rw[show ApM (0+(ap.map (scP ⟨xn,xa⟩)).length*3) (Aw eP (ap.map (scP ⟨xn,xa⟩))).length=true from A3 AK _ (by omega)];refine Ag ?_;rw[Cs AK _ rfl];refine Ab gp ?_;rfl
theorem AjS{n k:Nat}{a:Tm}(ha:TmB n k a)(hn:n<=1000000)(hk:k+1+n<=400000000):D.ask (.fn 224) [.agg (eT a)] []=some (.agg (eT (a.lf.scale (-1)).tm),[]):=by
 have g1:=Z.of_ (-1) (by omega) (by omega);have hx:Lz 1 (AO (-1)):=InB.lz (by unfold InB;decide);have g2:=Ack Kt Kf Ks Z C ha hx (by have:=hx.len;omega) hn (by omega) hk;rw[AJ]at g2;refine Kf.fn' Ag1 _ rfl ((An1 ..).trans ?_);refine Ab g1 ?_;simp only[eZ,eN,ND,Aa];refine Ab g2 ?_;rfl
theorem Acv{n m k:Nat}{a b:Tm}(ha:TmB n k a)(hb:TmB m k b)(hn:n+m<=1000000)(hk:k+2+2*(n+m)<=400000000):D.ask (.fn 173) [.agg (eT a),.agg (eT b)] []=some (.agg (eT (a.lf.sub b.lf).tm),[]):=by
 have g1:=AjS Kt Kf Ks Z C hb (by omega) (by omega);have hn1:LB m (k+1+m) (b.lf.scale (-1)):=hb.lb.scale (by unfold InB;decide);have g2:=AiH Kt Kf Ks Z C (ha.mono (ApA _) (show k<=k+1+m by omega)) hn1.tb hn (by omega);rw[DZ]at g2;refine Kf.fn' AgN _ rfl ((AnB ..).trans ?_);refine Ab g1 ?_;simp only[eT,eN,ND,Aa];refine Ab g2 ?_;rfl
omit Ks C in
theorem Yj{z:Zi}(hz:Lz 1000000000 z):D.ask (.fn 170) [.agg (eZ z)] []=some (.agg (eT (Lf.num (zv z)).tm),[]):=by
 have g:=GD Kt Z hz;refine Kf.fn' AgK _ rfl ((Anx ..).trans ?_);refine Ab g ?_;rfl
theorem AfZ{n k:Nat}{t:Tm}(h:TmB n k t)(hn:n<=1000000)(hk:k+n<=900000000):D.ask (.fn 172) [.agg (eT t)] []=some (.agg (eT t.lf.pln.tm++[bv true]),[]):=by
 have g:=Ez Kt Ks Z C h hn hk;refine Kf.fn' AgM _ rfl ((AnA ..).trans ?_);refine Ab g ?_;rfl
theorem SV{n k:Nat}{t:Tm}(h:TmB n k t)(hn:n<=1000000)(hk:k+n<=900000000):D.ask (.fn 174) [.agg (eT t)] []=some (.agg (eT t.lf.pln.tm++[bv false]),[]):=by
 have g:=Ez Kt Ks Z C h hn hk;refine Kf.fn' AgO _ rfl ((AnC ..).trans ?_);refine Ab g ?_;rfl
end
theorem Ge(k:Int)(t:Tm)(e:Bool)(ks:List Fm):I2 (.mk k t e ks)=if k=4\/k=5 then ks else if k=3 then ks.take 1 else []:=rfl
theorem Lp{k:Int}{t:Tm}{e:Bool}{ks:List Fm}{x:Fm}(hx:x∈I2 (.mk k t e ks)):x∈ks:=by
 rw[Ge]at hx;split at hx
 .exact hx
 .split at hx
  .exact List.mem_of_mem_take hx
  .cases hx
theorem Lo(k:Int)(t:Tm)(e:Bool)(ks:List Fm):(I2 (.mk k t e ks)).length<=ks.length:=by
 rw[Ge];split
 .exact ApA _
 .split
  .simp;omega
  .simp
theorem E4(x:Fm):(eF x).length=6:=by
 obtain⟨k,t,e,ks⟩:=x;rw[eF];rfl
inductive FB (n k:Nat):Fm->Prop
 |mk {kind:Int} {t:Tm} {e:Bool} {ks:List Fm} (ht:TmB n k t) (hl:ks.length<=1000000) (h:∀ x∈ks,FB n k x):FB n k (.mk kind t e ks)
theorem LB.sub{n m k:Nat}{a b:Lf}(ha:LB n k a)(hb:LB m k b):LB (n+m) (2*k+2+2*(n+m)) (a.sub b):=by
 have h1:LB m (k+1+m) (b.scale (-1)):=hb.scale (by unfold InB;decide);exact(ha.add h1).mono (ApA _) (by omega)
theorem Hy{k:Int}{t:Tm}{e:Bool}{ks:List Fm}{x:Fm}(h:x∈ks):SizeOf.sizeOf x<SizeOf.sizeOf (Fm.mk k t e ks):=by
 have:=List.sizeOf_lt_of_mem h;simp only[Fm.mk.sizeOf_spec];omega
section
variable {D:Orc} (Kt:Knows Al I7 D) (Kf:Knows Al Mt D) (Ks:Knows Al Fk D) (Z:ZF D) (C:PartF D) (Ko:Knows Al Mr D)
include Ko
theorem Gt(b:Bool):D.ask (.fn 64) [bv b] []=some (.agg (eF (MN b)),[]):=by
 refine Ko.fn' Ak8 _ rfl ((e64 ..).trans ?_)
 cases b<;>rfl
include Kt Ks Z C in
theorem KX{n k:Nat}{t:Tm}(h:TmB n k t)(hn:n<=1000000)(hk:k+n<=900000000)(e:Bool):D.ask (.fn 171) [.agg [.ls (t.ps.map eP),bv t.k.neg,eN t.k.abs,bv e]] []=some (.agg (eF (D3 t.lf.pln e)),[]):=by
 have g:=Ez Kt Ks Z C h hn hk;obtain⟨ps,kz⟩:=t;have g2:D.ask (.fn 222) [.agg [.ls (ps.map eP),bv kz.neg,eN kz.abs,bv e]] []=some (.agg (eT (Tm.lf ⟨ps,kz⟩).pln.tm++[bv e]),[]):=by
  refine Ko.fn' AgZ _ rfl ((AnZ ..).trans ?_);refine Ab g ?_;rfl
 refine Ko.fn' AgL _ rfl ((Anz ..).trans ?_);refine Ab g2 ?_;rfl
theorem Rb(x:Fm)(hl:x.kids.length<=1000000):D.ask (.fn 225) [.agg (eF x)] []=some (.ls ((I2 x).map eF),[]):=by
 obtain⟨k,t,e,ks⟩:=x;have hl:ks.length<=1000000:=hl;refine Ko.fn' Ag2 _ rfl ((An2 ..).trans ?_);rw[C8];rw[Ge]
 by_cases h4:k=4
 .rw[if_pos (.inl h4)]
  exact K3 h4
 refine eqF_go h4 ?_
 by_cases h5:k=5
 .rw[if_pos (.inr h5)]
  exact K3 h5
 refine eqF_go h5 ?_;rw[if_neg (by omega)]
 by_cases h3:k=3
 .rw[if_pos h3]
  refine AF h3 ?_;rw[Av,Amz,show min (ks.length:Int) 1=((min ks.length 1:Nat):Int) by omega,AG];rw[show J3 0 (min ks.length 1) ks.length=true by unfold J3;rw[AqB (Aqv _),AqB (Nat.min_le_left ..)]];refine Ag ?_;rw[IO E4];refine Ag ?_;rw[KO,JV,ApD,←List.map_take];have:ks.take (min ks.length 1)=ks.take 1:=by
   rw[List.take_eq_take_iff];omega
  rw[this]
 .rw[if_neg h3]
  exact eqF_go h3 rfl
theorem Xu(ks:List Fm)(hl:ks.length<=1000000)(g:∀ x∈ks,D.ask (.fn 175) [.agg (eF x)] []=some (.agg (eF (BV x)),[])):∀(m i:Nat) (out:List Fm),ks.length-i=m->i<=ks.length->out.length<=i->
  D.ask (.lp 176 0) [.sl 0 0 out.length 6,.ls (ks.map eF),iv (ks.length:Int),iv (i:Int)] [ABlk.mk (Aw eF out) true true]=some (.tup [iv 0,.sl 1 0 (out++(ks.drop i).map BV).length 6],[.del,.set (ABlk.mk (Aw eF (out++(ks.drop i).map BV)) true true)]):=by
 intro m
 induction m with
 |zero=>
  intro i out hm hi ho;rw[ApL (by omega),Aq9,AqH];refine Ko.lp' St _ rfl (by kernel_rfl) ((ZV ..).trans ?_);exact ltF_go (by omega)rfl
 |succ m ih=>
  intro i out hm hi ho;have h1:i<ks.length:=by omega
  have gx:=g ks[i] (ApQ h1);rw[ApE h1,Ap2];have ih:=ih (i+1) (out++[BV ks[i]]) (by omega) (by omega) (by simp;omega);rw[Ap9,Arn,show (out++[BV ks[i]]).length=out.length+1 by simp]at ih;have hf:Bp (out.length+1) 96=true:=AS (by omega) (by omega);have hb1:ApM (0+out.length*6) (Aw eF out).length=true:=A3 E4 out (by omega);have e3:ApK 0 (ApG (0+out.length*6) (Aw eF out))++eF (BV ks[i])=Aw eF (out++[BV ks[i]]):=by
   rw[ApD,Bf E4 out (by omega)];exact Bg eF out _
  refine Ko.lp' St _ rfl (by kernel_rfl) ((ZV ..).trans ?_);refine Ao (by omega)?_;rw[AG,AD (Apy h1)];revert gx ih e3;generalize BV ks[i]=y;generalize ks[i]=x;obtain⟨xk,xt,xe,xs⟩:=x;obtain⟨yk,yt,ye,ys⟩:=y;intro gx ih e3;simp only[eF,eN,ND,Aa]at gx e3 ⊢;refine Ab gx ?_;simp only[ND,Aa];rw[hf];refine Ag ?_;rw[hb1];refine Ag ?_;rw[e3,Bh (by omega)];refine Ab ih ?_;rfl
theorem F5{ks:List Fm}(hl:ks.length<=1000000)(g:∀ x∈ks,D.ask (.fn 175) [.agg (eF x)] []=some (.agg (eF (BV x)),[])):D.ask (.fn 176) [.ls (ks.map eF)] []=some (.ls ((ks.map BV).map eF),[]):=by
 have gl:=Xu Ko ks hl g _ 0 [] rfl (by omega) (by simp);rw[ApD,Ap4]at gl;refine Ko.fn' St _ rfl ((AnE ..).trans ?_);rw[Av];refine Ab gl ?_;simp only[ND,Aa];rw[show ApM (0+(ks.map BV).length*6) (Aw eF (ks.map BV)).length=true from A3 E4 _ (by omega)];refine Ag ?_;rw[Cs E4 _ rfl]
include Kt Ks Z C in
theorem Hq{n k:Nat}(hn:n<=1000000)(hk:k+n<=900000000):∀(N:Nat) (x:Fm),SizeOf.sizeOf x<N->FB n k x->D.ask (.fn 175) [.agg (eF x)] []=some (.agg (eF (BV x)),[]):=by
 intro N
 induction N with
 |zero=>intro x h;omega
 |succ N ih=>
  intro x hN hx;obtain⟨ht,hl,h⟩:=hx;rename_i kd t e ks;refine Ko.fn' AgP _ rfl ((AnD ..).trans ?_);rw[BV]
  by_cases h0:kd=0
  .rw[if_pos h0]
   refine AF h0 ?_;refine Ab (Gt Ko true)?_;rfl
  rw[if_neg h0];refine eqF_go h0 ?_
  by_cases h2:kd=2
  .rw[if_pos h2]
   refine AF h2 ?_;refine Ab (KX Kt Ks Z C Ko ht hn hk e)?_;rfl
  rw[if_neg h2];refine eqF_go h2 ?_
  by_cases h3:kd=3
  .rw[if_pos h3,RZ]
   refine AF h3 ?_;have hk:=Rb Ko (.mk kd t e ks) hl;have hks:∀ x∈I2 (.mk kd t e ks),x∈ks:=λx hx=>Lp hx
   have hkl:(I2 (.mk kd t e ks)).length<=1000000:=Aqm (Lo kd t e ks) hl;have gc:=F5 Ko hkl λx hx=>ih x (by have:=Hy (k:=kd) (t:=t) (e:=e) (hks x hx);omega) (h x (hks x hx))
   simp only[eF,eN,ND,Aa]at hk ⊢;refine Ab hk ?_;simp only[ND,Aa];refine Ab gc ?_;rw[Ge];rw[if_neg (by omega),if_pos h3,h3];unfold kF;rw[eF,C8];rfl
  rw[if_neg h3];refine eqF_go h3 ?_
  by_cases h4:kd=4
  .rw[if_pos (.inl h4),Hp]
   refine AF h4 ?_;have hk:=Rb Ko (.mk kd t e ks) hl;have hks:∀ x∈I2 (.mk kd t e ks),x∈ks:=λx hx=>Lp hx
   have hkl:(I2 (.mk kd t e ks)).length<=1000000:=Aqm (Lo kd t e ks) hl;have gc:=F5 Ko hkl λx hx=>ih x (by have:=Hy (k:=kd) (t:=t) (e:=e) (hks x hx);omega) (h x (hks x hx))
   simp only[eF,eN,ND,Aa]at hk ⊢;refine Ab hk ?_;simp only[ND,Aa];refine Ab gc ?_;rw[Ge];rw[if_pos (.inl h4)];unfold kF;rw[eF,C8];rfl
  refine eqF_go h4 ?_
  by_cases h5:kd=5
  .rw[if_pos (.inr h5),Hp]
   refine AF h5 ?_;have hk:=Rb Ko (.mk kd t e ks) hl;have hks:∀ x∈I2 (.mk kd t e ks),x∈ks:=λx hx=>Lp hx
   have hkl:(I2 (.mk kd t e ks)).length<=1000000:=Aqm (Lo kd t e ks) hl;have gc:=F5 Ko hkl λx hx=>ih x (by have:=Hy (k:=kd) (t:=t) (e:=e) (hks x hx);omega) (h x (hks x hx))
   simp only[eF,eN,ND,Aa]at hk ⊢;refine Ab hk ?_;simp only[ND,Aa];refine Ab gc ?_;rw[Ge];rw[if_pos (.inr h5)];unfold kF;rw[eF,C8];rfl
  rw[if_neg (by omega)];refine eqF_go h5 ?_;refine Ab (Gt Ko false)?_;rfl
include Kt Ks Z C in
theorem VV{n k:Nat}(hn:n<=1000000)(hk:k+n<=900000000){x:Fm}(h:FB n k x):D.ask (.fn 113) [.agg (eF x)] []=some (.agg (eF (kF 3 [BV x])),[]):=by
 have g:=Hq Kt Ks Z C Ko hn hk _ x (Aqp _) h;obtain⟨xk,xt,xe,xs⟩:=x;refine Ko.fn' Agp _ rfl ((Am7 ..).trans ?_);generalize BV (.mk xk xt xe xs)=y at g ⊢;obtain⟨yk,yt,ye,ys⟩:=y;simp only[eF,eN]at g;refine Ab g ?_;unfold kF;rw[eF,Jb,Jb,eF];rfl
include Kt Ks Z C in
theorem Adg{n k:Nat}(hn:n<=1000000)(hk:k+n<=900000000){l:List Fm}(hl:l.length<=1000000)(h:∀ x∈l,FB n k x):D.ask (.fn 114) [.ls (l.map eF)] []=some (.agg (eF (kF 4 (l.map BV))),[]):=by
 have g:=F5 Ko hl λx hx=>Hq Kt Ks Z C Ko hn hk _ x (Aqp _) (h x hx)
 refine Ko.fn' Agq _ rfl ((Am8 ..).trans ?_);refine Ab g ?_;unfold kF;rw[eF,C8];rfl
include Kt Ks Z C in
theorem AdB{n k:Nat}(hn:n<=1000000)(hk:k+n<=900000000){l:List Fm}(hl:l.length<=1000000)(h:∀ x∈l,FB n k x):D.ask (.fn 115) [.ls (l.map eF)] []=some (.agg (eF (kF 5 (l.map BV))),[]):=by
 have g:=F5 Ko hl λx hx=>Hq Kt Ks Z C Ko hn hk _ x (Aqp _) (h x hx)
 refine Ko.fn' Agr _ rfl ((Am9 ..).trans ?_);refine Ab g ?_;unfold kF;rw[eF,C8];rfl
omit Ko in
theorem EY{n k:Nat}{l:Lf}(h:LB n k l)(e:Bool):FB n k (D3 l e):=.mk h.tb (by simp) (by simp)
omit Ko in
theorem Rj:LB 0 1 (Lf.num 1):=⟨by simp[Lf.num],by simp[Lf.num],by unfold InB Lf.num;decide⟩
omit Ko in
theorem AdJ{l r:Lf}(hl:LB 64 5000 l)(hr:LB 64 5000 r)(op:Int):FB 128 30000 (O5 op l r):=by
 have h1:=(hl.sub hr).mono (show 64+64<=128 by omega) (show _<=11000 by omega);have h2:=(hr.sub hl).mono (show 64+64<=128 by omega) (show _<=11000 by omega);have n1:=Rj.mono (ApA 0) (show 1<=11000 by omega);have h3:=(h1.sub n1).mono (show 128+0<=128 by omega) (show _<=30000 by omega);have h4:=(h2.sub n1).mono (show 128+0<=128 by omega) (show _<=30000 by omega);have a0:TmB 128 30000 Y8:=by rw[←U5];exact LB.tb ⟨by simp[OX],by simp[OX],InB.zero _⟩
 have w1:=h1.mono (ApA 128) (show 11000<=30000 by omega);have w2:=h2.mono (ApA 128) (show 11000<=30000 by omega);unfold O5
 repeat' split
 .exact EY w1 _
 .exact .mk a0 (by simp) (λx hx=>by rw[List.mem_singleton.1 hx];exact EY w1 _)
 .exact EY h4 _
 .exact EY w2 _
 .exact EY h3 _
 .exact EY w1 _
 .exact .mk a0 (by simp) (by simp)
include Kt Kf Ks Z C
theorem AdK{l r:Tm}(hl:TmB 64 5000 l)(hr:TmB 64 5000 r)(op:Int):D.ask (.fn 112) [iv op,.agg (eT l),.agg (eT r)] []=some (.agg (eF (O5 op l.lf r.lf)),[]):=by
 have g1:=Z.of_ 1 (by omega) (by omega);have g2:=Yj Kt Kf Z (z:=AO 1) ((InB.lz (k:=1) (by unfold InB;decide)).mono (by omega));rw[AJ]at g2;have s1:∀{a b:Tm},TmB 64 5000 a->TmB 64 5000 b->D.ask (.fn 173) [.agg (eT a),.agg (eT b)] []=some (.agg (eT (a.lf.sub b.lf).tm),[]):=λha hb=>Acv Kt Kf Ks Z C ha hb (by omega) (by omega)
 have b1:∀{a b:Tm},TmB 64 5000 a->TmB 64 5000 b->LB 128 11000 (a.lf.sub b.lf):=λha hb=>(ha.lb.sub hb.lb).mono (by omega) (by omega)
 have z1:∀{a b:Tm},TmB 64 5000 a->TmB 64 5000 b->∀ e:Bool,D.ask (.fn 171) [.agg [.ls ((a.lf.sub b.lf).tm.ps.map eP),bv (a.lf.sub b.lf).tm.k.neg,eN (a.lf.sub b.lf).tm.k.abs,bv e]] []=some (.agg (eF (D3 (a.lf.sub b.lf) e)),[]):=λha hb e=>by
  have:=KX Kt Ks Z C Ko (b1 ha hb).tb (by omega) (by omega) e
  rwa [DZ,Dz]at this
 have q0:∀{l r:Tm},TmB 64 5000 l->TmB 64 5000 r->D.ask (.fn 112) [iv 0,.agg (eT l),.agg (eT r)] []=some (.agg (eF (D3 (l.lf.sub r.lf) true)),[]):=λ{l r} hl hr=>by
  have gs:=s1 hl hr;have gz:=AfZ Kt Kf Ks Z C (b1 hl hr).tb (by omega) (by omega);rw[DZ,Dz]at gz;have go:=z1 hl hr true;obtain⟨lp,lk⟩:=l;obtain⟨rp,rk⟩:=r;refine Ko.fn' L7 _ rfl ((Uv ..).trans ?_);refine Ab g1 ?_;simp only[eZ,eN,ND,Aa];refine Ab g2 ?_;simp only[eT,eN,ND,Aa];refine AF rfl ?_;refine Ab gs ?_;simp only[eT,eN,ND,Aa,AqX,Ap4]at gz ⊢;refine Ab gz ?_;simp only[ND,Aa];refine Ab go ?_;rfl
 have q3:∀{l r:Tm},TmB 64 5000 l->TmB 64 5000 r->D.ask (.fn 112) [iv 3,.agg (eT l),.agg (eT r)] []=some (.agg (eF (D3 (r.lf.sub l.lf) false)),[]):=λ{l r} hl hr=>by
  have gs:=s1 hr hl;have gz:=SV Kt Kf Ks Z C (b1 hr hl).tb (by omega) (by omega);rw[DZ,Dz]at gz;have go:=z1 hr hl false;obtain⟨lp,lk⟩:=l;obtain⟨rp,rk⟩:=r;refine Ko.fn' L7 _ rfl ((Uv ..).trans ?_);refine Ab g1 ?_;simp only[eZ,eN,ND,Aa];refine Ab g2 ?_;simp only[eT,eN,ND,Aa];refine eqF_go (by decide)?_;refine eqF_go (by decide)?_;refine eqF_go (by decide)?_;refine AF rfl ?_;refine Ab gs ?_;simp only[eT,eN,ND,Aa,AqX,Ap4]at gz ⊢;refine Ab gz ?_;simp only[ND,Aa];refine Ab go ?_;rfl
 have q2:∀{l r:Tm},TmB 64 5000 l->TmB 64 5000 r->D.ask (.fn 112) [iv 2,.agg (eT l),.agg (eT r)] []=some (.agg (eF (D3 ((r.lf.sub l.lf).sub (.num 1)) false)),[]):=λ{l r} hl hr=>by
  have gs:=s1 hr hl;have n1:=(Rj.mono (ApA 0) (show 1<=11000 by omega)).tb;have gs2:=Acv Kt Kf Ks Z C (b1 hr hl).tb n1 (by omega) (by omega);have b2:LB 128 30000 ((r.lf.sub l.lf).sub (.num 1)):=((b1 hr hl).sub (Rj.mono (ApA 0) (show 1<=11000 by omega))).mono (by omega) (by omega);rw[DZ,DZ]at gs2;have gz:=SV Kt Kf Ks Z C b2.tb (by omega) (by omega);rw[DZ,Dz]at gz;have go:=KX Kt Ks Z C Ko b2.tb (by omega) (by omega) false;rw[DZ,Dz]at go;obtain⟨lp,lk⟩:=l;obtain⟨rp,rk⟩:=r;refine Ko.fn' L7 _ rfl ((Uv ..).trans ?_);refine Ab g1 ?_;simp only[eZ,eN,ND,Aa];refine Ab g2 ?_;simp only[eT,eN,ND,Aa];refine eqF_go (by decide)?_;refine eqF_go (by decide)?_;refine AF rfl ?_;refine Ab gs ?_;simp only[eT,eN,ND,Aa,AqX,Ap4]at gz gs2 ⊢;refine Ab gs2 ?_;simp only[ND,Aa];refine Ab gz ?_;simp only[ND,Aa];refine Ab go ?_;rfl
 unfold O5
 by_cases h0:op=0
 .rw[if_pos h0,h0]
  exact q0 hl hr
 rw[if_neg h0]
 by_cases h1:op=1
 .rw[if_pos h1,h1]
  have g:=q0 hl hr;have gd:=VV Kt Ks Z C Ko (n:=128) (k:=11000) (by omega) (by omega) (EY (b1 hl hr) true);rw[(CanF.atom _ _ (Dz _ _)).clone]at gd;obtain⟨lp,lk⟩:=l;obtain⟨rp,rk⟩:=r;refine Ko.fn' L7 _ rfl ((Uv ..).trans ?_);refine Ab g1 ?_;simp only[eZ,eN,ND,Aa];refine Ab g2 ?_;simp only[eT,eN,ND,Aa];refine eqF_go (by decide)?_;refine AF rfl ?_;refine Ab g ?_;unfold D3 at gd ⊢;simp only[eF,eN,ND,Aa]at gd ⊢;refine Ab gd ?_;unfold kF;rw[eF,Jb,Jb,eF];rfl
 rw[if_neg h1]
 by_cases h2:op=2
 .rw[if_pos h2,h2]
  exact q2 hl hr
 rw[if_neg h2]
 by_cases h3:op=3
 .rw[if_pos h3,h3]
  exact q3 hl hr
 rw[if_neg h3]
 by_cases h4:op=4
 .rw[if_pos h4,h4]
  have g:=q2 hr hl;obtain⟨lp,lk⟩:=l;obtain⟨rp,rk⟩:=r;refine Ko.fn' L7 _ rfl ((Uv ..).trans ?_);refine Ab g1 ?_;simp only[eZ,eN,ND,Aa];refine Ab g2 ?_;simp only[eT,eN,ND,Aa];refine eqF_go (by decide)?_;refine eqF_go (by decide)?_;refine eqF_go (by decide)?_;refine eqF_go (by decide)?_;refine AF rfl ?_;refine Ab g ?_;rfl
 rw[if_neg h4]
 by_cases h5:op=5
 .rw[if_pos h5,h5]
  have g:=q3 hr hl;obtain⟨lp,lk⟩:=l;obtain⟨rp,rk⟩:=r;refine Ko.fn' L7 _ rfl ((Uv ..).trans ?_);refine Ab g1 ?_;simp only[eZ,eN,ND,Aa];refine Ab g2 ?_;simp only[eT,eN,ND,Aa];refine eqF_go (by decide)?_;refine eqF_go (by decide)?_;refine eqF_go (by decide)?_;refine eqF_go (by decide)?_;refine eqF_go (by decide)?_;refine AF rfl ?_;refine Ab g ?_;rfl
 rw[if_neg h5];obtain⟨lp,lk⟩:=l;obtain⟨rp,rk⟩:=r;refine Ko.fn' L7 _ rfl ((Uv ..).trans ?_);refine Ab g1 ?_;simp only[eZ,eN,ND,Aa];refine Ab g2 ?_;simp only[eT,eN,ND,Aa];refine eqF_go h0 ?_;refine eqF_go h1 ?_;refine eqF_go h2 ?_;refine eqF_go h3 ?_;refine eqF_go h4 ?_;refine eqF_go h5 ?_;refine Ab (Gt Ko false)?_;rfl
end
section
variable {D:Orc} (Kt:Knows Al I7 D) (Kf:Knows Al Mt D) (Ks:Knows Al Fk D) (Z:ZF D) (C:PartF D) (Ko:Knows Al Mr D) (Kl:Knows Al TK D)
include Kl
theorem Ae3(a b:Int):D.ask (.lp 277 0) [iv 0,.ls [[iv a],[iv b]],iv 2,iv 2] []=some (.tup [iv 0,iv 0],[]):=by
 refine Kl.lp' PL _ rfl (by kernel_rfl) ((UE ..).trans ?_);exact ltF_go (by omega)rfl
theorem Ae4(a b:Int):D.ask (.lp 277 0) [iv 0,.ls [[iv a],[iv b]],iv 2,iv 1] []=some (if b=0 then .tup [iv 0,iv 0] else .tup [bv true,iv b],[]):=by
 refine Kl.lp' PL _ rfl (by kernel_rfl) ((UE ..).trans ?_);refine Ao (by omega)?_
 show br (Aj.eq b 0) _ _=_
 by_cases h:b=0
 .refine AF h ?_
  rw[if_pos h];refine Ab (Ae3 Kl a b)?_;rfl
 .rw[if_neg h]
  exact eqF_go h rfl
theorem Vj(a b:Int):D.ask (.fn 277) [.ls [[iv a],[iv b]]] []=some (iv (LU a b),[]):=by
 have g:D.ask (.lp 277 0) [iv 0,.ls [[iv a],[iv b]],iv 2,iv 0] []=some (if LU a b=0 then .tup [iv 0,iv 0] else .tup [bv true,iv (LU a b)],[]):=by
  refine Kl.lp' PL _ rfl (by kernel_rfl) ((UE ..).trans ?_);refine Ao (by omega)?_
  show br (Aj.eq a 0) _ _=_
  unfold LU
  by_cases h:a=0
  .refine AF h ?_
   rw[if_pos h];refine Ab (Ae4 Kl a b)?_
   by_cases h2:b=0
   .rw[if_pos h2];rfl
   .rw[if_neg h2];rfl
  .rw[if_neg h,if_neg h]
   exact eqF_go h rfl
 refine Kl.fn' PL _ rfl ((Aol ..).trans ?_);refine Ab g ?_
 by_cases h:LU a b=0
 .rw[if_pos h,h];rfl
 .rw[if_neg h];rfl
include Ks Z
theorem AdI{p q:Pt}(hp:Lz 1000000000 p.z)(hq:Lz 1000000000 q.z):D.ask (.fn 284) [.agg (eP p),.agg (eP q)] []=some (iv (Py (pv p) (pv q)),[]):=by
 have g1:=QV Ks p.v q.v;have g2:=Z.cmp p.z q.z hp hq;obtain⟨a,n,x⟩:=p;obtain⟨b,m,y⟩:=q;refine Kl.fn' Ahe _ rfl ((Aop ..).trans ?_);refine Ab g1 ?_;simp only[ND,Aa];refine Ab g2 ?_;simp only[ND,Aa];refine Ab (Vj Kl _ _)?_;rfl
theorem AdN{a b:List Pt}(la:a.length<=1000000)(lb:b.length<=1000000)(ha:∀ p∈a,Lz 1000000000 p.z)(hb:∀ p∈b,Lz 1000000000 p.z):∀(m i:Nat),a.length-i=m->i<=a.length->D.ask (.lp 286 0) [.ls (a.map eP),.ls (b.map eP),.fn (.func 284) [] [],.ls (a.map eP),iv (a.length:Int),iv (i:Int)] []=some (match JU ((a.drop i).map pv) ((b.drop i).map pv) with|some n=>.tup [bv true,iv n] | none=>.tup [iv 0,.ls (a.map eP),.ls (b.map eP)],[]):=by
 intro m
 induction m with
 |zero=>
  intro i hm hi;rw[ApL (by omega)];refine Kl.lp' SI _ rfl (by kernel_rfl) ((Aal ..).trans ?_);exact ltF_go (by omega)rfl
 |succ m ih=>
  intro i hm hi;have h1:i<a.length:=by omega
  have ih:=ih (i+1) (by omega) (by omega);rw[ApE h1,Ap2];refine Kl.lp' SI _ rfl (by kernel_rfl) ((Aal ..).trans ?_);refine Ao (by omega)?_;rw[AG,AD (Apy h1)];simp only[eP,eN,ND,Aa];rw[Av]
  by_cases h2:b.length<=i
  .refine CA (by omega)?_
   rw[ApL h2];rfl
  .have h2:i<b.length:=by omega
   refine leF_go (by omega)?_;rw[AG,AD (Apy h2)];simp only[eP,eN,ND,Aa];have gc:=AdI Ks Z Kl (ha _ (ApQ h1)) (hb _ (ApQ h2));refine Ab gc ?_;simp only[ND,Aa];rw[ApE h2,Ap2,JU]
   by_cases h3:Py (pv a[i]) (pv b[i])=0
   .refine AF h3 ?_
    rw[if_pos h3,Bh (by omega)];refine Ab ih ?_
    cases JU ((a.drop (i+1)).map pv) ((b.drop (i+1)).map pv)<;>rfl
   .rw[if_neg h3]
    exact eqF_go h3 rfl
theorem ZE{a b:List Pt}(la:a.length<=1000000)(lb:b.length<=1000000)(ha:∀ p∈a,Lz 1000000000 p.z)(hb:∀ p∈b,Lz 1000000000 p.z):D.ask (.fn 286) [.ls (a.map eP),.ls (b.map eP),.fn (.func 284) [] []] []=some (iv (R0 (a.map pv) (b.map pv)),[]):=by
 refine Kl.fn' SI _ rfl ((Aor ..).trans ?_);rw[Av];refine Ab (AdN Ks Z Kl la lb ha hb _ 0 rfl (by omega))?_;rw[ApD,ApD];unfold R0
 cases JU (a.map pv) (b.map pv) with
 |some n=>rfl
 |none=>
  simp only[ND,Aa]
  show br (Aj.lt _ _) _ _=_
  rw[Av,Av];simp only[ApY]
  by_cases h:a.length<b.length
  .refine Ao (by omega)?_
   rw[if_pos h]
  .refine ltF_go (by omega)?_
   rw[if_neg h]
include Kt C
theorem AdL{n k:Nat}{t u:Tm}(ht:TmB n k t)(hu:TmB n k u)(hn:n<=1000000)(hk:k+n<=900000000):D.ask (.fn 278) [.agg (eT t),.agg (eT u)] []=some (iv (Xv t.lf.pln u.lf.pln),[]):=by
 have g1:=Ez Kt Ks Z C ht hn hk;have g2:=Ez Kt Ks Z C hu hn hk;have b1:=ht.lb.pln.tb;have b2:=hu.lb.pln.tb;have e1:(t.lf.pln.tm.ps).map pv=t.lf.pln.ps:=congrArg Lf.ps (DZ t.lf.pln);have e2:(u.lf.pln.tm.ps).map pv=u.lf.pln.ps:=congrArg Lf.ps (DZ u.lf.pln);have k1:zv t.lf.pln.tm.k=t.lf.pln.k:=congrArg Lf.k (DZ t.lf.pln);have k2:zv u.lf.pln.tm.k=u.lf.pln.k:=congrArg Lf.k (DZ u.lf.pln);have g3:=ZE Ks Z Kl (a:=t.lf.pln.tm.ps) (b:=u.lf.pln.tm.ps) (Aqm b1.len hn) (Aqm b2.len hn) (λp hp=>(b1.ps p hp).mono (by omega)) (λp hp=>(b2.ps p hp).mono (by omega));have g4:=Z.cmp t.lf.pln.tm.k u.lf.pln.tm.k (b1.k.mono (by omega)) (b2.k.mono (by omega));rw[e1,e2]at g3;rw[k1,k2]at g4;unfold Xv;revert g1 g2 g3 g4;generalize t.lf.pln.tm=x;generalize u.lf.pln.tm=y;intro g1 g2 g3 g4;obtain⟨tp,tz⟩:=t;obtain⟨up,uz⟩:=u;obtain⟨xp,xn,xa⟩:=x;obtain⟨yp,yn,ya⟩:=y;refine Kl.fn' Ahc _ rfl ((Aom ..).trans ?_);refine Ab g1 ?_;simp only[eT,eN,ND,Aa];refine Ab g2 ?_;simp only[eT,eN,ND,Aa];refine Ab g3 ?_;simp only[ND,Aa];refine Ab g4 ?_;simp only[ND,Aa];refine Ab (Vj Kl _ _)?_;rfl
theorem Vq{n k:Nat}{t u:Tm}(ht:TmB n k t)(hu:TmB n k u)(hn:n<=1000000)(hk:k+n<=900000000)(e f:Bool):D.ask (.fn 254) [.agg (eT t++[bv e]),.agg (eT u++[bv f])] []=some (bv (decide (QU t.lf.pln u.lf.pln e f=0)),[]):=by
 have g1:=AdL Kt Ks Z C Kl ht hu hn hk;have gr:∀(t:Tm) (e:Bool),D.ask (.fn 279) [.agg (eT t++[bv e])] []=some (iv (WK e),[]):=by
  rintro⟨p,z⟩ e;refine Kl.fn' Ahd _ rfl ((Aon ..).trans ?_)
  cases e<;>rfl
 have g2:D.ask (.fn 270) [.agg (eT t++[bv e]),.agg (eT u++[bv f])] []=some (iv (QU t.lf.pln u.lf.pln e f),[]):=by
  unfold QU;revert g1;generalize Xv t.lf.pln u.lf.pln=c;intro g1;have r1:=gr t e;have r2:=gr u f;obtain⟨tp,tz⟩:=t;obtain⟨up,uz⟩:=u;refine Kl.fn' Aha _ rfl ((Aoi ..).trans ?_);refine Ab g1 ?_;simp only[ND,Aa];refine Ab r1 ?_;simp only[ND,Aa];refine Ab r2 ?_;simp only[ND,Aa];refine Ab (QV Ks _ _)?_;simp only[ND,Aa];refine Ab (Vj Kl _ _)?_;rfl
 revert g2;generalize QU t.lf.pln u.lf.pln e f=c;intro g2;obtain⟨tp,tz⟩:=t;obtain⟨up,uz⟩:=u;refine Kl.fn' Ag8 _ rfl ((Aod ..).trans ?_);refine Ab g2 ?_;simp only[ND,Aa]
 by_cases h:c=0
 .refine AF h ?_
  rw[decide_eq_true h]
 .refine eqF_go h ?_
  rw[decide_eq_false h]
end
theorem FB.kids{n k:Nat}{x:Fm}(h:FB n k x):x.kids.length<=1000000/\(∀ y∈x.kids,FB n k y)/\TmB n k x.tm:=by
 cases h with
 |mk ht hl h=>exact⟨hl,h,ht⟩
section
variable {D:Orc} (Kt:Knows Al I7 D) (Ks:Knows Al Fk D) (Z:ZF D) (C:PartF D) (Ko:Knows Al Mr D) (Kl:Knows Al TK D)
include Kl
theorem AdW{ks js:List Fm}(hl:ks.length=js.length)(hs:ks.length<=1000000)(g:∀ x∈ks,∀ y∈js,D.ask (.fn 233) [.agg (eF x),.agg (eF y)] []=some (bv (VY x y),[])):∀(m i:Nat),ks.length-i=m->i<=ks.length->D.ask (.lp 255 0) [.ls (js.map eF),.fn (.func 233) [] [],.ls (ks.map eF),iv (ks.length:Int),iv (i:Int)] []=some (if IS (ks.drop i) (js.drop i) then .tup [iv 0] else .tup [bv true,bv false],[]):=by
 intro m
 induction m with
 |zero=>
  intro i hm hi;rw[ApL (by omega),IS];refine Kl.lp' SF _ rfl (by kernel_rfl) ((Aah ..).trans ?_);exact ltF_go (by omega)rfl
 |succ m ih=>
  intro i hm hi;have h1:i<ks.length:=by omega
  have h2:i<js.length:=by omega
  have ih:=ih (i+1) (by omega) (by omega);have gx:=g ks[i] (ApQ h1) js[i] (ApQ h2);rw[ApE h1,ApE h2,La];refine Kl.lp' SF _ rfl (by kernel_rfl) ((Aah ..).trans ?_);refine Ao (by omega)?_;rw[AG,AD (Apy h1)];revert gx;generalize ks[i]=x;intro gx;obtain⟨xk,xt,xe,xs⟩:=x;simp only[eF,eN,ND,Aa]at gx ⊢;rw[AG,AD (Apy h2)];revert gx;generalize js[i]=y;intro gx;obtain⟨yk,yt,ye,ys⟩:=y;simp only[eF,eN,ND,Aa]at gx ⊢;refine Ab gx ?_;simp only[ND,Aa]
  cases VY (.mk xk xt xe xs) (.mk yk yt ye ys) with
  |false=>exact brF_go rfl
  |true=>
   refine Ag ?_;rw[Bh (by omega)];refine Ab ih ?_;rw[ApZ]
   cases IS (ks.drop (i+1)) (js.drop (i+1))<;>rfl
theorem AdX{ks js:List Fm}(hs:ks.length<=1000000)(ht:js.length<=1000000)(g:∀ x∈ks,∀ y∈js,D.ask (.fn 233) [.agg (eF x),.agg (eF y)] []=some (bv (VY x y),[])):D.ask (.fn 255) [.ls (ks.map eF),.ls (js.map eF),.fn (.func 233) [] []] []=some (bv (decide (ks.length=js.length)&&IS ks js),[]):=by
 refine Kl.fn' SF _ rfl ((Aoe ..).trans ?_);rw[Av,Av]
 by_cases hl:ks.length=js.length
 .refine AF (by omega)?_
  have gl:=AdW Kl hl hs g _ 0 rfl (by omega);rw[ApD,ApD]at gl;refine Ab gl ?_;rw[decide_eq_true hl,ApZ]
  cases IS ks js<;>rfl
 .refine eqF_go (by omega)?_
  rw[decide_eq_false hl,Bool.false_and]
include Kt Ks Z C Ko
theorem AaB{n k:Nat}(hn:n<=1000000)(hk:k+n<=900000000):∀(N:Nat) (x y:Fm),SizeOf.sizeOf x<N->FB n k x->FB n k y->CanF x->CanF y->D.ask (.fn 233) [.agg (eF x),.agg (eF y)] []=some (bv (VY x y),[]):=by
 intro N
 induction N with
 |zero=>intro x y h;omega
 |succ N ih=>
  intro x y hN fx fy cx cy;have g1:=Hq Kt Ks Z C Ko hn hk _ x (Aqp _) fx;have g2:=Hq Kt Ks Z C Ko hn hk _ y (Aqp _) fy;rw[cx.clone]at g1;rw[cy.clone]at g2;have bx:=fx.kids;have bY:=fy.kids;have kx:=cx.kids;have ky:=cy.kids;obtain⟨xk,xt,xe,xs⟩:=x;obtain⟨yk,yt,ye,ys⟩:=y;simp only[Fm.kids,Fm.tm]at bx bY kx ky;have g3:=Vq Kt Ks Z C Kl bx.2.2 bY.2.2 hn hk xe ye;have g4:=AdX Kl bx.1 bY.1 λa ha b hb=>ih a b (by have:=Hy (k:=xk) (t:=xt) (e:=xe) ha;omega) (bx.2.1 a ha) (bY.2.1 b hb) (kx a ha) (ky b hb)
  rw[UF];simp only[eF,eN,C8]at g1 g2 ⊢;refine Kl.fn' Ag5 _ rfl ((An8 ..).trans ?_);refine Ab g1 ?_;simp only[ND,Aa];refine Ab g2 ?_;simp only[ND,Aa]
  by_cases h1:xk=yk
  .refine AF h1 ?_
   rw[decide_eq_true h1,ApZ]
   by_cases h2:xk=2
   .refine AF h2 ?_
    refine Ab g3 ?_;simp only[ND,Aa];rw[decide_eq_true h2,Bool.not_true,Bool.false_or]
    cases decide (QU xt.lf.pln yt.lf.pln xe ye=0) with
    |false=>exact brF_go rfl
    |true=>
     refine Ag ?_;refine Ab g4 ?_;simp only[ND,Aa];rw[ApZ]
     cases (decide (xs.length=ys.length)&&IS xs ys)<;>rfl
   .refine eqF_go h2 ?_
    refine Ab g4 ?_;simp only[ND,Aa];rw[decide_eq_false h2,AsL,Bool.true_or,ApZ]
    cases (decide (xs.length=ys.length)&&IS xs ys)<;>rfl
  .refine eqF_go h1 ?_
   rw[decide_eq_false h1];simp
end
def Tr.kind:Tr->Int
 |.mk k _ _ _ _ _ _=>k
def Tr.kids:Tr->List Tr
 |.mk _ _ _ _ _ _ ks=>ks
def FZ:Tr->Bool
 |.mk _ l r op p q _=>decide (l.length=0)&&decide (r.length=0)&&decide (op=0)&&decide (p=AI [])&&decide (q=AI [])
def Nr:Tr->Bool
 |.mk k l r op p q ks=>decide (k=2)&&Pc l&&Pc r&&decide (0<=op)&&decide (op<=5)&&decide (p=AI [])&&decide (q=AI [])&&decide (ks.length=0)
def arI(k:Int):Int:=if k=0 then 0 else if k=1 then 0 else if k=3 then 1 else if k=4 then 2 else if k=5 then 2 else -1
def brk(p:Int)(i:Nat)(k:Int):Bool:=if p=3 then decide (k=4)||decide (k=5) else if p=4 then decide (k=5)||(decide (i=1)&&decide (k=4)) else if p=5 then decide (i=1)&&decide (k=5) else false
def IV(b:Bool)(d:Nat):Nat:=if b then d+1 else d
mutual
def BW:Tr->Nat->Bool
 |.mk k l r op p q ks,d=>if k=2 then Nr (.mk k l r op p q ks) else FZ (.mk k l r op p q ks)&&decide ((ks.length:Int)=arI k)&&decide (IV (decide (k=3)) d<=60)&&FG k (IV (decide (k=3)) d) 0 ks
def FG(k:Int)(d:Nat):Nat->List Tr->Bool
 |_,[]=>true
 |i,x::r=>(decide (IV (brk k i x.kind) d<=60)&&BW x (IV (brk k i x.kind) d))&&FG k d (i+1) r
end
inductive WzT:Tr->Prop where
 |mk {k:Int} {l r:List Mo} {op:Int} {p q:ByteArray} {ks:List Tr} (hl:l.length<4611686018427387904) (hr:r.length<4611686018427387904) (hk:ks.length<4611686018427387904)
  (zl:∀ m∈l,m.num.size<=9223372036854775807/\m.var.size<=9223372036854775807) (zr:∀ m∈r,m.num.size<=9223372036854775807/\m.var.size<=9223372036854775807) (h:∀ x∈ks,WzT x):WzT (.mk k l r op p q ks)
def J9(m:Mo):Int:=if m.num=AI [] then 1 else zv (Gj m.num).1
def Hh(m:Mo):Int:=if m.neg then -J9 m else J9 m
section
variable (vars:List ByteArray)
def D6:List Mo->Lf->Option Lf
 |[],out=>some out
 |m::r,out=>if m.var=AI [] then D6 r ⟨out.ps,out.k+Hh m⟩ else match vars.findIdx? (m.var = ·) with
  |none=>none
  |some v=>D6 r ⟨out.ps++[((v:Int),Hh m)],out.k⟩
def EH(ms:List Mo):Lf × Bool:=if Pc ms then(match D6 vars ms OX with
 |some l=>(l.pln,true)
 |none=>(OX,false)) else(OX,false)
mutual
def Cy:Tr->Fm × Bool
 |.mk k l r op _ _ ks=>if k=2 then(O5 op (EH vars l).1 (EH vars r).1,(EH vars l).2&&(EH vars r).2) else match B9 ks with
  |none=>(kF 0 [],false)
  |some fs=>(if k=0 then MN true else if k=3\/k=4\/k=5 then kF k fs else MN false,true)
def B9:List Tr->Option (List Fm)
 |[]=>some []
 |x::r=>if(Cy x).2 then(match B9 r with
  |none=>none
  |some fs=>some ((Cy x).1::fs)) else none
end
def Dj(f:Int->Int):List Mo->Int
 |[]=>0
 |m::r=>(if m.var=AI [] then Hh m else match vars.findIdx? (m.var = ·) with
  |none=>0
  |some v=>Hh m*f v)+Dj f r
mutual
def DO(f:Int->Int):Tr->Bool
 |.mk k l r op _ _ ks=>if k=0 then true else if k=2 then VS op (Dj vars f l) (Dj vars f r) else if k=3 then MY f ks else if k=4 then GK f ks else if k=5 then GL f ks else false
def MY(f:Int->Int):List Tr->Bool
 |[]=>false
 |x::_=>!DO f x
def GK(f:Int->Int):List Tr->Bool
 |[]=>true
 |x::r=>DO f x&&GK f r
def GL(f:Int->Int):List Tr->Bool
 |[]=>false
 |x::r=>DO f x||GL f r
end
theorem LM(f:Int->Int):∀(ms:List Mo) (out l:Lf),D6 vars ms out=some l->l.val f=out.val f+Dj vars f ms
 |[],out,l,h=>by
  rw[D6]at h
  cases h
  rw[Dj];omega
 |m::r,out,l,h=>by
  rw[D6]at h;rw[Dj];split at h
  .rename_i hv
   rw[if_pos hv,LM f r _ l h];unfold Lf.val;simp only;omega
  .rename_i hv
   rw[if_neg hv];split at h
   .cases h
   .rename_i v e
    rw[LM f r _ l h];unfold Lf.val;simp only[OE,DX];omega
theorem Qn{f:Int->Int}(hf:∀ v,v<0->f v=0){ms:List Mo}(h:(EH vars ms).2=true):(EH vars ms).1.val f=Dj vars f ms:=by
 unfold EH at h ⊢;split at h
 .rename_i h1
  split at h
  .rename_i l e
   rw[if_pos h1]
   show l.pln.val f=_
   rw[RL hf,LM vars f ms _ l e]
   show (0:Int)+0+Dj vars f ms=Dj vars f ms
   omega
  .cases h
 .cases h
mutual
theorem NJ{f:Int->Int}(hf:∀ v,v<0->f v=0):∀ t:Tr,(Cy vars t).2=true->Ds f (Cy vars t).1=DO vars f t
 |.mk k l r op p q ks,h=>by
  rw[Cy]at h ⊢;rw[DO]
  by_cases h2:k=2
  .rw[if_pos h2]at h ⊢
   rw[if_neg (show ¬ k=0 by omega),if_pos h2];simp only[Bool.and_eq_true]at h;simp only;rw[XR hf,Qn vars hf h.1,Qn vars hf h.2]
  .rw[if_neg h2]at h ⊢
   cases e:B9 vars ks with
   |none=>rw[e]at h;cases h
   |some fs=>
    obtain⟨g1,g2,g3⟩:=L6 hf ks fs e;simp only
    by_cases h0:k=0
    .rw[if_pos h0,if_pos h0,Lh]
    rw[if_neg h0,if_neg h0,if_neg h2]
    by_cases h3:k=3
    .rw[if_pos (.inl h3),if_pos h3,h3,←g1]
     rfl
    rw[if_neg h3]
    by_cases h4:k=4
    .rw[if_pos (.inr (.inl h4)),if_pos h4,h4,←g2]
     rfl
    rw[if_neg h4]
    by_cases h5:k=5
    .rw[if_pos (.inr (.inr h5)),if_pos h5,h5,←g3]
     rfl
    rw[if_neg h5,if_neg (by omega),Lh]
theorem L6{f:Int->Int}(hf:∀ v,v<0->f v=0):∀(ks:List Tr) (fs:List Fm),B9 vars ks=some fs->NS f fs=MY vars f ks/\GI f fs=GK vars f ks/\GJ f fs=GL vars f ks
 |[],fs,h=>by
  rw[B9]at h
  cases h
  exact⟨rfl,rfl,rfl⟩
 |x::r,fs,h=>by
  rw[B9]at h;split at h
  .rename_i hx
   have g:=NJ hf x hx;split at h
   .cases h
   .rename_i gs e
    obtain⟨g1,g2,g3⟩:=L6 hf r gs e
    cases h
    refine⟨?_,?_,?_⟩
    .rw[NS,MY,g]
    .rw[GI,GK,g,g2]
    .rw[GJ,GL,g,g3]
  .cases h
end
end
end Go.Proofs.YtlmhajfbpplpoaaGreat
