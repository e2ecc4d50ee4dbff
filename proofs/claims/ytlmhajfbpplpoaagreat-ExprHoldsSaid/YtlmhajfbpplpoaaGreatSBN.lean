/- Summands in order, those of one variable taken tog -/
import Derived.Test.YtlmhajfbpplpoaaGreatSBM
import Derived.Test.YtlmhajfbpplpoaaGreatSBB
set_option linter.unusedSectionVars false
set_option linter.unusedSimpArgs false
set_option linter.unusedVariables false
namespace Go.Proofs.YtlmhajfbpplpoaaGreat
open Go.RowKit
def FJ:List (Int × Int)->Int × Int->List (Int × Int)
 |[],p=>if p.1<0 then [] else [p]
 |q::r,p=>if p.1<0 then q::r else if q.1=p.1 then(q.1,q.2+p.2)::r else p::q::r
theorem FT(p:Int × Int):FJ [] p=if p.1<0 then [] else [p]:=rfl
theorem EP(q:Int × Int)(r:List (Int × Int))(p:Int × Int):FJ (q::r) p=if p.1<0 then q::r else if q.1=p.1 then(q.1,q.2+p.2)::r else p::q::r:=rfl
structure GrpI (s t:List (Int × Int)):Prop where
 desc:s.Pairwise fun a b=>b.1<a.1
 pos:∀ q∈s,0<=q.1
 up:∀ q∈s,∀ p∈t,0<=p.1->q.1<=p.1
theorem Wp(v:Int)(hv:0<=v):∀(s:List (Int × Int)) (p:Int × Int),A6 v (FJ s p)=A6 v s+(if p.1=v then p.2 else 0)
 |[],p=>by
  rw[FT]
  split
  .rw[if_neg (by omega)];simp[A6]
  .simp[A6]
 |q::r,p=>by
  rw[EP]
  split
  .rw[if_neg (by omega)];omega
  .split
   .rename_i h
    rw[A6,A6]
    simp only[h]
    split<;>omega
   .rw[A6]
    omega
theorem YY{s t:List (Int × Int)}{p:Int × Int}(h:GrpI s (p::t))(ht:∀ x∈t,p.1<=x.1):GrpI (FJ s p) t:=by
 have ut:∀ q∈s,∀ x∈t,0<=x.1->q.1<=x.1:=fun q hq x hx=>h.up q hq x (List.mem_cons_of_mem _ hx)
 cases s with
 |nil=>
  rw[FT]
  split
  .exact⟨.nil,by simp,by simp⟩
  .exact⟨List.pairwise_singleton _ _,by simp;omega,fun q hq x hx _=>by rw[List.mem_singleton.1 hq];exact ht x hx⟩
 |cons q r=>
  have hd:=List.pairwise_cons.1 h.desc
  rw[EP]
  split
  .exact⟨h.desc,h.pos,ut⟩
  .rename_i hp
   split
   .refine⟨List.pairwise_cons.2 ⟨fun x hx=>hd.1 x hx,hd.2⟩,fun x hx=>?_,fun x hx y hy hy0=>?_⟩
    .rcases List.mem_cons.1 hx with rfl|hx
     .exact h.pos q (List.mem_cons_self ..)
     .exact h.pos x (List.mem_cons_of_mem _ hx)
    .rcases List.mem_cons.1 hx with rfl|hx
     .exact ut q (List.mem_cons_self ..) y hy hy0
     .exact ut x (List.mem_cons_of_mem _ hx) y hy hy0
   .rename_i hne
    have hq:=h.up q (List.mem_cons_self ..) p (List.mem_cons_self ..) (by omega)
    refine⟨List.pairwise_cons.2 ⟨fun x hx=>?_,h.desc⟩,fun x hx=>?_,fun x hx y hy hy0=>?_⟩
    .rcases List.mem_cons.1 hx with rfl|hx
     .omega
     .have:=hd.1 x hx;omega
    .rcases List.mem_cons.1 hx with rfl|hx
     .omega
     .exact h.pos x hx
    .rcases List.mem_cons.1 hx with rfl|hx
     .exact ht y hy
     .exact ut x hx y hy hy0
theorem UT:∀(t s:List (Int × Int)),t.Pairwise (fun a b=>a.1<=b.1)->GrpI s t->GrpI (t.foldl FJ s) []/\∀ v,0<=v->A6 v (t.foldl FJ s)=A6 v s+A6 v t
 |[],s,_,h=>⟨h,fun v _=>by simp[A6]⟩
 |p::t,s,ht,h=>by
  have hp:=List.pairwise_cons.1 ht
  obtain⟨g1,g2⟩:=UT t (FJ s p) hp.2 (YY h hp.1)
  refine⟨g1,fun v hv=>?_⟩
  rw[List.foldl_cons,g2 v hv,Wp v hv,A6]
  omega
theorem Ri(v:Int):∀ l:List (Int × Int),A6 v (l.filter fun p=>!decide (p.2=0))=A6 v l
 |[]=>rfl
 |p::r=>by
  have ih:=Ri v r
  by_cases h:p.2=0
  .rw[List.filter_cons_of_neg (by simp[h]),ih,A6,h]
   simp
  .rw[List.filter_cons_of_pos (by simp[h]),A6,A6,ih]
theorem AbP{t l:List (Int × Int)}(ht:t.Pairwise fun a b=>a.1<=b.1)(hp:t.Perm l):((t.foldl FJ []).reverse).filter (fun p=>!decide (p.2=0))=DA l:=by
 obtain⟨g1,g2⟩:=UT t [] ht ⟨.nil,by simp,by simp⟩
 refine Ss ⟨?_,fun p h=>?_,fun p h=>?_⟩ fun v hv=>?_
 .refine List.Pairwise.filter _ ?_
  rw[List.pairwise_reverse]
  exact g1.desc
 .have:=(List.mem_filter.1 h).1
  exact g1.pos p (List.mem_reverse.1 this)
 .simpa using (List.mem_filter.1 h).2
 .rw[Ri,MN (List.reverse_perm _),g2 v hv,MN hp]
  simp[A6]
theorem Rx{k:Nat}{s:List (Int × Int)}{p:Int × Int}(hs:∀ q∈s,InB k q.2)(hp:InB k p.2):∀ q∈FJ s p,InB (k+1) q.2:=by
 cases s with
 |nil=>
  rw[FT]
  split
  .simp
  .intro q hq
   rw[List.mem_singleton.1 hq]
   exact hp.mono (by omega)
 |cons q r=>
  rw[EP]
  have hq:=hs q (List.mem_cons_self ..)
  have hr:∀ x∈r,InB (k+1) x.2:=fun x hx=>(hs x (List.mem_cons_of_mem _ hx)).mono (by omega)
  split
  .intro x hx
   rcases List.mem_cons.1 hx with rfl|hx
   .exact hq.mono (by omega)
   .exact hr x hx
  .split
   .intro x hx
    rcases List.mem_cons.1 hx with rfl|hx
    .exact InB.add hq hp
    .exact hr x hx
   .intro x hx
    rcases List.mem_cons.1 hx with rfl|hx
    .exact hp.mono (by omega)
    .rcases List.mem_cons.1 hx with rfl|hx
     .exact hq.mono (by omega)
     .exact hr x hx
theorem Ry(s:List (Int × Int))(p:Int × Int):(FJ s p).length<=s.length+1:=by
 cases s with
 |nil=>rw[FT];split<;>simp
 |cons q r=>
  rw[EP]
  split
  .simp
  .split<;>simp
structure ZF (D:Orc):Prop where
 frm:∀ z:Zi,Lz 1000000000 z->D.ask (.fn 145) [bv z.neg,eN z.abs] []=some (.agg (eZ (AS (zv z))),[])
 neg:∀ z:Zi,Lz 1000000000 z->D.ask (.fn 86) [.agg (eZ z)] []=some (.agg (eZ (AS (-zv z))),[])
 sign:∀ z:Zi,Lz 1000000000 z->D.ask (.fn 158) [.agg (eZ z)] []=some (iv (CD (zv z)),[])
 of_:∀ n:Int,-9223372036854775808<=n->n<9223372036854775808->D.ask (.fn 84) [iv n] []=some (.agg (eZ (AS n)),[])
 cmp:∀ a b:Zi,Lz 1000000000 a->Lz 1000000000 b->D.ask (.fn 285) [.agg (eZ a),.agg (eZ b)] []=some (iv (IZ (zv a) (zv b)),[])
 add:∀ a b:Zi,Lz 900000000 a->Lz 900000000 b->D.ask (.fn 87) [.agg (eZ a),.agg (eZ b)] []=some (.agg (eZ (AS (zv a+zv b))),[])
 mul:∀ a b:Zi,Lz 400000000 a->Lz 400000000 b->a.abs.length<24\/b.abs.length<24->D.ask (.fn 264) [.agg (eZ a),.agg (eZ b)] []=some (.agg (eZ (AS (zv a*zv b))),[])
 parse:∀ s:ByteArray,D.ask (.fn 85) [sv s] []=some (.tup [.agg (eZ (Fi s).1),iv (Fi s).2],[])
theorem Ak1{D:Orc}(K:Knows As J6 D)(Z:Knows As PC D)(C:CloneF D):ZF D where
 frm z h:=by
  have:=Fk K Z C z.neg h.lim (by unfold CB;exact h.len)
  exact this
 neg z h:=Ads K Z C h
 sign z h:=Ob K Z C h
 of_ n h1 h2:=AhD K Z C n h1 h2
 cmp a b ha hb:=Adq K Z C ha hb
 add a b ha hb:=Adp K Z C (Nat.le_refl _) ha hb
 mul a b ha hb h:=Adr K Z C (Nat.le_refl _) (Nat.le_refl _) ha hb h
 parse s:=XF K Z C s
theorem Vs(s:ByteArray):Lz 4000 (Fi s).1:=by
 unfold Fi
 split
 .rename_i h
  have h1:=E4 (FF s).1
  have h2:=Hs (FF s).1
  have:Lz 4000 ⟨(FF s).2,(GE (FF s).1).1⟩:=⟨h1,h2⟩
  exact this.inb.lz
 .exact⟨Cc,by simp⟩
theorem Srt.same{l r:List Pt}{a b p q:Nat}(h:Srt Pt.v l p q)(hs:Same0 l r a b)(hd:q<=a\/b<=p):Srt Pt.v r p q:=by
 intro x y h1 h2 h3
 rw[hs.kf Pt.v (by omega),hs.kf Pt.v (by omega)]
 exact h x y h1 h2 h3
def S6(q t:Nat)(l:List Pt):Prop:=∀ p,q ∣ p->p+q<=t->Srt Pt.v l p (p+q)
theorem AhQ{a:Nat}(h:a<4611686018427387000):Ao.add .i64 (a:Int) 20=((a+20:Nat):Int):=by
 rw[GW (by omega) (by omega)]
 rfl
section
variable {D:Orc} (K:Knows As Fz D)
include K
theorem Ahr:∀(m a:Nat) (l:List Pt),l.length-a=m->a<=l.length->l.length<=1000000000->20 ∣ a->S6 20 a l->
  ∃(r:List Pt) (c:Nat),D.ask (.lp 206 0) [.sl 0 0 l.length 3,iv (l.length:Int),Fq,iv 20,iv (a:Int),iv ((a+20:Nat):Int)] [ABlk.mk (Av eP l) true true]
   = some (.tup [iv 0,.sl 0 0 l.length 3,iv (l.length:Int),Fq,iv 20,iv (c:Int)],[.set (ABlk.mk (Av eP r) true true)])
   ∧ r.length=l.length/\r.Perm l/\c<=l.length/\l.length<c+20/\20 ∣ c/\S6 20 c r:=by
 intro m
 induction m using Nat.strongRecOn with
 |_ m ih=>
  intro a l hm ha hl hd hb
  by_cases h:a+20<=l.length
  .obtain⟨r,g,hr,hp,ho,hsm⟩:=Za K (a:=a) (b:=a+20) (l:=l) (by omega) h hl
   have hb2:S6 20 (a+20) r:=fun p h1 h2=>by
    by_cases hpa:p=a
    .subst hpa
     exact ho
    .exact(hb p h1 (by omega)).same hsm (.inl (by omega))
   obtain⟨r2,c,g2,hr2,hp2,h3,h4,h5,h6⟩:=ih (r.length-(a+20)) (by omega) (a+20) r rfl (by omega) (by omega) (by omega) hb2
   rw[hr]at g2 h3 h4
   refine⟨r2,c,?_,by omega,hp2.trans hp,h3,h4,h5,h6⟩
   refine K.lp' GT _ rfl (by kernel_rfl) ((Yv ..).trans ?_)
   refine(CN (by omega)).trans ?_
   refine(Aa g _).trans ?_
   simp only[Fq,ND,Ab]
   rw[AhQ (by omega)]
   refine(Aa g2 _).trans ?_
   rfl
  .refine⟨l,a,?_,rfl,List.Perm.refl _,ha,by omega,hd,hb⟩
   refine K.lp' GT _ rfl (by kernel_rfl) ((Yv ..).trans ?_)
   exact(C4 (by omega)).trans rfl
omit K in
def Ms(D:Orc):Prop:=∀(l:List Pt) (a m b:Nat),a<m->m<b->b<=l.length->l.length<=1000000000->Srt Pt.v l a m->Srt Pt.v l m b->
 ∃ r:List Pt,D.ask (.fn 243) [.sl 0 0 l.length 3,iv (a:Int),iv (m:Int),iv (b:Int),Fq] [ABlk.mk (Av eP l) true true]=some (.tup [],[.set (ABlk.mk (Av eP r) true true)])
  ∧ r.length=l.length/\r.Perm l/\Srt Pt.v r a b/\Same0 l r a b
def TlS(q a:Nat)(l:List Pt):Prop:=∀ j,Srt Pt.v l (a+j*q) (min (a+(j+1)*q) l.length)
theorem Aht(M:Ms D)(q:Nat)(hq:0<q)(hq2:q<=1000000000):∀(m a:Nat) (l:List Pt),l.length-a=m->a<=l.length->l.length<=1000000000->2*q ∣ a->S6 (2*q) a l->TlS q a l->
  ∃(r:List Pt) (c:Nat),D.ask (.lp 206 2) [.sl 0 0 l.length 3,iv (l.length:Int),Fq,iv (q:Int),iv (a:Int),iv ((a+2*q:Nat):Int)] [ABlk.mk (Av eP l) true true]
   = some (.tup [iv 4,.sl 0 0 l.length 3,iv (l.length:Int),Fq,iv (q:Int),iv (c:Int)],[.set (ABlk.mk (Av eP r) true true)])
   ∧ r.length=l.length/\r.Perm l/\c<=l.length/\l.length<c+2*q/\2*q ∣ c/\S6 (2*q) c r/\TlS q c r:=by
 intro m
 induction m using Nat.strongRecOn with
 |_ m ih=>
  intro a l hm ha hl hd hb ht
  by_cases h:a+2*q<=l.length
  .have t0:=ht 0
   have t1:=ht 1
   rw[Nat.zero_mul,Nat.add_zero,Nat.zero_add,Nat.one_mul,Nat.min_eq_left (by omega)]at t0
   rw[Nat.one_mul,show (1+1)*q=2*q from rfl,Nat.min_eq_left h]at t1
   obtain⟨r,g,hr,hp,ho,hsm⟩:=M l a (a+q) (a+2*q) (by omega) (by omega) h hl t0 t1
   have hb2:S6 (2*q) (a+2*q) r:=fun p h1 h2=>by
    by_cases hpa:p=a
    .subst hpa
     exact ho
    .have:=Nat.le_of_dvd (by omega) (Nat.dvd_sub hd h1)
     exact(hb p h1 (by omega)).same hsm (.inl (by omega))
   have ht2:TlS q (a+2*q) r:=fun j=>by
    have:=ht (j+2)
    rw[show a+(j+2)*q=a+2*q+j*q by rw[Nat.add_mul];omega,show a+(j+2+1)*q=a+2*q+(j+1)*q by rw[Nat.add_mul,Nat.add_mul,Nat.add_mul];omega]at this
    rw[hr]
    exact this.same hsm (.inr (by omega))
   obtain⟨r2,c,g2,hr2,hp2,h3,h4,h5,h6,h7⟩:=ih (r.length-(a+2*q)) (by omega) (a+2*q) r rfl (by omega) (by omega) (Nat.dvd_add hd (Nat.dvd_refl _)) hb2 ht2
   rw[hr]at g2 h3 h4
   refine⟨r2,c,?_,by omega,hp2.trans hp,h3,h4,h5,h6,h7⟩
   refine K.lp' GT _ rfl (by kernel_rfl) ((Yw ..).trans ?_)
   refine(CN (by omega)).trans ?_
   rw[show Ao.add .i64 (a:Int) (q:Int)=((a+q:Nat):Int) by rw[GW (by omega) (by omega)];omega,
    show Ao.mul .i64 2 (q:Int)=((2*q:Nat):Int) by
     show IntKind.i64.wrap (2*(q:Int))=_
     rw[IntKind.wrap_i64]
     omega,
    show Ao.add .i64 ((a+2*q:Nat):Int) ((2*q:Nat):Int)=((a+2*q+2*q:Nat):Int) by rw[GW (by omega) (by omega)];omega]
   refine(Aa g _).trans ?_
   simp only[Fq,ND,Ab]
   refine(Aa g2 _).trans ?_
   rfl
  .refine⟨l,a,?_,rfl,List.Perm.refl _,ha,by omega,hd,hb,ht⟩
   refine K.lp' GT _ rfl (by kernel_rfl) ((Yw ..).trans ?_)
   exact(C4 (by omega)).trans rfl
omit K in
theorem Uw{q c:Nat}{r:List Pt}(hq:0<q)(hd:q ∣ c)(hn:r.length<c+q)(hb:S6 q c r)(hs:Srt Pt.v r c r.length):TlS q 0 r:=fun j=>by
 rw[Nat.zero_add,Nat.zero_add]
 have e:(j+1)*q=j*q+q:=by rw[Nat.add_mul];omega
 by_cases h1:j*q+q<=c
 .have:=hb (j*q) (Nat.dvd_mul_left q j) h1
  intro x y hx hxy hy
  exact this x y hx hxy (by omega)
 .by_cases h2:j*q=c
  .intro x y hx hxy hy
   exact hs x y (by omega) hxy (by omega)
  .intro x y hx hxy hy
   exfalso
   by_cases h3:j*q<c
   .have:=Nat.le_of_dvd (by omega) (Nat.dvd_sub hd (Nat.dvd_mul_left q j))
    omega
   .have:=Nat.le_of_dvd (by omega) (Nat.dvd_sub (Nat.dvd_mul_left q j) hd)
    omega
theorem Ahs(M:Ms D):∀(m q:Nat) (l:List Pt),l.length-q=m->0<q->q<=2000000000->l.length<=1000000000->TlS q 0 l->
  ∃ r:List Pt,D.ask (.lp 206 1) [.sl 0 0 l.length 3,iv (l.length:Int),Fq,iv (q:Int)] [ABlk.mk (Av eP l) true true]
   = some (.tup [iv 2,.sl 0 0 l.length 3],[.set (ABlk.mk (Av eP r) true true)])
   ∧ r.length=l.length/\r.Perm l/\Srt Pt.v r 0 r.length:=by
 intro m
 induction m using Nat.strongRecOn with
 |_ m ih=>
  intro q l hm hq hq2 hl ht
  by_cases h:q<l.length
  .obtain⟨r,c,g,hr,hp,hc,hn,hd,hb,ht2⟩:=Aht K M q hq (by omega) _ 0 l rfl (by omega) hl (Nat.dvd_zero _) (fun p _ h2=>by omega) ht
   have t0:=ht2 0
   have t1:=ht2 1
   rw[Nat.zero_mul,Nat.add_zero,Nat.zero_add,Nat.one_mul]at t0
   rw[Nat.one_mul,show (1+1)*q=2*q from rfl,Nat.min_eq_right (by omega)]at t1
   rw[Nat.zero_add]at g
   have emul:Ao.mul .i64 2 (q:Int)=((2*q:Nat):Int):=by
    show IntKind.i64.wrap (2*(q:Int))=_
    rw[IntKind.wrap_i64]
    omega
   have emul2:Ao.mul .i64 (q:Int) 2=((2*q:Nat):Int):=by
    show IntKind.i64.wrap ((q:Int)*2)=_
    rw[IntKind.wrap_i64]
    omega
   have eadd:Ao.add .i64 (c:Int) (q:Int)=((c+q:Nat):Int):=by rw[GW (by omega) (by omega)];omega
   by_cases h2:c+q<l.length
   .rw[Nat.min_eq_left (by omega)]at t0
    obtain⟨r3,g3,hr3,hp3,ho3,hsm⟩:=M r c (c+q) r.length (by omega) (by omega) (Nat.le_refl _) (by omega) t0 t1
    have ht3:TlS (2*q) 0 r3:=Uw (by omega) hd (by omega) (fun p h1 h2=>(hb p h1 h2).same hsm (.inl (by omega))) (by rw[hr3];exact ho3)
    obtain⟨r4,g4,hr4,hp4,ho4⟩:=ih (r3.length-2*q) (by omega) (2*q) r3 rfl (by omega) (by omega) (by omega) ht3
    rw[hr]at g3 hr3
    rw[hr3]at g4 hr4
    refine⟨r4,?_,hr4,hp4.trans (hp3.trans hp),ho4⟩
    refine K.lp' GT _ rfl (by kernel_rfl) ((Tw ..).trans ?_)
    refine(Aq (by omega)).trans ?_
    rw[emul]
    refine(Aa g _).trans ?_
    simp only[Fq,ND,Ab]
    refine(Az _ _).trans ?_
    rw[eadd,emul2]
    refine(Aq (by omega)).trans ?_
    refine(Aa g3 _).trans ?_
    simp only[Fq,ND,Ab]
    refine(Aa g4 _).trans ?_
    rfl
   .rw[Nat.min_eq_right (by omega)]at t0
    have ht3:TlS (2*q) 0 r:=Uw (by omega) hd (by omega) hb t0
    obtain⟨r4,g4,hr4,hp4,ho4⟩:=ih (r.length-2*q) (by omega) (2*q) r rfl (by omega) (by omega) (by omega) ht3
    rw[hr]at g4 hr4
    refine⟨r4,?_,hr4,hp4.trans hp,ho4⟩
    refine K.lp' GT _ rfl (by kernel_rfl) ((Tw ..).trans ?_)
    refine(Aq (by omega)).trans ?_
    rw[emul]
    refine(Aa g _).trans ?_
    simp only[Fq,ND,Ab]
    refine(Az _ _).trans ?_
    rw[eadd,emul2]
    refine(Ap (by omega)).trans ?_
    refine(Aa g4 _).trans ?_
    rfl
  .refine⟨l,?_,rfl,List.Perm.refl _,?_⟩
   .refine K.lp' GT _ rfl (by kernel_rfl) ((Tw ..).trans ?_)
    exact(Ap (by omega)).trans rfl
   .have t0:=ht 0
    rw[Nat.zero_mul,Nat.zero_add,Nat.zero_add,Nat.one_mul,Nat.min_eq_right (by omega)]at t0
    exact t0
theorem Xh(M:Ms D){l:List Pt}(hl:l.length<=1000000000) :
  ∃ r:List Pt,D.ask (.fn 206) [.sl 0 0 l.length 3,iv (l.length:Int),Fq] [ABlk.mk (Av eP l) true true]=some (.tup [],[.set (ABlk.mk (Av eP r) true true)])
   ∧ r.length=l.length/\r.Perm l/\Srt Pt.v r 0 r.length:=by
 obtain⟨r,c,g,hr,hp,hc,hn,hd,hb⟩:=Ahr K _ 0 l rfl (by omega) hl (Nat.dvd_zero _) (fun p _ h2=>by omega)
 obtain⟨r2,g2,hr2,hp2,ho2,hsm⟩:=Za K (a:=c) (b:=r.length) (l:=r) (by omega) (Nat.le_refl _) (by omega)
 have ht:TlS 20 0 r2:=Uw (by omega) hd (by omega) (fun p h1 h2=>(hb p h1 h2).same hsm (.inl (by omega))) (by rw[hr2];exact ho2)
 obtain⟨r3,g3,hr3,hp3,ho3⟩:=Ahs K M _ 20 r2 rfl (by omega) (by omega) (by omega) ht
 rw[hr]at g2 hr2
 rw[hr2]at g3 hr3
 refine⟨r3,?_,hr3,hp3.trans (hp2.trans hp),ho3⟩
 refine K.fn' GT _ rfl ((Al7 ..).trans ?_)
 refine(Aa g _).trans ?_
 simp only[Fq,ND,Ab]
 refine(Aa g2 _).trans ?_
 simp only[Fq,ND,Ab]
 refine(Aa g3 _).trans ?_
 rfl
theorem AcY(M:Ms D){l:List Pt}(hl:l.length<=1000000000) :
  ∃ r:List Pt,D.ask (.fn 152) [.sl 0 0 l.length 3,Fq] [ABlk.mk (Av eP l) true true]=some (.tup [],[.set (ABlk.mk (Av eP r) true true)])
   ∧ r.length=l.length/\r.Perm l/\Srt Pt.v r 0 r.length:=by
 obtain⟨r,g,h⟩:=Xh K M hl
 refine⟨r,?_,h⟩
 refine K.fn' Ad2 _ rfl ((AlI ..).trans ?_)
 refine(Aa g _).trans ?_
 rfl
end
section
variable {α:Type} (key:α->Int)
structure Rot (l r:List α) (a m b:Nat):Prop where
 out:∀ p,p<a\/b<=p->r[p]? = l[p]?
 low:∀ p,a<=p->p<a+(b-m)->r[p]? = l[p+(m-a)]?
 high:∀ p,a+(b-m)<=p->p<b->r[p]? = l[p-(b-m)]?
structure SwR (l r:List α) (a b n:Nat):Prop where
 out:∀ p,p<a\/(a+n<=p/\p<b)\/b+n<=p->r[p]? = l[p]?
 low:∀ p,a<=p->p<a+n->r[p]? = l[p+(b-a)]?
 high:∀ p,b<=p->p<b+n->r[p]? = l[p-(b-a)]?
theorem Cu{l:List α}{i j:Nat}(h:i=j):l[i]? = l[j]?:=by rw[h]
theorem Z5{c d r:List α}{i j m:Nat}(h0:i<=m)(h:j<i)(s:SwR c d (m-i) m j)(t:Rot d r (m-(i-j)) m (m+j)):Rot c r (m-i) m (m+j):=by
 refine⟨fun p hp=>?_,fun p h1 h2=>?_,fun p h1 h2=>?_⟩
 .rw[t.out p (by omega),s.out p (by omega)]
 .rw[t.out p (by omega),s.low p (by omega) (by omega)]
 .by_cases h3:p<m-(i-j)+j
  .rw[t.low p (by omega) (by omega),s.high _ (by omega) (by omega)]
   exact Cu (by omega)
  .rw[t.high p (by omega) (by omega),s.out _ (by omega)]
theorem W3{c d r:List α}{i j m:Nat}(h0:i<=m)(h:i<j)(s:SwR c d (m-i) (m+j-i) i)(t:Rot d r (m-i) m (m+(j-i))):Rot c r (m-i) m (m+j):=by
 refine⟨fun p hp=>?_,fun p h1 h2=>?_,fun p h1 h2=>?_⟩
 .rw[t.out p (by omega),s.out p (by omega)]
 .by_cases h3:p<m-i+(j-i)
  .rw[t.low p (by omega) (by omega),s.out _ (by omega)]
  .rw[t.high p (by omega) (by omega),s.low _ (by omega) (by omega)]
   exact Cu (by omega)
 .rw[t.out p (by omega),s.high p (by omega) (by omega)]
  exact Cu (by omega)
theorem Z7{c r:List α}{i m:Nat}(h0:i<=m)(s:SwR c r (m-i) m i):Rot c r (m-i) m (m+i):=by
 refine⟨fun p hp=>?_,fun p h1 h2=>?_,fun p h1 h2=>?_⟩
 .rw[s.out p (by omega)]
 .rw[s.low p (by omega) (by omega)]
 .rw[s.high p (by omega) (by omega)]
  exact Cu (by omega)
theorem F9{l:List α}{a m b:Nat}(h:a=m\/m=b)(ha:a<=m)(hb:m<=b):Rot l l a m b:=by
 refine⟨fun p hp=>rfl,fun p h1 h2=>Cu (by omega),fun p h1 h2=>Cu (by omega)⟩
theorem Aat{l r:List α}{a b n:Nat}(hab:a+n<b)(hb:b+n<l.length)(s:SwR l r a b n)(hr:r.length=l.length):SwR l (Da r (a+n) (b+n)) a b (n+1):=by
 have ha:a+n<r.length:=by omega
 have hb2:b+n<r.length:=by omega
 have e1:∀ p,(Da r (a+n) (b+n))[p]? = if p=a+n then r[b+n]? else if p=b+n then r[a+n]? else r[p]?:=fun p=>by
  rw[DV ha hb2]
  by_cases h1:p=b+n
  .subst h1
   rw[if_neg (by omega),if_pos rfl,List.getElem?_set_self (by simpa using hb2),List.getElem?_eq_getElem ha]
  .rw[List.getElem?_set_ne (fun e=>h1 e.symm)]
   by_cases h2:p=a+n
   .subst h2
    rw[if_pos rfl,List.getElem?_set_self ha,List.getElem?_eq_getElem hb2]
   .rw[if_neg h2,if_neg h1,List.getElem?_set_ne (fun e=>h2 e.symm)]
 refine⟨fun p hp=>?_,fun p h1 h2=>?_,fun p h1 h2=>?_⟩
 .rw[e1,if_neg (by omega),if_neg (by omega),s.out p (by omega)]
 .rw[e1]
  by_cases h:p=a+n
  .rw[if_pos h,s.out _ (by omega)]
   exact Cu (by omega)
  .rw[if_neg h,if_neg (by omega),s.low p h1 (by omega)]
 .rw[e1]
  by_cases h:p=b+n
  .rw[if_neg (by omega),if_pos h,s.out _ (by omega)]
   exact Cu (by omega)
  .rw[if_neg (by omega),if_neg h,s.high p h1 (by omega)]
theorem Aau(l:List α)(a b:Nat):SwR l l a b 0:=⟨fun _ _=>rfl,fun _ h1 h2=>by omega,fun _ h1 h2=>by omega⟩
theorem Hi{l r:List α}{p q:Nat}(h:r[p]? = l[q]?):kf key r p=kf key l q:=by
 unfold kf
 rw[h]
theorem Rot.kout{l r:List α}{a m b p:Nat}(h:Rot l r a m b)(hp:p<a\/b<=p):kf key r p=kf key l p:=Hi key (h.out p hp)
theorem Rot.klow{l r:List α}{a m b p:Nat}(h:Rot l r a m b)(h1:a<=p)(h2:p<a+(b-m)):kf key r p=kf key l (p+(m-a)):=Hi key (h.low p h1 h2)
theorem Rot.khigh{l r:List α}{a m b p:Nat}(h:Rot l r a m b)(h1:a+(b-m)<=p)(h2:p<b):kf key r p=kf key l (p-(b-m)):=Hi key (h.high p h1 h2)
theorem Sa{l r:List α}{a b i:Nat}(hi:a+1<=i)(hib:i<=b)(hs:Srt key l (a+1) b)(h1:∀ p,a+1<=p->p<i->kf key l p<kf key l a)(h2:∀ p,i<=p->p<b->kf key l a<=kf key l p)(t:Rot l r a (a+1) i):Srt key r a b:=by
 intro p q hp hpq hq
 by_cases q1:q<i-1
 .rw[t.klow key (by omega) (by omega),t.klow key (by omega) (by omega)]
  exact hs _ _ (by omega) (by omega) (by omega)
 .by_cases q2:q=i-1
  .rw[t.klow key (by omega) (by omega),t.khigh key (by omega) (by omega),show q-(i-(a+1))=a by omega]
   have:=h1 (p+(a+1-a)) (by omega) (by omega)
   omega
  .rw[t.kout key (p:=q) (by omega)]
   by_cases p1:p<i-1
   .rw[t.klow key (by omega) (by omega)]
    exact hs _ _ (by omega) (by omega) (by omega)
   .by_cases p2:p=i-1
    .rw[t.khigh key (by omega) (by omega),show p-(i-(a+1))=a by omega]
     exact h2 q (by omega) hq
    .rw[t.kout key (by omega)]
     exact hs _ _ (by omega) (by omega) (by omega)
theorem T5{l r:List α}{a m i:Nat}(hi:a<=i)(him:i<=m)(hs:Srt key l a m)(h1:∀ p,a<=p->p<i->kf key l p<=kf key l m)(h2:∀ p,i<=p->p<m->kf key l m<kf key l p)(t:Rot l r i m (m+1)):Srt key r a (m+1):=by
 intro p q hp hpq hq
 by_cases p1:p<i
 .rw[t.kout key (p:=p) (by omega)]
  by_cases q1:q<i
  .rw[t.kout key (by omega)]
   exact hs _ _ (by omega) (by omega) (by omega)
  .by_cases q2:q=i
   .rw[t.klow key (by omega) (by omega),show q+(m-i)=m by omega]
    exact h1 p hp p1
   .rw[t.khigh key (by omega) (by omega)]
    exact hs _ _ (by omega) (by omega) (by omega)
 .rw[t.khigh key (p:=q) (by omega) (by omega)]
  by_cases p2:p=i
  .rw[t.klow key (by omega) (by omega),show p+(m-i)=m by omega]
   have:=h2 (q-(m+1-m)) (by omega) (by omega)
   omega
  .rw[t.khigh key (by omega) (by omega)]
   exact hs _ _ (by omega) (by omega) (by omega)
def Low(l:List α)(a m b:Nat):Prop:=∀ p q,a<=p->p<m->m<=q->q<b->kf key l p<=kf key l q
theorem AcZ{l:List α}{a m b:Nat}(h1:Srt key l a m)(h2:Srt key l m b)(h3:Low key l a m b):Srt key l a b:=by
 intro p q hp hpq hq
 by_cases c:q<m
 .exact h1 p q hp hpq c
 .by_cases d:p<m
  .exact h3 p q hp d (by omega) hq
  .exact h2 p q (by omega) hpq hq
structure CutAt (l:List α) (a m b mid s e:Nat):Prop where
 asl:a<=s
 sm:s<=m
 me:m<=e
 eb:e<=b
 mid:s+(e-m)=mid
 up:∀ p q,a<=p->p<s->e<=q->q<b->kf key l p<=kf key l q
 dn:∀ p q,m<=p->p<e->s<=q->q<m->kf key l p<=kf key l q
theorem EN{l r:List α}{a m b mid s e:Nat}(c:CutAt key l a m b mid s e)(h1:Srt key l a m)(h2:Srt key l m b)(t:Rot l r s m e) :
  Srt key r a s/\Srt key r s mid/\Srt key r mid e/\Srt key r e b/\Low key r a mid b:=by
 have:=c.asl;have:=c.sm;have:=c.me;have:=c.eb;have:=c.mid
 refine⟨fun p q x y z=>?_,fun p q x y z=>?_,fun p q x y z=>?_,fun p q x y z=>?_,fun p q x y z w=>?_⟩
 .rw[t.kout key (by omega),t.kout key (by omega)]
  exact h1 _ _ (by omega) (by omega) (by omega)
 .rw[t.klow key (by omega) (by omega),t.klow key (by omega) (by omega)]
  exact h2 _ _ (by omega) (by omega) (by omega)
 .rw[t.khigh key (by omega) (by omega),t.khigh key (by omega) (by omega)]
  exact h1 _ _ (by omega) (by omega) (by omega)
 .rw[t.kout key (by omega),t.kout key (by omega)]
  exact h2 _ _ (by omega) (by omega) (by omega)
 .by_cases p1:p<s
  .rw[t.kout key (p:=p) (by omega)]
   by_cases q1:q<e
   .rw[t.khigh key (by omega) (by omega)]
    exact h1 _ _ (by omega) (by omega) (by omega)
   .rw[t.kout key (by omega)]
    exact c.up _ _ (by omega) (by omega) (by omega) (by omega)
  .rw[t.klow key (p:=p) (by omega) (by omega)]
   by_cases q1:q<e
   .rw[t.khigh key (by omega) (by omega)]
    exact c.dn _ _ (by omega) (by omega) (by omega) (by omega)
   .rw[t.kout key (by omega)]
    exact h2 _ _ (by omega) (by omega) (by omega)
theorem Vn{l r:List α}{a b:Nat}(hp:r.Perm l)(hs:Same0 l r a b){p:Nat}(h1:a<=p)(h2:p<b)(hb:b<=l.length):∃ q,a<=q/\q<b/\r[p]? = l[q]?:=by
 have hlen:=hp.length_eq
 have ht:r.take a=l.take a:=by
  apply List.ext_getElem?
  intro i
  rw[List.getElem?_take,List.getElem?_take]
  split
  .exact hs i (by omega)
  .rfl
 have hd:r.drop b=l.drop b:=by
  apply List.ext_getElem?
  intro i
  rw[List.getElem?_drop,List.getElem?_drop]
  exact hs _ (by omega)
 have er:∀ x:List α,b<=x.length->x=x.take a++((x.drop a).take (b-a)++x.drop b):=fun x hx=>by
  have e1:=(List.take_append_drop a x).symm
  have e2:=(List.take_append_drop (b-a) (x.drop a)).symm
  rw[List.drop_drop,show a+(b-a)=b by omega]at e2
  rw[←e2]
  exact e1
 have hp2:(r.take a++((r.drop a).take (b-a)++r.drop b)).Perm (l.take a++((l.drop a).take (b-a)++l.drop b)):=by
  rw[←er r (by omega),←er l hb]
  exact hp
 rw[ht,hd]at hp2
 have hp3:=(List.perm_append_right_iff _).1 ((List.perm_append_left_iff _).1 hp2)
 have hpr:p<r.length:=by omega
 have hm:r[p]∈(r.drop a).take (b-a):=by
  rw[List.mem_iff_getElem?]
  refine⟨p-a,?_⟩
  rw[List.getElem?_take,if_pos (by omega),List.getElem?_drop,show a+(p-a)=p by omega,List.getElem?_eq_getElem hpr]
 have hm2:=hp3.mem_iff.1 hm
 rw[List.mem_iff_getElem?]at hm2
 obtain⟨i,hi⟩:=hm2
 rw[List.getElem?_take]at hi
 split at hi
 .rename_i hib
  rw[List.getElem?_drop]at hi
  exact⟨a+i,by omega,by omega,by rw[hi,List.getElem?_eq_getElem hpr]⟩
 .cases hi
theorem Zu{l r:List α}{a m b:Nat}(h:Low key l a m b)(hp:r.Perm l)(hs:Same0 l r a m)(hb:m<=l.length):Low key r a m b:=by
 intro p q x y z w
 obtain⟨p2,h1,h2,h3⟩:=Vn hp hs x y hb
 rw[Hi key h3,hs.kf key (by omega)]
 exact h p2 q h1 h2 z w
theorem WG{l r:List α}{a m b:Nat}(h:Low key l a m b)(hp:r.Perm l)(hs:Same0 l r m b)(hb:b<=l.length):Low key r a m b:=by
 intro p q x y z w
 obtain⟨q2,h1,h2,h3⟩:=Vn hp hs z w hb
 rw[Hi key h3,hs.kf key (by omega)]
 exact h p q2 x y h1 h2
theorem Srt.same'{l r:List α}{a b p q:Nat}(h:Srt key l p q)(hs:Same0 l r a b)(hd:q<=a\/b<=p):Srt key r p q:=by
 intro x y h1 h2 h3
 rw[hs.kf key (by omega),hs.kf key (by omega)]
 exact h x y h1 h2 h3
theorem J3{l:List α}{a s m:Nat}(h:s=a\/s=m)(h1:Srt key l a s)(h2:Srt key l s m):Srt key l a m:=by
 rcases h with rfl|rfl
 .exact h2
 .exact h1
structure Bs (l:List α) (n x y s r:Nat):Prop where
 xs:x<=s
 sr:s<=r
 ry:r<=y
 lo:∀ c,x<=c->c<s->kf key l c<=kf key l (n-1-c)
 hi:∀ c,r<=c->c<y->kf key l (n-1-c)<kf key l c
section
variable {l:List α} {n x y s r a m b:Nat}
theorem Bs.up(B:Bs key l n x y s r)(h1:Srt key l a m)(h2:Srt key l m b)(hx:a<=x)(hy:y<=m)(hn:n<=x+b)(hm:m+y<=n){c:Nat}(hc:s<=c)(hr:c<r)(h:kf key l c<=kf key l (n-1-c)):Bs key l n x y (c+1) r:=by
 have:=B.xs;have:=B.sr;have:=B.ry
 refine⟨by omega,by omega,B.ry,fun d hd1 hd2=>?_,B.hi⟩
 by_cases hdc:d=c
 .rw[hdc];exact h
 .have e1:=h1 d c (by omega) (by omega) (by omega)
  have e2:=h2 (n-1-c) (n-1-d) (by omega) (by omega) (by omega)
  omega
theorem Bs.dn(B:Bs key l n x y s r)(h1:Srt key l a m)(h2:Srt key l m b)(hx:a<=x)(hy:y<=m)(hn:n<=x+b)(hm:m+y<=n){c:Nat}(hc:s<=c)(hr:c<r)(h:kf key l (n-1-c)<kf key l c):Bs key l n x y s c:=by
 have:=B.xs;have:=B.sr;have:=B.ry
 refine⟨B.xs,hc,by omega,B.lo,fun d hd1 hd2=>?_⟩
 by_cases hdc:d=c
 .rw[hdc];exact h
 .have e1:=h1 c d (by omega) (by omega) (by omega)
  have e2:=h2 (n-1-d) (n-1-c) (by omega) (by omega) (by omega)
  omega
theorem Bs.cut{mid:Nat}(B:Bs key l (mid+m) x y s s)(h1:Srt key l a m)(h2:Srt key l m b)(hx:a<=x)(hy:y<=m)(hn:mid+m<=x+b)(hm:y<=mid)(cx:x=a\/mid+m=x+b)(cy:y=m\/y=mid):CutAt key l a m b mid s (mid+m-s):=by
 have:=B.xs;have:=B.ry
 refine⟨by omega,by omega,by omega,by omega,by omega,fun p q c1 c2 c3 c4=>?_,fun p q c1 c2 c3 c4=>?_⟩
 .have hs:x<s:=by omega
  have e:=B.lo (s-1) (by omega) (by omega)
  rw[show mid+m-1-(s-1)=mid+m-s by omega]at e
  have e1:kf key l p<=kf key l (s-1):=by
   by_cases h:p=s-1
   .rw[h];exact Int.le_refl _
   .exact h1 _ _ (by omega) (by omega) (by omega)
  have e2:kf key l (mid+m-s)<=kf key l q:=by
   by_cases h:q=mid+m-s
   .rw[h];exact Int.le_refl _
   .exact h2 _ _ (by omega) (by omega) (by omega)
  omega
 .have hs:s<y:=by omega
  have e:=B.hi s (by omega) (by omega)
  have e1:kf key l p<=kf key l (mid+m-1-s):=by
   by_cases h:p=mid+m-1-s
   .rw[h];exact Int.le_refl _
   .exact h2 _ _ (by omega) (by omega) (by omega)
  have e2:kf key l s<=kf key l q:=by
   by_cases h:q=s
   .rw[h];exact Int.le_refl _
   .exact h1 _ _ (by omega) (by omega) (by omega)
  omega
end
theorem Ahn{l r:List α}{a k:Nat}(h:a<=k)(hk:k+1<l.length)(hr:r.length=l.length)(t:Rot l r a (a+1) (k+1)):Rot l (Da r k (k+1)) a (a+1) (k+2):=by
 have e1:∀ p,(Da r k (k+1))[p]? = if p=k then r[k+1]? else if p=k+1 then r[k]? else r[p]?:=fun p=>by
  rw[DV (by omega) (by omega)]
  by_cases h1:p=k+1
  .subst h1
   rw[if_neg (by omega),if_pos rfl,List.getElem?_set_self (by rw[List.length_set];omega),List.getElem?_eq_getElem (by omega)]
  .rw[List.getElem?_set_ne (fun e=>h1 e.symm)]
   by_cases h2:p=k
   .subst h2
    rw[if_pos rfl,List.getElem?_set_self (by omega),List.getElem?_eq_getElem (by omega)]
   .rw[if_neg h2,if_neg h1,List.getElem?_set_ne (fun e=>h2 e.symm)]
 refine⟨fun p hp=>?_,fun p h1 h2=>?_,fun p h1 h2=>?_⟩
 .rw[e1,if_neg (by omega),if_neg (by omega),t.out p (by omega)]
 .rw[e1]
  by_cases h:p=k
  .rw[if_pos h,t.out _ (by omega)]
   exact Cu (by omega)
  .rw[if_neg h,if_neg (by omega),t.low p h1 (by omega)]
 .rw[e1,if_neg (by omega),if_pos (by omega),t.high k (by omega) (by omega)]
  exact Cu (by omega)
theorem Z4{l r:List α}{m k:Nat}(h:k<m)(hk:m<l.length)(hr:r.length=l.length)(t:Rot l r (k+1) m (m+1)):Rot l (Da r (k+1) k) k m (m+1):=by
 have e1:∀ p,(Da r (k+1) k)[p]? = if p=k then r[k+1]? else if p=k+1 then r[k]? else r[p]?:=fun p=>by
  rw[DV (by omega) (by omega)]
  by_cases h1:p=k
  .subst h1
   rw[if_pos rfl,List.getElem?_set_self (by rw[List.length_set];omega),List.getElem?_eq_getElem (by omega)]
  .rw[if_neg h1,List.getElem?_set_ne (fun e=>h1 e.symm)]
   by_cases h2:p=k+1
   .subst h2
    rw[if_pos rfl,List.getElem?_set_self (by omega),List.getElem?_eq_getElem (by omega)]
   .rw[if_neg h2,List.getElem?_set_ne (fun e=>h2 e.symm)]
 refine⟨fun p hp=>?_,fun p h1 h2=>?_,fun p h1 h2=>?_⟩
 .rw[e1,if_neg (by omega),if_neg (by omega),t.out p (by omega)]
 .rw[e1,if_pos (by omega),t.low (k+1) (by omega) (by omega)]
  exact Cu (by omega)
 .rw[e1,if_neg (by omega)]
  by_cases h:p=k+1
  .rw[if_pos h,t.out _ (by omega)]
   exact Cu (by omega)
  .rw[if_neg h,t.high p (by omega) (by omega)]
end
theorem Ds{a b:Nat}(h:a+b<4611686018427387904):Ao.conv .i64 (Ao.shr .u64 (Ao.conv .u64 (Ao.add .i64 (a:Int) (b:Int))) 1)=(((a+b) / 2:Nat):Int):=by
 rw[GW (by omega) (by omega),show (a:Int)+(b:Int)=((a+b:Nat):Int) by omega,B1 (by omega)]
 have:Ao.shr .u64 ((a+b:Nat):Int) 1=(((a+b) / 2:Nat):Int):=by
  show Int.fdiv ((a+b:Nat):Int) (2 ^ 1)=_
  have:(2 ^ 1:Int)=((2:Nat):Int):=by decide
  rw[this,Int.fdiv_eq_ediv_of_nonneg _ (by omega)]
  rfl
 rw[this]
 show IntKind.i64.wrap (((a+b) / 2:Nat):Int)=_
 rw[IntKind.wrap_i64]
 omega
theorem Jn{a b:Nat}(h:a+b<4611686018427387904):Ao.add .i64 (a:Int) (b:Int)=((a+b:Nat):Int):=by
 rw[GW (by omega) (by omega)]
 omega
theorem Cs{a b:Nat}(hb:b<=a)(h:a<4611686018427387904):Ao.sub .i64 (a:Int) (b:Int)=((a-b:Nat):Int):=by
 rw[F6 (by omega) (by omega)]
 omega
theorem HH{a:Nat}(hb:1<=a)(h:a<4611686018427387904):Ao.sub .i64 (a:Int) 1=((a-1:Nat):Int):=by
 rw[F6 (by omega) (by omega)]
 omega
abbrev GZ(l:List Pt):ABlk:=ABlk.mk (Av eP l) true true
section
variable {D:Orc} (K:Knows As Fz D)
include K
theorem Ahv(a b n:Nat)(l0:List Pt):∀(m i:Nat) (l:List Pt),n-i=m->i<=n->a+n<=b->b+n<=l.length->l.length<=1000000000->l.length=l0.length->SwR l0 l a b i->
  ∃ r:List Pt,D.ask (.lp 273 0) [.sl 0 0 l.length 3,iv (a:Int),iv (b:Int),iv (n:Int),iv (i:Int)] [GZ l]=some (.tup [iv 0,.sl 0 0 l.length 3],[.set (GZ r)])
   ∧ r.length=l.length/\r.Perm l/\SwR l0 r a b n:=by
 intro m
 induction m with
 |zero=>
  intro i l hm hi ha hb hl h0 hs
  obtain rfl:i=n:=by omega
  refine⟨l,?_,rfl,List.Perm.refl _,hs⟩
  refine K.lp' RS _ rfl (by kernel_rfl) ((YF ..).trans ?_)
  exact(Ap (by omega)).trans rfl
 |succ m ih=>
  intro i l hm hi ha hb hl h0 hs
  have hI:a+i<l.length:=by omega
  have hJ:b+i<l.length:=by omega
  have hlen:=Iu l (a+i) (b+i)
  obtain⟨r,g,hr,hp,ho⟩:=ih (i+1) (Da l (a+i) (b+i)) (by omega) (by omega) ha (by omega) (by omega) (by omega) (Aat (by omega) (by omega) hs h0)
  rw[hlen]at g hr
  refine⟨r,?_,hr,hp.trans (GN _ _ _),ho⟩
  refine K.lp' RS _ rfl (by kernel_rfl) ((YF ..).trans ?_)
  refine(Aq (by omega)).trans ?_
  rw[Jn (a:=b) (b:=i) (by omega),Jn (a:=a) (b:=i) (by omega),Bn (by omega)]
  rw[AN,Bb hJ]
  refine(Az _ _).trans ?_
  refine(Bx AK l (b+i) hJ _).trans ?_
  simp only[eP,eN,ND,Ab]
  rw[AN,Bb hI]
  refine(Az _ _).trans ?_
  refine(Bx AK l (a+i) hI _).trans ?_
  simp only[eP,eN,ND,Ab]
  have s1:=CP AK l (a+i) hI l[(b+i)]
  have s2:=CP AK (l.set (a+i) l[(b+i)]) (b+i) (by rw[List.length_set];exact hJ) l[(a+i)]
  rw[←DV hI hJ]at s2
  simp only[eP,eN]at s1 s2
  rw[AN,Bb hI]
  refine(Az _ _).trans ?_
  rw[show Nat.ble (0+(a+i)*3+3) (Av eP l).length=true by rw[By AK];simp;omega]
  refine(Az _ _).trans ?_
  rw[AN,Bb hJ]
  refine(Az _ _).trans ?_
  rw[s1,s2]
  rw[show Nat.ble (0+(b+i)*3+3) (Av eP (l.set (a+i) l[(b+i)])).length=true by rw[By AK,List.length_set];simp;omega]
  refine(Az _ _).trans ?_
  refine(Aa g _).trans ?_
  rfl
theorem Uv{a b n:Nat}{l:List Pt}(ha:a+n<=b)(hb:b+n<=l.length)(hl:l.length<=1000000000) :
  ∃ r:List Pt,D.ask (.fn 273) [.sl 0 0 l.length 3,iv (a:Int),iv (b:Int),iv (n:Int),Fq] [GZ l]=some (.tup [],[.set (GZ r)])
   ∧ r.length=l.length/\r.Perm l/\SwR l r a b n:=by
 obtain⟨r,g,h⟩:=Ahv K a b n l _ 0 l rfl (by omega) ha hb hl rfl (Aau l a b)
 refine⟨r,?_,h⟩
 refine K.fn' RS _ rfl ((Amr ..).trans ?_)
 refine(Aa g _).trans ?_
 rfl
theorem Ahm(m:Nat):∀(s i j:Nat) (l:List Pt),i+j=s->0<i->0<j->i<=m->m+j<=l.length->l.length<=1000000000->
  ∃(r:List Pt) (d:Nat),D.ask (.lp 260 0) [.sl 0 0 l.length 3,iv (m:Int),Fq,iv (i:Int),iv (j:Int)] [GZ l]=some (.tup [iv 0,.sl 0 0 l.length 3,iv (m:Int),Fq,iv (d:Int)],[.set (GZ r)])
   ∧ r.length=l.length/\r.Perm l/\d<=m/\m+d<=l.length/\∀ r2:List Pt,SwR r r2 (m-d) m d->Rot l r2 (m-i) m (m+j):=by
 intro s
 induction s using Nat.strongRecOn with
 |_ s ih=>
  intro i j l hs hi hj him hl hn
  by_cases he:i=j
  .subst he
   refine⟨l,i,?_,rfl,List.Perm.refl _,him,hl,fun r2 h=>Z7 him h⟩
   refine K.lp' OV _ rfl (by kernel_rfl) ((TD ..).trans ?_)
   exact(AQ rfl).trans rfl
  by_cases hlt:j<i
  .obtain⟨r,g,hr,hp,hsw⟩:=Uv K (a:=m-i) (b:=m) (n:=j) (l:=l) (by omega) hl hn
   obtain⟨r2,d,g2,hr2,hp2,hd1,hd2,hd3⟩:=ih (i-j+j) (by omega) (i-j) j r rfl (by omega) hj (by omega) (by omega) (by omega)
   rw[hr]at g2 hr2 hd2
   refine⟨r2,d,?_,hr2,hp2.trans hp,hd1,hd2,fun r3 h=>Z5 him hlt hsw (hd3 r3 h)⟩
   refine K.lp' OV _ rfl (by kernel_rfl) ((TD ..).trans ?_)
   refine(AA (by omega)).trans ?_
   refine(Aq (by omega)).trans ?_
   rw[Cs him (by omega),Cs (a:=i) (b:=j) (by omega) (by omega)]
   refine(Aa g _).trans ?_
   simp only[Fq,ND,Ab]
   refine(Aa g2 _).trans ?_
   rfl
  .obtain⟨r,g,hr,hp,hsw⟩:=Uv K (a:=m-i) (b:=m+j-i) (n:=i) (l:=l) (by omega) (by omega) hn
   obtain⟨r2,d,g2,hr2,hp2,hd1,hd2,hd3⟩:=ih (i+(j-i)) (by omega) i (j-i) r rfl hi (by omega) him (by omega) (by omega)
   rw[hr]at g2 hr2 hd2
   refine⟨r2,d,?_,hr2,hp2.trans hp,hd1,hd2,fun r3 h=>W3 him (by omega) hsw (hd3 r3 h)⟩
   refine K.lp' OV _ rfl (by kernel_rfl) ((TD ..).trans ?_)
   refine(AA (by omega)).trans ?_
   refine(Ap (by omega)).trans ?_
   rw[Cs him (by omega),Jn (a:=m) (b:=j) (by omega),Cs (a:=m+j) (b:=i) (by omega) (by omega),Cs (a:=j) (b:=i) (by omega) (by omega)]
   refine(Aa g _).trans ?_
   simp only[Fq,ND,Ab]
   refine(Aa g2 _).trans ?_
   rfl
theorem Z6{a m b:Nat}{l:List Pt}(ha:a<m)(hm:m<b)(hb:b<=l.length)(hl:l.length<=1000000000) :
  ∃ r:List Pt,D.ask (.fn 260) [.sl 0 0 l.length 3,iv (a:Int),iv (m:Int),iv (b:Int),Fq] [GZ l]=some (.tup [],[.set (GZ r)])
   ∧ r.length=l.length/\r.Perm l/\Rot l r a m b:=by
 obtain⟨r,d,g,hr,hp,hd1,hd2,hd3⟩:=Ahm K m _ (m-a) (b-m) l rfl (by omega) (by omega) (by omega) (by omega) hl
 obtain⟨r2,g2,hr2,hp2,hsw⟩:=Uv K (a:=m-d) (b:=m) (n:=d) (l:=r) (by omega) (by omega) (by omega)
 have h:=hd3 r2 hsw
 rw[show m-(m-a)=a by omega,show m+(b-m)=b by omega]at h
 rw[hr]at g2
 refine⟨r2,?_,by omega,hp2.trans hp,h⟩
 refine K.fn' OV _ rfl ((Amp ..).trans ?_)
 rw[Cs (a:=m) (b:=a) (by omega) (by omega),Cs (a:=b) (b:=m) (by omega) (by omega)]
 refine(Aa g _).trans ?_
 simp only[Fq,ND,Ab]
 rw[Cs hd1 (by omega)]
 refine(Aa g2 _).trans ?_
 rfl
theorem Ac7(a m b:Nat)(l:List Pt)(hl:l.length<=1000000000)(ha:a<m)(hb:b<=l.length)(hs:Srt Pt.v l m b):∀(k i j:Nat),j-i=k->m<=i->i<=j->j<=b->(∀ p,m<=p->p<i->kf Pt.v l p<kf Pt.v l a)->(∀ p,j<=p->p<b->kf Pt.v l a<=kf Pt.v l p)->
  ∃ x:Nat,D.ask (.lp 243 0) [.sl 0 0 l.length 3,iv (a:Int),Fq,iv (i:Int),iv (j:Int)] [GZ l]=some (.tup [iv 0,.sl 0 0 l.length 3,iv (a:Int),iv (x:Int)],[.set (GZ l)])
   ∧ m<=x/\x<=b/\(∀ p,m<=p->p<x->kf Pt.v l p<kf Pt.v l a)/\(∀ p,x<=p->p<b->kf Pt.v l a<=kf Pt.v l p):=by
 intro k
 induction k using Nat.strongRecOn with
 |_ k ih=>
  intro i j hk hmi hij hjb h1 h2
  by_cases he:i<j
  .have hH:(i+j) / 2<l.length:=by omega
   have hA:a<l.length:=by omega
   have kh:kf Pt.v l ((i+j) / 2)=l[(i+j) / 2].v:=FK Pt.v hH
   have ka:kf Pt.v l a=l[a].v:=FK Pt.v hA
   by_cases hlt:l[(i+j) / 2].v<l[a].v
   .obtain⟨x,g,hx⟩:=ih (j-((i+j) / 2+1)) (by omega) ((i+j) / 2+1) j rfl (by omega) (by omega) hjb (fun p p1 p2=>by
     by_cases hp:p=(i+j) / 2
     .rw[hp,kh,ka];exact hlt
     .have:=hs p ((i+j) / 2) p1 (by omega) (by omega)
      omega) h2
    refine⟨x,?_,hx⟩
    refine K.lp' CI _ rfl (by kernel_rfl) ((Tz ..).trans ?_)
    refine(Aq (by omega)).trans ?_
    refine(Ap (by decide)).trans ?_
    rw[Ds (by omega),Bn (by omega)]
    rw[AN,Bb hH]
    refine(Az _ _).trans ?_
    refine(Bx AK l ((i+j) / 2) hH _).trans ?_
    simp only[eP,eN,ND,Ab]
    rw[AN,Bb hA]
    refine(Az _ _).trans ?_
    refine(Bx AK l a hA _).trans ?_
    simp only[eP,eN,ND,Ab]
    refine(Aa (Ha K l[(i+j) / 2] l[a]) _).trans ?_
    simp only[ND,Ab]
    refine(Aq (Fl.2 hlt)).trans ?_
    refine(Aa g _).trans ?_
    rfl
   .obtain⟨x,g,hx⟩:=ih ((i+j) / 2-i) (by omega) i ((i+j) / 2) rfl hmi (by omega) (by omega) h1 (fun p p1 p2=>by
     by_cases hp:p=(i+j) / 2
     .rw[hp];omega
     .have:=hs ((i+j) / 2) p (by omega) (by omega) (by omega)
      omega)
    refine⟨x,?_,hx⟩
    refine K.lp' CI _ rfl (by kernel_rfl) ((Tz ..).trans ?_)
    refine(Aq (by omega)).trans ?_
    refine(Ap (by decide)).trans ?_
    rw[Ds (by omega)]
    rw[AN,Bb hH]
    refine(Az _ _).trans ?_
    refine(Bx AK l ((i+j) / 2) hH _).trans ?_
    simp only[eP,eN,ND,Ab]
    rw[AN,Bb hA]
    refine(Az _ _).trans ?_
    refine(Bx AK l a hA _).trans ?_
    simp only[eP,eN,ND,Ab]
    refine(Aa (Ha K l[(i+j) / 2] l[a]) _).trans ?_
    simp only[ND,Ab]
    refine(Ap (fun h=>hlt (Fl.1 h))).trans ?_
    refine(Aa g _).trans ?_
    rfl
  .obtain rfl:i=j:=by omega
   refine⟨i,?_,hmi,hjb,h1,h2⟩
   refine K.lp' CI _ rfl (by kernel_rfl) ((Tz ..).trans ?_)
   exact(Ap (by omega)).trans rfl
theorem Ac8(a x:Nat)(l0:List Pt):∀(n k:Nat) (l:List Pt),x-1-k=n->a<=k->k<x->x<=l.length->l.length<=1000000000->l.length=l0.length->Rot l0 l a (a+1) (k+1)->
  ∃ r:List Pt,D.ask (.lp 243 1) [.sl 0 0 l.length 3,iv (x:Int),iv (k:Int)] [GZ l]=some (.tup [iv 2,.sl 0 0 l.length 3],[.set (GZ r)])
   ∧ r.length=l.length/\r.Perm l/\Rot l0 r a (a+1) x:=by
 intro n
 induction n with
 |zero=>
  intro k l hn ha hk hx hl h0 ht
  obtain rfl:x=k+1:=by omega
  refine⟨l,?_,rfl,List.Perm.refl _,ht⟩
  refine K.lp' CI _ rfl (by kernel_rfl) ((YA ..).trans ?_)
  rw[HH (by omega) (by omega)]
  exact(Ap (by omega)).trans rfl
 |succ n ih=>
  intro k l hn ha hk hx hl h0 ht
  have hI:k<l.length:=by omega
  have hJ:k+1<l.length:=by omega
  have hlen:=Iu l k (k+1)
  obtain⟨r,g,hr,hp,ho⟩:=ih (k+1) (Da l k (k+1)) (by omega) (by omega) (by omega) (by omega) (by omega) (by omega) (Ahn ha (by omega) h0 ht)
  rw[hlen]at g hr
  refine⟨r,?_,hr,hp.trans (GN _ _ _),ho⟩
  refine K.lp' CI _ rfl (by kernel_rfl) ((YA ..).trans ?_)
  rw[HH (by omega) (by omega)]
  refine(Aq (by omega)).trans ?_
  rw[Bn (by omega)]
  rw[AN,Bb hJ]
  refine(Az _ _).trans ?_
  refine(Bx AK l (k+1) hJ _).trans ?_
  simp only[eP,eN,ND,Ab]
  rw[AN,Bb hI]
  refine(Az _ _).trans ?_
  refine(Bx AK l k hI _).trans ?_
  simp only[eP,eN,ND,Ab]
  have s1:=CP AK l k hI l[(k+1)]
  have s2:=CP AK (l.set k l[(k+1)]) (k+1) (by rw[List.length_set];exact hJ) l[k]
  rw[←DV hI hJ]at s2
  simp only[eP,eN]at s1 s2
  rw[AN,Bb hI]
  refine(Az _ _).trans ?_
  rw[show Nat.ble (0+k*3+3) (Av eP l).length=true by rw[By AK];simp;omega]
  refine(Az _ _).trans ?_
  rw[AN,Bb hJ]
  refine(Az _ _).trans ?_
  rw[s1,s2]
  rw[show Nat.ble (0+(k+1)*3+3) (Av eP (l.set k l[(k+1)])).length=true by rw[By AK,List.length_set];simp;omega]
  refine(Az _ _).trans ?_
  refine(Aa g _).trans ?_
  rfl
theorem Ac9(a m:Nat)(l:List Pt)(hl:l.length<=1000000000)(hb:m<l.length)(hs:Srt Pt.v l a m):∀(k i j:Nat),j-i=k->a<=i->i<=j->j<=m->(∀ p,a<=p->p<i->kf Pt.v l p<=kf Pt.v l m)->(∀ p,j<=p->p<m->kf Pt.v l m<kf Pt.v l p)->
  ∃ x:Nat,D.ask (.lp 243 2) [.sl 0 0 l.length 3,iv (m:Int),Fq,iv (i:Int),iv (j:Int)] [GZ l]=some (.tup [iv 4,.sl 0 0 l.length 3,iv (m:Int),iv (x:Int)],[.set (GZ l)])
   ∧ a<=x/\x<=m/\(∀ p,a<=p->p<x->kf Pt.v l p<=kf Pt.v l m)/\(∀ p,x<=p->p<m->kf Pt.v l m<kf Pt.v l p):=by
 intro k
 induction k using Nat.strongRecOn with
 |_ k ih=>
  intro i j hk hmi hij hjb h1 h2
  by_cases he:i<j
  .have hH:(i+j) / 2<l.length:=by omega
   have kh:kf Pt.v l ((i+j) / 2)=l[(i+j) / 2].v:=FK Pt.v hH
   have ka:kf Pt.v l m=l[m].v:=FK Pt.v hb
   by_cases hlt:l[m].v<l[(i+j) / 2].v
   .obtain⟨x,g,hx⟩:=ih ((i+j) / 2-i) (by omega) i ((i+j) / 2) rfl hmi (by omega) (by omega) h1 (fun p p1 p2=>by
     by_cases hp:p=(i+j) / 2
     .rw[hp];omega
     .have:=hs ((i+j) / 2) p (by omega) (by omega) (by omega)
      omega)
    refine⟨x,?_,hx⟩
    refine K.lp' CI _ rfl (by kernel_rfl) ((TA ..).trans ?_)
    refine(Aq (by omega)).trans ?_
    refine(Ap (by decide)).trans ?_
    rw[Ds (by omega)]
    rw[AN,Bb hb]
    refine(Az _ _).trans ?_
    refine(Bx AK l m hb _).trans ?_
    simp only[eP,eN,ND,Ab]
    rw[AN,Bb hH]
    refine(Az _ _).trans ?_
    refine(Bx AK l ((i+j) / 2) hH _).trans ?_
    simp only[eP,eN,ND,Ab]
    refine(Aa (Ha K l[m] l[(i+j) / 2]) _).trans ?_
    simp only[ND,Ab]
    refine(Aq (Fl.2 hlt)).trans ?_
    refine(Aa g _).trans ?_
    rfl
   .obtain⟨x,g,hx⟩:=ih (j-((i+j) / 2+1)) (by omega) ((i+j) / 2+1) j rfl (by omega) (by omega) hjb (fun p p1 p2=>by
     by_cases hp:p=(i+j) / 2
     .rw[hp];omega
     .have:=hs p ((i+j) / 2) p1 (by omega) (by omega)
      omega) h2
    refine⟨x,?_,hx⟩
    refine K.lp' CI _ rfl (by kernel_rfl) ((TA ..).trans ?_)
    refine(Aq (by omega)).trans ?_
    refine(Ap (by decide)).trans ?_
    rw[Ds (by omega),Bn (by omega)]
    rw[AN,Bb hb]
    refine(Az _ _).trans ?_
    refine(Bx AK l m hb _).trans ?_
    simp only[eP,eN,ND,Ab]
    rw[AN,Bb hH]
    refine(Az _ _).trans ?_
    refine(Bx AK l ((i+j) / 2) hH _).trans ?_
    simp only[eP,eN,ND,Ab]
    refine(Aa (Ha K l[m] l[(i+j) / 2]) _).trans ?_
    simp only[ND,Ab]
    refine(Ap (fun h=>hlt (Fl.1 h))).trans ?_
    refine(Aa g _).trans ?_
    rfl
  .obtain rfl:i=j:=by omega
   refine⟨i,?_,hmi,hjb,h1,h2⟩
   refine K.lp' CI _ rfl (by kernel_rfl) ((TA ..).trans ?_)
   exact(Ap (by omega)).trans rfl
theorem Ada(m x:Nat)(l0:List Pt):∀(n k:Nat) (l:List Pt),k-x=n->x<=k->k<=m->m<l.length->l.length<=1000000000->l.length=l0.length->Rot l0 l k m (m+1)->
  ∃ r:List Pt,D.ask (.lp 243 3) [.sl 0 0 l.length 3,iv (x:Int),iv (k:Int)] [GZ l]=some (.tup [iv 6,.sl 0 0 l.length 3],[.set (GZ r)])
   ∧ r.length=l.length/\r.Perm l/\Rot l0 r x m (m+1):=by
 intro n
 induction n with
 |zero=>
  intro k l hn hx hk hm hl h0 ht
  obtain rfl:x=k:=by omega
  refine⟨l,?_,rfl,List.Perm.refl _,ht⟩
  refine K.lp' CI _ rfl (by kernel_rfl) ((YB ..).trans ?_)
  exact(Ap (by omega)).trans rfl
 |succ n ih=>
  intro k l hn hx hk hm hl h0 ht
  obtain⟨j,rfl⟩:∃ j,k=j+1:=⟨k-1,by omega⟩
  have hI:j+1<l.length:=by omega
  have hJ:j<l.length:=by omega
  have hlen:=Iu l (j+1) j
  obtain⟨r,g,hr,hp,ho⟩:=ih j (Da l (j+1) j) (by omega) (by omega) (by omega) (by omega) (by omega) (by omega) (Z4 (by omega) (by omega) h0 ht)
  rw[hlen]at g hr
  refine⟨r,?_,hr,hp.trans (GN _ _ _),ho⟩
  refine K.lp' CI _ rfl (by kernel_rfl) ((YB ..).trans ?_)
  refine(Aq (by omega)).trans ?_
  rw[SG (by omega)]
  rw[AN,Bb hJ]
  refine(Az _ _).trans ?_
  refine(Bx AK l j hJ _).trans ?_
  simp only[eP,eN,ND,Ab]
  rw[AN,Bb hI]
  refine(Az _ _).trans ?_
  refine(Bx AK l (j+1) hI _).trans ?_
  simp only[eP,eN,ND,Ab]
  have s1:=CP AK l (j+1) hI l[j]
  have s2:=CP AK (l.set (j+1) l[j]) j (by rw[List.length_set];exact hJ) l[(j+1)]
  rw[←DV hI hJ]at s2
  simp only[eP,eN]at s1 s2
  rw[AN,Bb hI]
  refine(Az _ _).trans ?_
  rw[show Nat.ble (0+(j+1)*3+3) (Av eP l).length=true by rw[By AK];simp;omega]
  refine(Az _ _).trans ?_
  rw[AN,Bb hJ]
  refine(Az _ _).trans ?_
  rw[s1,s2]
  rw[show Nat.ble (0+j*3+3) (Av eP (l.set (j+1) l[j])).length=true by rw[By AK,List.length_set];simp;omega]
  refine(Az _ _).trans ?_
  refine(Aa g _).trans ?_
  rfl
theorem VI(a m b mid x y:Nat)(l:List Pt)(hl:l.length<=1000000000)(hb:b<=l.length)(hs1:Srt Pt.v l a m)(hs2:Srt Pt.v l m b)(hx:a<=x)(hy:y<=m)(hn:mid+m<=x+b)(hm:y<=mid)(hmid:mid<=b)(hmb:m<=b):∀(k s r:Nat),r-s=k->Bs Pt.v l (mid+m) x y s r->
  ∃ z:Nat,D.ask (.lp 243 4) [.sl 0 0 l.length 3,iv (a:Int),iv (m:Int),iv (b:Int),Fq,iv (mid:Int),iv ((mid+m:Nat):Int),iv (s:Int),iv (r:Int),iv ((mid+m-1:Nat):Int)] [GZ l]=some (.tup [iv 8,.sl 0 0 l.length 3,iv (a:Int),iv (m:Int),iv (b:Int),Fq,iv (mid:Int),iv ((mid+m:Nat):Int),iv (z:Int)],[.set (GZ l)])
   ∧ Bs Pt.v l (mid+m) x y z z:=by
 intro k
 induction k using Nat.strongRecOn with
 |_ k ih=>
  intro s r hk B
  have:=B.xs;have:=B.sr;have:=B.ry
  by_cases he:s<r
  .have hH:(s+r) / 2<l.length:=by omega
   have hP:mid+m-1-(s+r) / 2<l.length:=by omega
   have kh:kf Pt.v l ((s+r) / 2)=l[(s+r) / 2].v:=FK Pt.v hH
   have kp:kf Pt.v l (mid+m-1-(s+r) / 2)=l[mid+m-1-(s+r) / 2].v:=FK Pt.v hP
   by_cases hlt:l[mid+m-1-(s+r) / 2].v<l[(s+r) / 2].v
   .obtain⟨z,g,hz⟩:=ih ((s+r) / 2-s) (by omega) s ((s+r) / 2) rfl (B.dn Pt.v hs1 hs2 hx hy (by omega) (by omega) (by omega) (by omega) (by omega))
    refine⟨z,?_,hz⟩
    refine K.lp' CI _ rfl (by kernel_rfl) ((TC ..).trans ?_)
    refine(Aq (by omega)).trans ?_
    refine(Ap (by decide)).trans ?_
    rw[Ds (by omega),Cs (a:=mid+m-1) (b:=(s+r) / 2) (by omega) (by omega)]
    rw[AN,Bb hP]
    refine(Az _ _).trans ?_
    refine(Bx AK l (mid+m-1-(s+r) / 2) hP _).trans ?_
    simp only[eP,eN,ND,Ab]
    rw[AN,Bb hH]
    refine(Az _ _).trans ?_
    refine(Bx AK l ((s+r) / 2) hH _).trans ?_
    simp only[eP,eN,ND,Ab]
    refine(Aa (Ha K l[mid+m-1-(s+r) / 2] l[(s+r) / 2]) _).trans ?_
    simp only[ND,Ab]
    refine(Aq (Fl.2 hlt)).trans ?_
    refine(Aa g _).trans ?_
    rfl
   .obtain⟨z,g,hz⟩:=ih (r-((s+r) / 2+1)) (by omega) ((s+r) / 2+1) r rfl (B.up Pt.v hs1 hs2 hx hy (by omega) (by omega) (by omega) (by omega) (by omega))
    refine⟨z,?_,hz⟩
    refine K.lp' CI _ rfl (by kernel_rfl) ((TC ..).trans ?_)
    refine(Aq (by omega)).trans ?_
    refine(Ap (by decide)).trans ?_
    rw[Ds (by omega),Cs (a:=mid+m-1) (b:=(s+r) / 2) (by omega) (by omega),Bn (by omega)]
    rw[AN,Bb hP]
    refine(Az _ _).trans ?_
    refine(Bx AK l (mid+m-1-(s+r) / 2) hP _).trans ?_
    simp only[eP,eN,ND,Ab]
    rw[AN,Bb hH]
    refine(Az _ _).trans ?_
    refine(Bx AK l ((s+r) / 2) hH _).trans ?_
    simp only[eP,eN,ND,Ab]
    refine(Aa (Ha K l[mid+m-1-(s+r) / 2] l[(s+r) / 2]) _).trans ?_
    simp only[ND,Ab]
    refine(Ap (fun h=>hlt (Fl.1 h))).trans ?_
    refine(Aa g _).trans ?_
    rfl
  .obtain rfl:s=r:=by omega
   refine⟨s,?_,B⟩
   refine K.lp' CI _ rfl (by kernel_rfl) ((TC ..).trans ?_)
   exact(Ap (by omega)).trans rfl
end
def tl2(D:Orc)(n:Nat)(mid e b:Int)(cs:List AV):KR:=
 br (Ao.lt mid e)
  (br (Ao.lt e b)
   (Af D (.fn 243) [.sl 0 0 n 3,iv mid,iv e,iv b,Fq] [ABlk.mk cs true true] fun r o=>
   AF r fun cs4=>
   Ad cs4<|
   AG o fun c l=>
   AP true true c fun cs5=>
   Ac l<|
   some ((AV.tup [],[BO.set (ABlk.mk cs5 true true)])))
   (some ((AV.tup [],[BO.set (ABlk.mk cs true true)]))))
  (some ((AV.tup [],[BO.set (ABlk.mk cs true true)])))
def tl1(D:Orc)(n:Nat)(a s mid e b:Int)(cs:List AV):KR:=
 br (Ao.lt a s)
  (br (Ao.lt s mid)
   (Af D (.fn 243) [.sl 0 0 n 3,iv a,iv s,iv mid,Fq] [ABlk.mk cs true true] fun r o=>
   AF r fun cs4=>
   Ad cs4<|
   AG o fun c l=>
   AP true true c fun cs5=>
   Ac l<|
   tl2 D n mid e b cs5)
   (tl2 D n mid e b cs))
  (tl2 D n mid e b cs)
section
variable {D:Orc}
def Ma(D:Orc)(N:Nat):Prop:=∀(l:List Pt) (a m b:Nat),b-a<N->a<m->m<b->b<=l.length->l.length<=1000000000->Srt Pt.v l a m->Srt Pt.v l m b->
 ∃ r:List Pt,D.ask (.fn 243) [.sl 0 0 l.length 3,iv (a:Int),iv (m:Int),iv (b:Int),Fq] [GZ l]=some (.tup [],[.set (GZ r)])
  ∧ r.length=l.length/\r.Perm l/\Srt Pt.v r a b/\Same0 l r a b
theorem Ahx{N:Nat}(ih:Ma D N){l:List Pt}{mid e b:Nat}(hN:b-mid<N)(h1:mid<=e)(h2:e<=b)(hb:b<=l.length)(hl:l.length<=1000000000)(s1:Srt Pt.v l mid e)(s2:Srt Pt.v l e b) :
  ∃ r:List Pt,tl2 D l.length (mid:Int) (e:Int) (b:Int) (Av eP l)=some (.tup [],[.set (GZ r)])/\r.length=l.length/\r.Perm l/\Srt Pt.v r mid b/\Same0 l r mid b:=by
 by_cases q1:mid<e
 .by_cases q2:e<b
  .obtain⟨r,g,hr,hp,ho,hs⟩:=ih l mid e b hN q1 q2 hb hl s1 s2
   refine⟨r,?_,hr,hp,ho,hs⟩
   unfold tl2
   refine(Aq (by omega)).trans ?_
   refine(Aq (by omega)).trans ?_
   refine(Aa g _).trans ?_
   rfl
  .refine⟨l,?_,rfl,List.Perm.refl _,J3 Pt.v (.inr (by omega)) s1 s2,C7 _ _ _⟩
   unfold tl2
   refine(Aq (by omega)).trans ?_
   exact(Ap (by omega)).trans rfl
 .refine⟨l,?_,rfl,List.Perm.refl _,J3 Pt.v (.inl (by omega)) s1 s2,C7 _ _ _⟩
  unfold tl2
  exact(Ap (by omega)).trans rfl
theorem Lh{N:Nat}(ih:Ma D N){l:List Pt}{a s mid e b:Nat}(hN:mid-a<N)(hN2:b-mid<N)(h1:a<=s)(h2:s<=mid)(h3:mid<=e)(h4:e<=b)(hb:b<=l.length)(hl:l.length<=1000000000)(s1:Srt Pt.v l a s)(s2:Srt Pt.v l s mid)(s3:Srt Pt.v l mid e)(s4:Srt Pt.v l e b)(lo:Low Pt.v l a mid b) :
  ∃ r:List Pt,tl1 D l.length (a:Int) (s:Int) (mid:Int) (e:Int) (b:Int) (Av eP l)=some (.tup [],[.set (GZ r)])/\r.length=l.length/\r.Perm l/\Srt Pt.v r a b/\Same0 l r a b:=by
 have fin:∀{l1:List Pt},l1.length=l.length->l1.Perm l->Srt Pt.v l1 a mid->Same0 l l1 a mid->∃ r:List Pt,tl2 D l.length (mid:Int) (e:Int) (b:Int) (Av eP l1)=some (.tup [],[.set (GZ r)])/\r.length=l.length/\r.Perm l/\Srt Pt.v r a b/\Same0 l r a b:=by
  intro l1 k1 k2 k3 k4
  have lo1:=Zu Pt.v lo k2 k4 (by omega)
  obtain⟨r,g,hr,hp,ho,hs⟩:=Ahx ih (l:=l1) (mid:=mid) (e:=e) (b:=b) hN2 h3 h4 (by omega) (by omega) (s3.same' Pt.v k4 (.inr (Nat.le_refl _))) (s4.same' Pt.v k4 (.inr h3))
  rw[k1]at g hr
  exact⟨r,g,hr,hp.trans k2,AcZ Pt.v (k3.same' Pt.v hs (.inl (Nat.le_refl _))) ho (WG Pt.v lo1 hp hs (by omega)),(k4.wide (Nat.le_refl _) (by omega)).trans (hs.wide (by omega) (Nat.le_refl _))⟩
 by_cases q1:a<s
 .by_cases q2:s<mid
  .obtain⟨r,g,hr,hp,ho,hs⟩:=ih l a s mid hN q1 q2 (by omega) hl s1 s2
   obtain⟨r2,g2,h⟩:=fin hr hp ho hs
   refine⟨r2,?_,h⟩
   unfold tl1
   refine(Aq (by omega)).trans ?_
   refine(Aq (by omega)).trans ?_
   refine(Aa g _).trans ?_
   exact g2
  .obtain⟨r2,g2,h⟩:=fin (l1:=l) rfl (List.Perm.refl _) (J3 Pt.v (.inr (by omega)) s1 s2) (C7 _ _ _)
   refine⟨r2,?_,h⟩
   unfold tl1
   refine(Aq (by omega)).trans ?_
   exact(Ap (by omega)).trans g2
 .obtain⟨r2,g2,h⟩:=fin (l1:=l) rfl (List.Perm.refl _) (J3 Pt.v (.inl (by omega)) s1 s2) (C7 _ _ _)
  refine⟨r2,?_,h⟩
  unfold tl1
  exact(Ap (by omega)).trans g2
variable (K:Knows As Fz D)
include K
theorem Ac6:∀ N,Ma D N:=by
 intro N
 induction N with
 |zero=>intro l a m b h;omega
 |succ N ih0=>
  intro l a m b hN ha hm hb hl hs1 hs2
  by_cases hA:m-a=1
  .obtain rfl:m=a+1:=by omega
   obtain⟨x,g1,x1,x2,x3,x4⟩:=Ac7 K a (a+1) b l hl (by omega) hb hs2 _ (a+1) b rfl (Nat.le_refl _) (by omega) (Nat.le_refl _) (fun p p1 p2=>by omega) (fun p p1 p2=>by omega)
   obtain⟨r,g2,r1,r2,r3⟩:=Ac8 K a x l _ a l rfl (Nat.le_refl _) (by omega) (by omega) hl rfl (F9 (.inr rfl) (by omega) (by omega))
   refine⟨r,?_,r1,r2,Sa Pt.v x1 x2 hs2 x3 x4 r3,fun p hp=>r3.out p (by omega)⟩
   refine K.fn' CI _ rfl ((Rl ..).trans ?_)
   rw[Cs (a:=a+1) (b:=a) (by omega) (by omega)]
   refine(AQ (by omega)).trans ?_
   refine(Aa g1 _).trans ?_
   simp only[Fq,ND,Ab]
   refine(Aa g2 _).trans ?_
   rfl
  by_cases hB:b-m=1
  .obtain rfl:b=m+1:=by omega
   obtain⟨x,g1,x1,x2,x3,x4⟩:=Ac9 K a m l hl (by omega) hs1 _ a m rfl (Nat.le_refl _) (by omega) (Nat.le_refl _) (fun p p1 p2=>by omega) (fun p p1 p2=>by omega)
   obtain⟨r,g2,r1,r2,r3⟩:=Ada K m x l _ m l rfl x2 (Nat.le_refl _) (by omega) hl rfl (F9 (.inl rfl) (by omega) (by omega))
   refine⟨r,?_,r1,r2,T5 Pt.v x1 x2 hs1 x3 x4 r3,fun p hp=>r3.out p (by omega)⟩
   refine K.fn' CI _ rfl ((Rl ..).trans ?_)
   rw[Cs (a:=m) (b:=a) (by omega) (by omega)]
   refine(AA (by omega)).trans ?_
   rw[Cs (a:=m+1) (b:=m) (by omega) (by omega)]
   refine(AQ (by omega)).trans ?_
   refine(Aa g1 _).trans ?_
   simp only[Fq,ND,Ab]
   refine(Az _ _).trans ?_
   refine(Aa g2 _).trans ?_
   rfl
  have ih:Ma D N:=ih0
  by_cases hC:(a+b) / 2<m
  .obtain⟨z,g4,B⟩:=VI K a m b ((a+b) / 2) ((a+b) / 2+m-b) ((a+b) / 2) l hl hb hs1 hs2 (by omega) (by omega) (by omega) (by omega) (by omega) (by omega) _ ((a+b) / 2+m-b) ((a+b) / 2) rfl ⟨Nat.le_refl _,by omega,Nat.le_refl _,fun c c1 c2=>by omega,fun c c1 c2=>by omega⟩
   have C:=B.cut Pt.v hs1 hs2 (by omega) (by omega) (by omega) (by omega) (.inr (by omega)) (.inr rfl)
   have:=C.asl;have:=C.sm;have:=C.me;have:=C.eb;have:=C.mid
   have:=B.ry;have:=B.xs
   have e0:Ao.sub .i64 (((a+b) / 2+m:Nat):Int) (z:Int)=(((a+b) / 2+m-z:Nat):Int):=Cs (by omega) (by omega)
   by_cases w1:z<m
   .by_cases w2:m<(a+b) / 2+m-z
    .obtain⟨l1,g5,k1,k2,k3⟩:=Z6 K w1 w2 (by omega) hl
     obtain⟨f1,f2,f3,f4,f5⟩:=EN Pt.v C hs1 hs2 k3
     obtain⟨r,g6,r1,r2,r3,r4⟩:=Lh ih (l:=l1) (a:=a) (s:=z) (mid:=(a+b) / 2) (e:=(a+b) / 2+m-z) (b:=b) (by omega) (by omega) (by omega) (by omega) (by omega) (by omega) (by omega) (by omega) f1 f2 f3 f4 f5
     have sm:Same0 l l1 a b:=fun p hp=>k3.out p (by omega)
     rw[k1]at g6 r1
     refine⟨r,?_,r1,r2.trans k2,r3,sm.trans r4⟩
     refine K.fn' CI _ rfl ((Rl ..).trans ?_)
     rw[Cs (a:=m) (b:=a) (by omega) (by omega)]
     refine(AA (by omega)).trans ?_
     rw[Cs (a:=b) (b:=m) (by omega) (by omega)]
     refine(AA (by omega)).trans ?_
     refine(Ap (by decide)).trans ?_
     rw[Ds (a:=a) (b:=b) (by omega)]
     rw[Jn (a:=(a+b) / 2) (b:=m) (by omega),HH (a:=(a+b) / 2+m) (by omega) (by omega)]
     rw[Cs (a:=(a+b) / 2+m) (b:=b) (by omega) (by omega)]
     refine(Aq (by omega)).trans ?_
     refine(Aa g4 _).trans ?_
     simp only[Fq,ND,Ab]
     refine(Az _ _).trans ?_
     rw[e0]
     refine(Aq (by omega)).trans ?_
     refine(Aq (by omega)).trans ?_
     refine(Aa g5 _).trans ?_
     exact g6
    .obtain⟨f1,f2,f3,f4,f5⟩:=EN Pt.v C hs1 hs2 (F9 (l:=l) (.inr (by omega)) (by omega) (by omega))
     obtain⟨r,g6,r1,r2,r3,r4⟩:=Lh ih (l:=l) (a:=a) (s:=z) (mid:=(a+b) / 2) (e:=(a+b) / 2+m-z) (b:=b) (by omega) (by omega) (by omega) (by omega) (by omega) (by omega) (by omega) (by omega) f1 f2 f3 f4 f5
     refine⟨r,?_,r1,r2,r3,r4⟩
     refine K.fn' CI _ rfl ((Rl ..).trans ?_)
     rw[Cs (a:=m) (b:=a) (by omega) (by omega)]
     refine(AA (by omega)).trans ?_
     rw[Cs (a:=b) (b:=m) (by omega) (by omega)]
     refine(AA (by omega)).trans ?_
     refine(Ap (by decide)).trans ?_
     rw[Ds (a:=a) (b:=b) (by omega)]
     rw[Jn (a:=(a+b) / 2) (b:=m) (by omega),HH (a:=(a+b) / 2+m) (by omega) (by omega)]
     rw[Cs (a:=(a+b) / 2+m) (b:=b) (by omega) (by omega)]
     refine(Aq (by omega)).trans ?_
     refine(Aa g4 _).trans ?_
     simp only[Fq,ND,Ab]
     refine(Az _ _).trans ?_
     rw[e0]
     refine(Aq (by omega)).trans ?_
     refine(Ap (by omega)).trans ?_
     exact g6
   .obtain⟨f1,f2,f3,f4,f5⟩:=EN Pt.v C hs1 hs2 (F9 (l:=l) (.inl (by omega)) (by omega) (by omega))
    obtain⟨r,g6,r1,r2,r3,r4⟩:=Lh ih (l:=l) (a:=a) (s:=z) (mid:=(a+b) / 2) (e:=(a+b) / 2+m-z) (b:=b) (by omega) (by omega) (by omega) (by omega) (by omega) (by omega) (by omega) (by omega) f1 f2 f3 f4 f5
    refine⟨r,?_,r1,r2,r3,r4⟩
    refine K.fn' CI _ rfl ((Rl ..).trans ?_)
    rw[Cs (a:=m) (b:=a) (by omega) (by omega)]
    refine(AA (by omega)).trans ?_
    rw[Cs (a:=b) (b:=m) (by omega) (by omega)]
    refine(AA (by omega)).trans ?_
    refine(Ap (by decide)).trans ?_
    rw[Ds (a:=a) (b:=b) (by omega)]
    rw[Jn (a:=(a+b) / 2) (b:=m) (by omega),HH (a:=(a+b) / 2+m) (by omega) (by omega)]
    rw[Cs (a:=(a+b) / 2+m) (b:=b) (by omega) (by omega)]
    refine(Aq (by omega)).trans ?_
    refine(Aa g4 _).trans ?_
    simp only[Fq,ND,Ab]
    refine(Az _ _).trans ?_
    rw[e0]
    refine(Ap (by omega)).trans ?_
    exact g6
  .obtain⟨z,g4,B⟩:=VI K a m b ((a+b) / 2) a m l hl hb hs1 hs2 (by omega) (by omega) (by omega) (by omega) (by omega) (by omega) _ a m rfl ⟨Nat.le_refl _,by omega,Nat.le_refl _,fun c c1 c2=>by omega,fun c c1 c2=>by omega⟩
   have C:=B.cut Pt.v hs1 hs2 (by omega) (by omega) (by omega) (by omega) (.inl rfl) (.inl rfl)
   have:=C.asl;have:=C.sm;have:=C.me;have:=C.eb;have:=C.mid
   have:=B.ry;have:=B.xs
   have e0:Ao.sub .i64 (((a+b) / 2+m:Nat):Int) (z:Int)=(((a+b) / 2+m-z:Nat):Int):=Cs (by omega) (by omega)
   by_cases w1:z<m
   .by_cases w2:m<(a+b) / 2+m-z
    .obtain⟨l1,g5,k1,k2,k3⟩:=Z6 K w1 w2 (by omega) hl
     obtain⟨f1,f2,f3,f4,f5⟩:=EN Pt.v C hs1 hs2 k3
     obtain⟨r,g6,r1,r2,r3,r4⟩:=Lh ih (l:=l1) (a:=a) (s:=z) (mid:=(a+b) / 2) (e:=(a+b) / 2+m-z) (b:=b) (by omega) (by omega) (by omega) (by omega) (by omega) (by omega) (by omega) (by omega) f1 f2 f3 f4 f5
     have sm:Same0 l l1 a b:=fun p hp=>k3.out p (by omega)
     rw[k1]at g6 r1
     refine⟨r,?_,r1,r2.trans k2,r3,sm.trans r4⟩
     refine K.fn' CI _ rfl ((Rl ..).trans ?_)
     rw[Cs (a:=m) (b:=a) (by omega) (by omega)]
     refine(AA (by omega)).trans ?_
     rw[Cs (a:=b) (b:=m) (by omega) (by omega)]
     refine(AA (by omega)).trans ?_
     refine(Ap (by decide)).trans ?_
     rw[Ds (a:=a) (b:=b) (by omega)]
     rw[Jn (a:=(a+b) / 2) (b:=m) (by omega),HH (a:=(a+b) / 2+m) (by omega) (by omega)]
     refine(Ap (by omega)).trans ?_
     refine(Aa g4 _).trans ?_
     simp only[Fq,ND,Ab]
     refine(Az _ _).trans ?_
     rw[e0]
     refine(Aq (by omega)).trans ?_
     refine(Aq (by omega)).trans ?_
     refine(Aa g5 _).trans ?_
     exact g6
    .obtain⟨f1,f2,f3,f4,f5⟩:=EN Pt.v C hs1 hs2 (F9 (l:=l) (.inr (by omega)) (by omega) (by omega))
     obtain⟨r,g6,r1,r2,r3,r4⟩:=Lh ih (l:=l) (a:=a) (s:=z) (mid:=(a+b) / 2) (e:=(a+b) / 2+m-z) (b:=b) (by omega) (by omega) (by omega) (by omega) (by omega) (by omega) (by omega) (by omega) f1 f2 f3 f4 f5
     refine⟨r,?_,r1,r2,r3,r4⟩
     refine K.fn' CI _ rfl ((Rl ..).trans ?_)
     rw[Cs (a:=m) (b:=a) (by omega) (by omega)]
     refine(AA (by omega)).trans ?_
     rw[Cs (a:=b) (b:=m) (by omega) (by omega)]
     refine(AA (by omega)).trans ?_
     refine(Ap (by decide)).trans ?_
     rw[Ds (a:=a) (b:=b) (by omega)]
     rw[Jn (a:=(a+b) / 2) (b:=m) (by omega),HH (a:=(a+b) / 2+m) (by omega) (by omega)]
     refine(Ap (by omega)).trans ?_
     refine(Aa g4 _).trans ?_
     simp only[Fq,ND,Ab]
     refine(Az _ _).trans ?_
     rw[e0]
     refine(Aq (by omega)).trans ?_
     refine(Ap (by omega)).trans ?_
     exact g6
   .obtain⟨f1,f2,f3,f4,f5⟩:=EN Pt.v C hs1 hs2 (F9 (l:=l) (.inl (by omega)) (by omega) (by omega))
    obtain⟨r,g6,r1,r2,r3,r4⟩:=Lh ih (l:=l) (a:=a) (s:=z) (mid:=(a+b) / 2) (e:=(a+b) / 2+m-z) (b:=b) (by omega) (by omega) (by omega) (by omega) (by omega) (by omega) (by omega) (by omega) f1 f2 f3 f4 f5
    refine⟨r,?_,r1,r2,r3,r4⟩
    refine K.fn' CI _ rfl ((Rl ..).trans ?_)
    rw[Cs (a:=m) (b:=a) (by omega) (by omega)]
    refine(AA (by omega)).trans ?_
    rw[Cs (a:=b) (b:=m) (by omega) (by omega)]
    refine(AA (by omega)).trans ?_
    refine(Ap (by decide)).trans ?_
    rw[Ds (a:=a) (b:=b) (by omega)]
    rw[Jn (a:=(a+b) / 2) (b:=m) (by omega),HH (a:=(a+b) / 2+m) (by omega) (by omega)]
    refine(Ap (by omega)).trans ?_
    refine(Aa g4 _).trans ?_
    simp only[Fq,ND,Ab]
    refine(Az _ _).trans ?_
    rw[e0]
    refine(Ap (by omega)).trans ?_
    exact g6
theorem WI:Ms D:=fun l a m b h1 h2 h3 h4 h5 h6=>Ac6 K (b-a+1) l a m b (by omega) h1 h2 h3 h4 h5 h6
theorem Aar{l:List Pt}(hl:l.length<=1000000000) :
  ∃ r:List Pt,D.ask (.fn 152) [.sl 0 0 l.length 3,Fq] [GZ l]=some (.tup [],[.set (GZ r)])
   ∧ r.length=l.length/\r.Perm l/\Srt Pt.v r 0 r.length:=AcY K (WI K) hl
end
def fnZ:AV:=.fn (.func 157) [] []
section
variable {D:Orc} (K:Knows As Fz D)
include K
theorem AgA(P:Pt->Bool)(l:List Pt)(hl:l.length<=1000000000)(hP:∀ p∈l,D.ask (.fn 157) [.agg (eP p)] []=some (bv (P p),[])):∀(m i:Nat),l.length-i=m->i<=l.length->
  D.ask (.lp 208 0) [.sl 0 0 l.length 3,fnZ,iv (l.length:Int),iv (i:Int)] [ABlk.mk (Av eP l) true true]
   = if i+(l.drop i).findIdx P<l.length then some (.tup [bv true,.sl 0 0 l.length 3,iv ((i+(l.drop i).findIdx P:Nat):Int)],[.set (ABlk.mk (Av eP l) true true)]) else some (.tup [iv 0,.sl 0 0 l.length 3],[.set (ABlk.mk (Av eP l) true true)]):=by
 intro m
 induction m with
 |zero=>
  intro i hm hi
  rw[if_neg (by omega)]
  refine K.lp' Na _ rfl (by kernel_rfl) ((Qe ..).trans ?_)
  exact(Ap (by omega)).trans rfl
 |succ m ih=>
  intro i hm hi
  have h1:i<l.length:=by omega
  have g:=hP l[i] (List.getElem_mem h1)
  have ih':=ih (i+1) (by omega) (by omega)
  rw[List.drop_eq_getElem_cons h1,List.findIdx_cons]
  cases hp:P l[i]with
  |true=>
   rw[hp]at g
   rw[if_pos (by simpa using h1)]
   refine K.lp' Na _ rfl (by kernel_rfl) ((Qe ..).trans ?_)
   refine(Aq (by omega)).trans ?_
   rw[AN,Bb h1]
   refine(Az _ _).trans ?_
   refine(Bx AK l i h1 _).trans ?_
   simp only[eP,eN,ND,Ab]
   refine(Aa g _).trans ?_
   simp only[ND,Ab]
   rfl
  |false=>
   rw[hp]at g
   rw[show (bif false then 0 else(l.drop (i+1)).findIdx P+1)=(l.drop (i+1)).findIdx P+1 from rfl,show i+((l.drop (i+1)).findIdx P+1)=i+1+(l.drop (i+1)).findIdx P by omega]
   by_cases h:i+1+(l.drop (i+1)).findIdx P<l.length
   .rw[if_pos h]at ih' ⊢
    refine K.lp' Na _ rfl (by kernel_rfl) ((Qe ..).trans ?_)
    refine(Aq (by omega)).trans ?_
    rw[AN,Bb h1]
    refine(Az _ _).trans ?_
    refine(Bx AK l i h1 _).trans ?_
    simp only[eP,eN,ND,Ab]
    refine(Aa g _).trans ?_
    simp only[ND,Ab]
    rw[Bn (by omega)]
    refine(Aa ih' _).trans ?_
    rfl
   .rw[if_neg h]at ih' ⊢
    refine K.lp' Na _ rfl (by kernel_rfl) ((Qe ..).trans ?_)
    refine(Aq (by omega)).trans ?_
    rw[AN,Bb h1]
    refine(Az _ _).trans ?_
    refine(Bx AK l i h1 _).trans ?_
    simp only[eP,eN,ND,Ab]
    refine(Aa g _).trans ?_
    simp only[ND,Ab]
    rw[Bn (by omega)]
    refine(Aa ih' _).trans ?_
    rfl
theorem AgB(P:Pt->Bool)(l:List Pt)(hl:l.length<=1000000000)(hP:∀ p∈l,D.ask (.fn 157) [.agg (eP p)] []=some (bv (P p),[])) :
  D.ask (.fn 208) [.sl 0 0 l.length 3,fnZ] [ABlk.mk (Av eP l) true true]
   = some (iv (if l.findIdx P<l.length then(l.findIdx P:Int) else -1),[.set (ABlk.mk (Av eP l) true true)]):=by
 have g:=AgA K P l hl hP _ 0 rfl (by omega)
 rw[List.drop_zero,Nat.zero_add]at g
 refine K.fn' Na _ rfl ((Al9 ..).trans ?_)
 by_cases h:l.findIdx P<l.length
 .rw[if_pos h]at g ⊢
  refine(Aa g _).trans ?_
  rfl
 .rw[if_neg h]at g ⊢
  refine(Aa g _).trans ?_
  rfl
theorem AfX(P:Pt->Bool)(Q:Pt->Prop)(hP:∀ p,Q p->D.ask (.fn 157) [.agg (eP p)] []=some (bv (P p),[])):∀(m j i:Nat) (l:List Pt),l.length-j=m->i<=j->j<=l.length->l.length<=1000000000->(∀ p∈l.drop j,Q p)->
  ∃(r:List Pt) (c:Nat),D.ask (.lp 156 0) [.sl 0 0 l.length 3,fnZ,iv (i:Int),iv (j:Int)] [ABlk.mk (Av eP l) true true]
   = some (.tup [iv 0,.sl 0 0 l.length 3,iv (c:Int)],[.set (ABlk.mk (Av eP r) true true)])
   ∧ r.length=l.length/\c<=l.length/\r.take c=l.take i++(l.drop j).filter (fun p=>!P p):=by
 intro m
 induction m with
 |zero=>
  intro j i l hm hi hj hl hq
  refine⟨l,i,?_,rfl,by omega,?_⟩
  .refine K.lp' M8 _ rfl (by kernel_rfl) ((Tv ..).trans ?_)
   exact(Ap (by omega)).trans rfl
  .rw[List.drop_eq_nil_of_le (by omega),List.filter_nil,List.append_nil]
 |succ m ih=>
  intro j i l hm hi hj hl hq
  have h1:j<l.length:=by omega
  have h0:i<l.length:=by omega
  have ed:=List.drop_eq_getElem_cons h1
  have g:=hP l[j] (hq _ (by rw[ed];exact List.mem_cons_self ..))
  rw[ed,List.filter_cons]
  cases hp:P l[j]with
  |true=>
   rw[hp]at g
   obtain⟨r,c,g2,hr,hc,he⟩:=ih (j+1) i l (by omega) (by omega) (by omega) hl (fun p h=>hq p (by rw[ed];exact List.mem_cons_of_mem _ h))
   refine⟨r,c,?_,hr,hc,he⟩
   refine K.lp' M8 _ rfl (by kernel_rfl) ((Tv ..).trans ?_)
   refine(Aq (by omega)).trans ?_
   rw[AN,Bb h1]
   refine(Az _ _).trans ?_
   refine(Bx AK l j h1 _).trans ?_
   simp only[eP,eN,ND,Ab]
   refine(Aa g _).trans ?_
   simp only[ND,Ab]
   rw[Bn (by omega)]
   refine(Aa g2 _).trans ?_
   rfl
  |false=>
   rw[hp]at g
   have hd:(l.set i l[j]).drop (j+1)=l.drop (j+1):=List.drop_set_of_lt (by omega)
   obtain⟨r,c,g2,hr,hc,he⟩:=ih (j+1) (i+1) (l.set i l[j]) (by rw[List.length_set];omega) (by omega) (by rw[List.length_set];omega) (by rw[List.length_set];exact hl) (fun p h=>hq p (by rw[ed];rw[hd]at h;exact List.mem_cons_of_mem _ h))
   rw[List.length_set]at g2 hr hc
   have s1:=CP AK l i h0 l[j]
   simp only[eP,eN]at s1
   refine⟨r,c,?_,hr,hc,?_⟩
   .skip
    refine K.lp' M8 _ rfl (by kernel_rfl) ((Tv ..).trans ?_)
    refine(Aq (by omega)).trans ?_
    rw[AN,Bb h1]
    refine(Az _ _).trans ?_
    refine(Bx AK l j h1 _).trans ?_
    simp only[eP,eN,ND,Ab]
    refine(Aa g _).trans ?_
    simp only[ND,Ab]
    rw[AN,Bb h0]
    refine(Az _ _).trans ?_
    rw[show Nat.ble (0+i*3+3) (Av eP l).length=true by rw[By AK];simp;omega]
    refine(Az _ _).trans ?_
    rw[s1,Bn (by omega),Bn (by omega)]
    refine(Aa g2 _).trans ?_
    rfl
   .rw[he,hd,List.take_succ_eq_append_getElem (by rw[List.length_set];exact h0),List.getElem_set_self,List.take_set_of_le (Nat.le_refl _),List.append_assoc]
    rfl
omit K in
theorem MZ(P:Pt->Bool):∀ l:List Pt,l.findIdx P<l.length->l.take (l.findIdx P)++(l.drop (l.findIdx P+1)).filter (fun p=>!P p)=l.filter (fun p=>!P p)
 |[],h=>by simp at h
 |x::r,h=>by
  rw[List.findIdx_cons]at h ⊢
  cases hp:P x with
  |true=>simp[hp]
  |false=>
   rw[hp]at h
   have:=MZ P r (by simpa using h)
   simp only[cond_false,List.take_succ_cons,List.drop_succ_cons,List.filter_cons,hp,Bool.not_false,if_true,List.cons_append]
   rw[this]
omit K in
theorem Rp(P:Pt->Bool)(l:List Pt)(h:¬ l.findIdx P<l.length):l.filter (fun p=>!P p)=l:=by
 rw[List.filter_eq_self]
 intro p hp
 cases e:P p with
 |false=>rfl
 |true=>exact absurd (List.findIdx_lt_length_of_exists ⟨p,hp,e⟩) h
omit K in
theorem NN:∀(l:List Pt) (i:Nat),i<=l.length->(Av eP l).take (i*3)=Av eP (l.take i)
 |[],i,_=>by simp[Av]
 |y::r,0,_=>by simp[Av]
 |y::r,i+1,h=>by
  rw[show (i+1)*3=3+i*3 by omega]
  show (eP y++Av eP r).take (3+i*3)=eP y++Av eP (r.take i)
  rw[List.take_append,List.take_of_length_le (by rw[AK];omega),AK,show 3+i*3-3=i*3 by omega,NN r i (by simpa using h)]
theorem AfY(P:Pt->Bool)(l:List Pt)(hl:l.length<=1000000000)(hP:∀ p∈l,D.ask (.fn 157) [.agg (eP p)] []=some (bv (P p),[])) :
  ∃ cells:List AV,D.ask (.fn 156) [.sl 0 0 l.length 3,fnZ] [ABlk.mk (Av eP l) true true]
   = some (.sl 0 0 (l.filter fun p=>!P p).length 3,[.set (ABlk.mk cells true true)])
   ∧ cells.take ((l.filter fun p=>!P p).length*3)=Av eP (l.filter fun p=>!P p)/\(l.filter fun p=>!P p).length*3<=cells.length:=by
 have g:=AgB K P l hl hP
 by_cases h:l.findIdx P<l.length
 .rw[if_pos h]at g
  obtain⟨r,c,g2,hr,hc,he⟩:=AfX K P (fun p=>p∈l) hP _ (l.findIdx P+1) (l.findIdx P) l rfl (by omega) (by omega) hl (fun p hp=>List.mem_of_mem_drop hp)
  rw[MZ P l h]at he
  have hk:(l.filter fun p=>!P p).length=c:=by
   rw[←he,List.length_take]
   omega
  rw[hk,←he]
  refine⟨Ba (Av eP r) (0+c*3) (Cq [iv 0,bv false,.v (.slice none 0 0)] ((l.length-c)*3)),?_,?_,?_⟩
  .refine K.fn' M8 _ rfl ((AhY ..).trans ?_)
   refine(Aa g _).trans ?_
   simp only[ND,Ab]
   refine(AA (by omega)).trans ?_
   rw[Bn (by omega)]
   refine(Aa g2 _).trans ?_
   simp only[ND,Ab]
   rw[AN,show JG c l.length l.length=true by unfold JG;rw[Nat.ble_eq_true_of_le hc,Nat.ble_eq_true_of_le (Nat.le_refl _)]]
   refine(Az _ _).trans ?_
   rw[show Nat.ble (0+c*3+(l.length-c)*3) (Av eP r).length=true by rw[By AK];simp;omega]
   refine(Az _ _).trans ?_
   rw[AN,show JG 0 c l.length=true by unfold JG;rw[Nat.ble_eq_true_of_le (Nat.zero_le _),Nat.ble_eq_true_of_le hc]]
   rfl
  .unfold Ba
   have hlen:((Av eP r).take (0+c*3)).length=c*3:=by
    rw[List.length_take,By AK]
    omega
   rw[List.append_assoc,List.take_left' hlen,Nat.zero_add,NN r c (by omega)]
  .unfold Ba
   rw[List.length_append,List.length_append,List.length_take,By AK]
   omega
 .rw[if_neg h]at g
  rw[Rp P l h]
  refine⟨Av eP l,?_,Bl AK l rfl,by rw[By AK];exact Nat.le_refl _⟩
  refine K.fn' M8 _ rfl ((AhY ..).trans ?_)
  refine(Aa g _).trans ?_
  simp only[ND,Ab]
  exact(AQ rfl).trans rfl
end
structure PartF (D:Orc):Prop where
 clone:∀ l:List Pt,l.length<=1000000000->D.ask (.fn 151) [.ls (l.map eP)] []=some (.sl 0 0 l.length 3,[.set (GZ l)])
 grow:∀ n:Nat,n<=1000000000->D.ask (.fn 263) [.v (.slice none 0 0),iv (n:Int)] []=some (.sl 0 0 0 3,[.set (GZ [])])
section
variable (o:List Pt) (x:Pt)
theorem AkR(k:List AV->KR):IA (Av eP (o++[x])) (0+o.length*3+0) 1 k=k [iv x.v]:=by
 have hl:=By AK o
 rw[←Bm]
 unfold IA
 rw[show Nat.ble (0+o.length*3+0+1) (Av eP o++eP x).length=true by rw[List.length_append,hl,AK];simp<;>omega]
 show k (((Av eP o++eP x).drop (0+o.length*3+0)).take 1)=_
 rw[List.drop_left' (by omega)]
 rfl
theorem AnK(k:List AV->KR):IA (Av eP (o++[x])) (0+o.length*3+1) 2 k=k [bv x.z.neg,eN x.z.abs]:=by
 have hl:=By AK o
 rw[←Bm]
 unfold IA
 rw[show Nat.ble (0+o.length*3+1+2) (Av eP o++eP x).length=true by rw[List.length_append,hl,AK];simp]
 show k (((Av eP o++eP x).drop (0+o.length*3+1)).take 2)=_
 rw[List.drop_append,List.drop_of_length_le (by omega),show 0+o.length*3+1-(Av eP o).length=1 by omega]
 rfl
theorem AnO(z:Zi):Ba (Av eP (o++[x])) (0+o.length*3+1) [bv z.neg,eN z.abs]=Av eP (o++[⟨x.v,z⟩]):=by
 have hl:=By AK o
 rw[←Bm,←Bm]
 unfold Ba
 rw[List.take_append,List.take_of_length_le (by omega),show 0+o.length*3+1-(Av eP o).length=1 by omega,List.drop_of_length_le (by rw[List.length_append,AK,hl];simp),List.append_nil,List.append_assoc]
 rfl
end
section
variable {D:Orc} (Kt:Knows As J7 D) (Ks:Knows As Fz D) (Z:ZF D) (C:PartF D)
include Z
include Kt in
theorem Gr{z:Zi}(hz:Lz 1000000000 z):D.ask (.fn 155) [.agg (eZ z)] []=some (.agg (eZ (AS (zv z))),[]):=by
 refine Kt.fn' Ad5 _ rfl ((AlL ..).trans ?_)
 refine(Aa (Z.frm z hz) _).trans ?_
 rfl
include Ks in
theorem WA{p:Pt}(hz:Lz 1000000000 p.z):D.ask (.fn 157) [.agg (eP p)] []=some (bv (decide (zv p.z=0)),[]):=by
 have g:=Z.sign p.z hz
 refine Ks.fn' Ad6 _ rfl ((AlM ..).trans ?_)
 refine(Aa g _).trans ?_
 simp only[ND,Ab]
 by_cases h:zv p.z=0
 .rw[decide_eq_true h,h]
  exact AQ rfl
 .rw[decide_eq_false h]
  refine AA ?_
  unfold CD
  split
  .omega
  .split
   .omega
   .omega
include Kt in
theorem ZT{k:Nat}(ps:List Pt)(hl:ps.length<=1000000)(hk:k+ps.length<=900000000)(hz:∀ p∈ps,Lz k p.z)(r0:List (List AV))(r1:Bool)(r2:List (List AV))(k1:Bool)(k2:List (List AV)):∀(m i:Nat) (s:List (Int × Int)),ps.length-i=m->i<=ps.length->s.length<=i->(∀ q∈s,InB (k+i) q.2)->
  D.ask (.lp 89 0) [.ptr 0 0,.ptr 1 0,.ls (ps.map eP),iv (ps.length:Int),iv (i:Int)] [⟨[.ls r0,bv r1,.ls r2],true,false⟩,⟨[.sl 2 0 (s.map Bk).reverse.length 3,bv k1,.ls k2],true,false⟩,GZ (s.map Bk).reverse]
   = some (.tup [iv 0,.ptr 0 0,.ptr 1 0],[.set ⟨[.ls r0,bv r1,.ls r2],true,false⟩,.set ⟨[.sl 3 0 ((((ps.drop i).map pv).foldl FJ s).map Bk).reverse.length 3,bv k1,.ls k2],true,false⟩,.del,.set (GZ ((((ps.drop i).map pv).foldl FJ s).map Bk).reverse)]):=by
 intro m
 induction m with
 |zero=>
  intro i s hm hi hs hb
  rw[List.drop_eq_nil_of_le (by omega),List.map_nil,List.foldl_nil]
  refine Kt.lp' Y6 _ rfl (by kernel_rfl) ((AdG ..).trans ?_)
  exact(Ap (by omega)).trans rfl
 |succ m ih0=>
  intro i s hm hi hs hb
  have h1:i<ps.length:=by omega
  have hzk:=hz ps[i] (List.getElem_mem h1)
  have hzi:=hzk.mono (show k<=1000000000 by omega)
  rw[List.drop_eq_getElem_cons h1,List.map_cons,List.foldl_cons]
  have ih:=ih0 (i+1) (FJ s (pv ps[i])) (by omega) (by omega) (by have:=Ry s (pv ps[i]);omega) (Rx hb (hzk.inb.mono (show k<=k+i by omega)))
  refine Kt.lp' Y6 _ rfl (by kernel_rfl) ((AdG ..).trans ?_)
  refine(Aq (by omega)).trans ?_
  rw[AN,AO (List.getElem?_eq_getElem h1)]
  simp only[eP,eN,ND,Ab]
  generalize hS:((ps.drop (i+1)).map pv).foldl FJ (FJ s (pv ps[i]))=S at ih ⊢
  by_cases hneg:ps[i].v<0
  .have e:FJ s (pv ps[i])=s:=by
    have hn:(pv ps[i]).1<0:=hneg
    cases s with
    |nil=>rw[FT,if_pos hn]
    |cons q r=>rw[EP,if_pos hn]
   rw[e]at ih
   refine(Aq hneg).trans ?_
   rw[Bn (by omega)]
   refine(Aa ih _).trans ?_
   rfl
  have hn:¬(pv ps[i]).1<0:=hneg
  refine(Ap hneg).trans ?_
  cases s with
  |nil=>
   rw[FT,if_neg hn]at ih
   refine(C4 (by decide)).trans ?_
   obtain⟨o,ho0⟩:∃ o:List Pt,o=[]:=⟨_,rfl⟩
   have eo:(([pv ps[i]].map Bk).reverse)=o++[Bk (pv ps[i])]:=by rw[ho0];rfl
   rw[eo]at ih
   have ho:o.length<=i:=by rw[ho0];exact Nat.zero_le _
   rw[show ((([]:List (Int × Int)).map Bk).reverse)=o from ho0.symm]
   have hf:Bu (o.length+1) 40=true:=A4 (by omega) (by omega)
   have hb1:Nat.ble (0+o.length*3) (Av eP o).length=true:=Bg AK o (by omega)
   have e3:List.drop 0 (List.take (0+o.length*3) (Av eP o))++[iv ps[i].v,bv (AS (zv ps[i].z)).neg,eN (AS (zv ps[i].z)).abs]=Av eP (o++[Bk (pv ps[i])]):=by
    rw[List.drop_zero,Bl AK o (by omega)]
    exact Bm eP o (Bk (pv ps[i]))
   refine(Aa (Gr Kt Z hzi) _).trans ?_
   simp only[eZ,eN,ND,Ab]at e3 ⊢
   rw[hf]
   refine(Az _ _).trans ?_
   rw[hb1]
   refine(Az _ _).trans ?_
   rw[e3,Bn (by omega)]
   rw[List.length_append,List.length_singleton]at ih
   refine(Aa ih _).trans ?_
   rfl
  |cons q r=>
   have eo:(((q::r).map Bk).reverse)=(r.map Bk).reverse++[Bk q]:=by simp
   have hq:=hb q (List.mem_cons_self ..)
   rw[eo]
   rw[EP,if_neg hn]at ih
   have hro:(r.map Bk).reverse.length<=i:=by simp at hs ⊢;omega
   by_cases heq:q.1=(pv ps[i]).1
   .rw[if_pos heq,List.map_cons,List.reverse_cons]at ih
    generalize (r.map Bk).reverse=o at hro ih ⊢
    have e1:Ao.sub .i64 (((o++[Bk q]).length:Nat):Int) 1=((o.length:Nat):Int):=by
     rw[List.length_append,List.length_singleton]
     exact SG (by omega)
    have hlt:o.length<(o++[Bk q]).length:=by simp
    have ga:=Z.add (AS q.2) ps[i].z (hq.lz.mono (by omega)) (hzk.mono (by omega))
    rw[AJ]at ga
    have sp:=AnO o (Bk q) (AS (q.2+zv ps[i].z))
    rw[e1]
    refine(CN (by omega)).trans ?_
    rw[AN,Bb hlt]
    refine(Az _ _).trans ?_
    refine(AkR o (Bk q) _).trans ?_
    simp only[ND,Ab]
    refine(AQ (show (Bk q).v=ps[i].v from heq)).trans ?_
    rw[AN,Bb hlt]
    refine(Az _ _).trans ?_
    refine(AnK o (Bk q) _).trans ?_
    simp only[eN,ND,Ab]
    refine(Aa ga _).trans ?_
    simp only[eZ,eN,ND,Ab]at sp ⊢
    rw[AN,Bb hlt]
    refine(Az _ _).trans ?_
    rw[show Nat.ble (0+o.length*3+1+2) (Av eP (o++[Bk q])).length=true by rw[By AK];simp;omega]
    refine(Az _ _).trans ?_
    rw[sp,Bn (by omega)]
    have el:(o++[Bk q]).length=(o++[Bk (q.1,q.2+(pv ps[i]).2)]).length:=by simp
    rw[el]
    refine(Aa ih _).trans ?_
    rfl
   .rw[if_neg heq,List.map_cons,List.reverse_cons,eo]at ih
    have hlen:((r.map Bk).reverse++[Bk q]).length<=i:=by simp at hs ⊢;omega
    have e1:Ao.sub .i64 ((((r.map Bk).reverse++[Bk q]).length:Nat):Int) 1=(((r.map Bk).reverse.length:Nat):Int):=by
     rw[List.length_append,List.length_singleton]
     exact SG (by omega)
    have hlt:(r.map Bk).reverse.length<((r.map Bk).reverse++[Bk q]).length:=by simp
    rw[e1]
    refine(CN (by omega)).trans ?_
    rw[AN,Bb hlt]
    refine(Az _ _).trans ?_
    refine(AkR _ (Bk q) _).trans ?_
    simp only[ND,Ab]
    refine(AA (show ¬(Bk q).v=ps[i].v from heq)).trans ?_
    generalize (r.map Bk).reverse++[Bk q]=o at hlen ih ⊢
    have ho:=hlen
    have hf:Bu (o.length+1) 40=true:=A4 (by omega) (by omega)
    have hb1:Nat.ble (0+o.length*3) (Av eP o).length=true:=Bg AK o (by omega)
    have e3:List.drop 0 (List.take (0+o.length*3) (Av eP o))++[iv ps[i].v,bv (AS (zv ps[i].z)).neg,eN (AS (zv ps[i].z)).abs]=Av eP (o++[Bk (pv ps[i])]):=by
     rw[List.drop_zero,Bl AK o (by omega)]
     exact Bm eP o (Bk (pv ps[i]))
    refine(Aa (Gr Kt Z hzi) _).trans ?_
    simp only[eZ,eN,ND,Ab]at e3 ⊢
    rw[hf]
    refine(Az _ _).trans ?_
    rw[hb1]
    refine(Az _ _).trans ?_
    rw[e3,Bn (by omega)]
    rw[List.length_append,List.length_singleton]at ih
    refine(Aa ih _).trans ?_
    rfl
include Kt Ks C in
theorem F5{n k:Nat}{t:Tm}(h:TmB n k t)(hn:n<=1000000)(hk:k+n<=900000000):D.ask (.fn 89) [.agg (eT t)] []=some (.agg (eT t.lf.pln.tm),[]):=by
 obtain⟨ps,kz⟩:=t
 have hlen:ps.length<=n:=h.len
 obtain⟨r,gs,gr,gp,go⟩:=Aar Ks (l:=ps) (by omega)
 have gc:=C.clone ps (by omega)
 have gk:=Gr Kt Z (h.k.mono (show k<=1000000000 by omega))
 have hzr:∀ p∈r,Lz k p.z:=fun p hp=>h.ps p (gp.mem_iff.1 hp)
 have gl:=ZT Kt Z r (k:=k) (by omega) (by omega) hzr [] false [] (AS (zv kz)).neg ((AS (zv kz)).abs.map eL) _ 0 [] rfl (by omega) (by simp) (by simp)
 rw[List.drop_zero]at gl
 have hsrt:(r.map pv).Pairwise fun a b=>a.1<=b.1:=by
  rw[List.pairwise_map]
  exact QN Pt.v go
 have hpl:=AbP hsrt (gp.map pv)
 generalize hS:(r.map pv).foldl FJ []=S at gl hpl
 have hsb:∀ p∈((S.map Bk).reverse),Lz 1000000000 p.z:=by
  have key:∀(t s:List (Int × Int)) (j:Nat),(∀ q∈s,InB (k+j) q.2)->(∀ q∈t,InB k q.2)->∀ q∈t.foldl FJ s,InB (k+j+t.length) q.2:=by
   intro t
   induction t with
   |nil=>intro s j hs _ q hq;exact hs q hq
   |cons p t ih=>
    intro s j hs ht q hq
    have:=ih (FJ s p) (j+1) (Rx hs ((ht p (List.mem_cons_self ..)).mono (show k<=k+j by omega))) (fun q hq=>ht q (List.mem_cons_of_mem _ hq)) q hq
    rw[List.length_cons]
    exact this.mono (by omega)
  intro p hp
  rw[List.mem_reverse,List.mem_map]at hp
  obtain⟨q,hq,rfl⟩:=hp
  have:=key (r.map pv) [] 0 (by simp) (fun q hq=>by
   rw[List.mem_map]at hq
   obtain⟨p,hp,rfl⟩:=hq
   exact(hzr p hp).inb) q (by rw[hS];exact hq)
  rw[List.length_map]at this
  exact(this.lz).mono (by omega)
 have hSl:S.length<=1000000:=by
  have key:∀(t s:List (Int × Int)),(t.foldl FJ s).length<=s.length+t.length:=by
   intro t
   induction t with
   |nil=>intro s;simp
   |cons p t ih=>
    intro s
    have:=ih (FJ s p)
    have h2:=Ry s p
    rw[List.foldl_cons,List.length_cons]
    omega
  have:=key (r.map pv) []
  rw[hS,List.length_map]at this
  simp at this
  omega
 obtain⟨cells,gd,gt,gle⟩:=AfY Ks (fun p=>decide (zv p.z=0)) (S.map Bk).reverse (by simp;omega) fun p hp=>WA Ks Z (hsb p hp)
 have hfin:((S.map Bk).reverse).filter (fun p=>!decide (zv p.z=0))=(DA (ps.map pv)).map Bk:=by
  rw[←hpl,←List.map_reverse,List.filter_map]
  congr 1
  refine List.filter_congr fun q _=>?_
  show (!decide (zv (AS q.2)=0))=_
  rw[AJ]
 rw[hfin]at gd gt gle
 refine Kt.fn' Y6 _ rfl ((e89 ..).trans ?_)
 refine(Aa gc _).trans ?_
 simp only[ND,Ab]
 refine(Aa gs _).trans ?_
 simp only[ND,Ab]
 refine(Aa gk _).trans ?_
 simp only[eZ,eN,ND,Ab]
 rw[show Nat.ble (0+ps.length*3) (Av eP r).length=true from Bg AK r (by omega)]
 refine(Az _ _).trans ?_
 rw[C5 AK r (by omega),←gr]
 refine(Aa gl _).trans ?_
 simp only[ND,Ab]
 refine(Aa gd _).trans ?_
 simp only[ND,Ab]
 rw[show Nat.ble (0+((DA (ps.map pv)).map Bk).length*3) cells.length=true by simp;simp at gle;omega]
 refine(Az _ _).trans ?_
 rw[gt,CW AK]
 rfl
end
def eR(r:List Pt):List AV:=[.ls (r.map eP)]
theorem ZL(p:Pt):JP (eP p)=true:=rfl
def scP(x:Zi)(p:Pt):Pt:=⟨p.v,AS (zv p.z*zv x)⟩
theorem AfF{a b:Nat}(h:a+b<4611686018427387904):Ao.add .i64 (a:Int) (b:Int)=((a+b:Nat):Int):=by
 rw[GW (by omega) (by omega)]
 omega
section
variable {D:Orc} (Kt:Knows As J7 D) (Kf:Knows As LO D) (Ks:Knows As Fz D) (Z:ZF D) (C:PartF D)
include Kf
theorem AfS(rs:List (List Pt))(X:List (List AV))(hr:rs.length<=1000000):∀(m i s:Nat),rs.length-i=m->i<=rs.length->s+(rs.drop i).flatten.length<=1000000000->
  D.ask (.lp 250 0) [.ls X,iv (s:Int),.ls (rs.map eR),iv (rs.length:Int),iv (i:Int)] []=some (.tup [iv 0,.ls X,iv ((s+(rs.drop i).flatten.length:Nat):Int)],[]):=by
 intro m
 induction m with
 |zero=>
  intro i s hm hi hs
  rw[List.drop_eq_nil_of_le (by omega)]
  refine Kf.lp' Lw _ rfl (by kernel_rfl) ((YC ..).trans ?_)
  exact(Ap (by omega)).trans rfl
 |succ m ih=>
  intro i s hm hi hs
  have h1:i<rs.length:=by omega
  rw[List.drop_eq_getElem_cons h1,List.flatten_cons,List.length_append]at hs ⊢
  have ih:=ih (i+1) (s+rs[i].length) (by omega) (by omega) (by omega)
  rw[show s+rs[i].length+(rs.drop (i+1)).flatten.length=s+(rs[i].length+(rs.drop (i+1)).flatten.length) by omega]at ih
  refine Kf.lp' Lw _ rfl (by kernel_rfl) ((YC ..).trans ?_)
  refine(Aq (by omega)).trans ?_
  rw[AN,AO (List.getElem?_eq_getElem h1)]
  simp only[eR,ND,Ab]
  rw[Ax,AfF (by omega),Bn (by omega)]
  refine(Ap (by omega)).trans ?_
  refine(Aa ih _).trans ?_
  rfl
theorem AfT(rs:List (List Pt))(hr:rs.length<=1000000):∀(m i:Nat) (out:List Pt),rs.length-i=m->i<=rs.length->out.length+(rs.drop i).flatten.length<=1000000000->
  D.ask (.lp 250 1) [.sl 0 0 out.length 3,.ls (rs.map eR),iv (rs.length:Int),iv (i:Int)] [GZ out]=some (.tup [iv 2,.sl 1 0 (out++(rs.drop i).flatten).length 3],[.del,.set (GZ (out++(rs.drop i).flatten))]):=by
 intro m
 induction m with
 |zero=>
  intro i out hm hi hs
  rw[List.drop_eq_nil_of_le (by omega),List.flatten_nil,List.append_nil]
  refine Kf.lp' Lw _ rfl (by kernel_rfl) ((YD ..).trans ?_)
  exact(Ap (by omega)).trans rfl
 |succ m ih=>
  intro i out hm hi hs
  have h1:i<rs.length:=by omega
  rw[List.drop_eq_getElem_cons h1,List.flatten_cons]at hs ⊢
  rw[List.length_append]at hs
  have ih:=ih (i+1) (out++rs[i]) (by omega) (by omega) (by rw[List.length_append];omega)
  rw[List.append_assoc]at ih
  refine Kf.lp' Lw _ rfl (by kernel_rfl) ((YD ..).trans ?_)
  refine(Aq (by omega)).trans ?_
  rw[AN,AO (List.getElem?_eq_getElem h1)]
  revert hs ih
  generalize rs[i]=r
  intro hs ih
  simp only[eR,ND,Ab]
  rw[Iy AK,Ax,Bn (by omega)]
  refine(Az _ _).trans ?_
  by_cases h0:r=[]
  .subst h0
   rw[List.append_nil]at ih
   rw[List.nil_append]at ih ⊢
   refine(Az _ _).trans ?_
   refine(Aa ih _).trans ?_
   rfl
  .have hz:Nat.beq r.length 0=false:=by
    cases r with
    |nil=>exact absurd rfl h0
    |cons x r=>rfl
   rw[hz]
   refine(CM _ _).trans ?_
   rw[EX,JQ ZL]
   refine(Az _ _).trans ?_
   rw[A4 (n:=out.length+r.length) (b:=40) (by omega) (by omega)]
   refine(Az _ _).trans ?_
   rw[show Nat.ble (0+out.length*3) (Av eP out).length=true from Bg AK out (by omega)]
   refine(Az _ _).trans ?_
   have e3:List.drop 0 (List.take (0+out.length*3) (Av eP out))++Av eP r=Av eP (out++r):=by
    rw[List.drop_zero,Bl AK out (by omega)]
    simp[Av]
   rw[e3]
   rw[show (out++r).length=out.length+r.length from List.length_append]at ih
   refine(Aa ih _).trans ?_
   rfl
include C in
theorem Wc(a b:List Pt)(h:a.length+b.length<=1000000):D.ask (.fn 250) [.ls [[.ls (a.map eP)],[.ls (b.map eP)]]] []=some (.ls ((a++b).map eP),[]):=by
 have hf:([a,b]).flatten=a++b:=by simp
 have g0:=AfS Kf [a,b] (([a,b]).map eR) (by simp) _ 0 0 rfl (by simp) (by rw[List.drop_zero,hf,List.length_append];omega)
 rw[List.drop_zero,hf,Nat.zero_add]at g0
 have gg:=C.grow (a++b).length (by rw[List.length_append];omega)
 have g1:=AfT Kf [a,b] (by simp) _ 0 [] rfl (by simp) (by rw[List.drop_zero,hf,List.length_append];simp;omega)
 rw[List.drop_zero,hf,List.nil_append]at g1
 refine Kf.fn' Lw _ rfl ((Amm ..).trans ?_)
 refine(Aa g0 _).trans ?_
 simp only[ND,Ab]
 refine(Aa gg _).trans ?_
 simp only[ND,Ab]
 refine(Aa g1 _).trans ?_
 simp only[ND,Ab]
 rw[show Nat.ble (0+(a++b).length*3) (Av eP (a++b)).length=true from Bg AK (a++b) (by omega)]
 refine(Az _ _).trans ?_
 rw[C5 AK (a++b) rfl]
 rfl
include Kt Ks Z C
theorem AfG{n m k:Nat}{a b:Tm}(ha:TmB n k a)(hb:TmB m k b)(hn:n+m<=1000000)(hk:k+1+(n+m)<=900000000):D.ask (.fn 223) [.agg (eT a),.agg (eT b)] []=some (.agg (eT (a.lf.add b.lf).tm),[]):=by
 obtain⟨ap,ak⟩:=a
 obtain⟨bp,bk⟩:=b
 have l1:ap.length<=n:=ha.len
 have l2:bp.length<=m:=hb.len
 have gc:=Wc Kf C ap bp (by omega)
 have ga:=Z.add ak bk (ha.k.mono (by omega)) (hb.k.mono (by omega))
 have hT:TmB (n+m) (k+1) ⟨ap++bp,AS (zv ak+zv bk)⟩:=by
  refine⟨by simp;omega,fun p hp=>?_,?_⟩
  .rcases List.mem_append.1 hp with h|h
   .exact(ha.ps p h).mono (by omega)
   .exact(hb.ps p h).mono (by omega)
  .exact(InB.add ha.k.inb hb.k.inb).lz
 have gp:=F5 Kt Ks Z C hT hn (by omega)
 have el:(⟨ap++bp,AS (zv ak+zv bk)⟩:Tm).lf.pln=Lf.add (Tm.lf ⟨ap,ak⟩) (Tm.lf ⟨bp,bk⟩):=by
  unfold Lf.add Tm.lf
  simp only[List.map_append,AJ]
 rw[el]at gp
 refine Kf.fn' Ael _ rfl ((Amd ..).trans ?_)
 refine(Aa gc _).trans ?_
 simp only[ND,Ab]
 refine(Aa ga _).trans ?_
 simp only[eZ,eN,ND,Ab]
 refine(Aa gp _).trans ?_
 rfl
omit Kt Ks C in
theorem Aah{k j:Nat}{x:Zi}(hx:Lz j x)(hx24:x.abs.length<24)(ps:List Pt)(hl:ps.length<=1000000)(hz:∀ p∈ps,Lz k p.z)(hk:k<=400000000)(hj:j<=400000000)(r0:List (List AV))(r1:Bool)(r2:List (List AV))(k1:Bool)(k2:List (List AV)):∀(m i:Nat) (out:List Pt),ps.length-i=m->i<=ps.length->out.length<=i->
  D.ask (.lp 251 0) [.ptr 0 0,.ptr 1 0,.ptr 2 0,.ls (ps.map eP),iv (ps.length:Int),iv (i:Int)] [⟨eZ x,true,false⟩,⟨[.ls r0,bv r1,.ls r2],true,false⟩,⟨[.sl 3 0 out.length 3,bv k1,.ls k2],true,false⟩,GZ out]
   = some (.tup [iv 0,.ptr 1 0,.ptr 2 0],[.del,.set ⟨[.ls r0,bv r1,.ls r2],true,false⟩,.set ⟨[.sl 4 0 (out++(ps.drop i).map (scP x)).length 3,bv k1,.ls k2],true,false⟩,.del,.set (GZ (out++(ps.drop i).map (scP x)))]):=by
 intro m
 induction m with
 |zero=>
  intro i out hm hi ho
  rw[List.drop_eq_nil_of_le (by omega),List.map_nil,List.append_nil]
  refine Kf.lp' RR _ rfl (by kernel_rfl) ((YE ..).trans ?_)
  exact(Ap (by omega)).trans rfl
 |succ m ih=>
  intro i out hm hi ho
  have h1:i<ps.length:=by omega
  have hzk:=hz ps[i] (List.getElem_mem h1)
  have gm:=Z.mul ps[i].z x (hzk.mono (by omega)) (hx.mono (by omega)) (.inr hx24)
  rw[List.drop_eq_getElem_cons h1,List.map_cons]
  have ih:=ih (i+1) (out++[scP x ps[i]]) (by omega) (by omega) (by simp;omega)
  rw[List.append_assoc,List.singleton_append,show (out++[scP x ps[i]]).length=out.length+1 by simp]at ih
  have hf:Bu (out.length+1) 40=true:=A4 (by omega) (by omega)
  have hb1:Nat.ble (0+out.length*3) (Av eP out).length=true:=Bg AK out (by omega)
  have e3:List.drop 0 (List.take (0+out.length*3) (Av eP out))++[iv ps[i].v,bv (AS (zv ps[i].z*zv x)).neg,eN (AS (zv ps[i].z*zv x)).abs]=Av eP (out++[scP x ps[i]]):=by
   rw[List.drop_zero,Bl AK out (by omega)]
   exact Bm eP out (scP x ps[i])
  obtain⟨xn,xa⟩:=x
  refine Kf.lp' RR _ rfl (by kernel_rfl) ((YE ..).trans ?_)
  refine(Aq (by omega)).trans ?_
  rw[AN,AO (List.getElem?_eq_getElem h1)]
  simp only[eP,eN,ND,Ab]
  refine(Aa gm _).trans ?_
  simp only[eZ,eN,ND,Ab]at e3 ⊢
  rw[hf]
  refine(Az _ _).trans ?_
  rw[hb1]
  refine(Az _ _).trans ?_
  rw[e3,Bn (by omega)]
  refine(Aa ih _).trans ?_
  rfl
theorem Aai{n k j:Nat}{a:Tm}{x:Zi}(ha:TmB n k a)(hx:Lz j x)(hx24:x.abs.length<24)(hn:n<=1000000)(hj:j<=23)(hk:k+j+n<=400000000):D.ask (.fn 251) [.agg (eT a),.agg (eZ x)] []=some (.agg (eT (a.lf.scale (zv x)).tm),[]):=by
 obtain⟨ap,ak⟩:=a
 have l1:ap.length<=n:=ha.len
 have gm:=Z.mul ak x (ha.k.mono (by omega)) (hx.mono (by omega)) (.inr hx24)
 have gl:=Aah Kf Z hx hx24 ap (by omega) ha.ps (by omega) (by omega) [] false [] (AS (zv ak*zv x)).neg ((AS (zv ak*zv x)).abs.map eL) _ 0 [] rfl (by omega) (by simp)
 rw[List.drop_zero,List.nil_append]at gl
 have hT:TmB n (k+j) ⟨ap.map (scP x),AS (zv ak*zv x)⟩:=by
  refine⟨by simpa using l1,fun p hp=>?_,(InB.mul ha.k.inb hx.inb).lz⟩
  rw[List.mem_map]at hp
  obtain⟨q,hq,rfl⟩:=hp
  exact(InB.mul (ha.ps q hq).inb hx.inb).lz
 have gp:=F5 Kt Ks Z C hT hn (by omega)
 have el:(⟨ap.map (scP x),AS (zv ak*zv x)⟩:Tm).lf.pln=Lf.scale (Tm.lf ⟨ap,ak⟩) (zv x):=by
  unfold Lf.scale Tm.lf
  simp only[List.map_map,AJ]
  congr 2
  refine List.map_congr_left fun p _=>?_
  show ((p.v,zv (AS (zv p.z*zv x))):Int × Int)=_
  rw[AJ]
  rfl
 rw[el]at gp
 obtain⟨xn,xa⟩:=x
 refine Kf.fn' RR _ rfl ((Amn ..).trans ?_)
 refine(Aa gm _).trans ?_
 simp only[eZ,eN,ND,Ab,Ax]
 refine(Aa gl _).trans ?_
 simp only[ND,Ab]
 rw[show Nat.ble (0+(ap.map (scP ⟨xn,xa⟩)).length*3) (Av eP (ap.map (scP ⟨xn,xa⟩))).length=true from Bg AK _ (by omega)]
 refine(Az _ _).trans ?_
 rw[C5 AK _ rfl]
 refine(Aa gp _).trans ?_
 rfl
theorem Aha{n k:Nat}{a:Tm}(ha:TmB n k a)(hn:n<=1000000)(hk:k+1+n<=400000000):D.ask (.fn 224) [.agg (eT a)] []=some (.agg (eT (a.lf.scale (-1)).tm),[]):=by
 have g1:=Z.of_ (-1) (by omega) (by omega)
 have hx:Lz 1 (AS (-1)):=InB.lz (by unfold InB;decide)
 have g2:=Aai Kt Kf Ks Z C ha hx (by have:=hx.len;omega) hn (by omega) hk
 rw[AJ]at g2
 refine Kf.fn' Aem _ rfl ((Ame ..).trans ?_)
 refine(Aa g1 _).trans ?_
 simp only[eZ,eN,ND,Ab]
 refine(Aa g2 _).trans ?_
 rfl
theorem Aas{n m k:Nat}{a b:Tm}(ha:TmB n k a)(hb:TmB m k b)(hn:n+m<=1000000)(hk:k+2+2*(n+m)<=400000000):D.ask (.fn 173) [.agg (eT a),.agg (eT b)] []=some (.agg (eT (a.lf.sub b.lf).tm),[]):=by
 have g1:=Aha Kt Kf Ks Z C hb (by omega) (by omega)
 have hn1:LB m (k+1+m) (b.lf.scale (-1)):=hb.lb.scale (by unfold InB;decide)
 have g2:=AfG Kt Kf Ks Z C (ha.mono (Nat.le_refl _) (show k<=k+1+m by omega)) hn1.tb hn (by omega)
 rw[Ge]at g2
 refine Kf.fn' Aeb _ rfl ((AlR ..).trans ?_)
 refine(Aa g1 _).trans ?_
 simp only[eT,eN,ND,Ab]
 refine(Aa g2 _).trans ?_
 rfl
omit Ks C in
theorem WR{z:Zi}(hz:Lz 1000000000 z):D.ask (.fn 170) [.agg (eZ z)] []=some (.agg (eT (Lf.num (zv z)).tm),[]):=by
 have g:=Gr Kt Z hz
 refine Kf.fn' Ad8 _ rfl ((AlO ..).trans ?_)
 refine(Aa g _).trans ?_
 rfl
theorem Adt{n k:Nat}{t:Tm}(h:TmB n k t)(hn:n<=1000000)(hk:k+n<=900000000):D.ask (.fn 172) [.agg (eT t)] []=some (.agg (eT t.lf.pln.tm++[bv true]),[]):=by
 have g:=F5 Kt Ks Z C h hn hk
 refine Kf.fn' Aea _ rfl ((AlQ ..).trans ?_)
 refine(Aa g _).trans ?_
 rfl
theorem R6{n k:Nat}{t:Tm}(h:TmB n k t)(hn:n<=1000000)(hk:k+n<=900000000):D.ask (.fn 174) [.agg (eT t)] []=some (.agg (eT t.lf.pln.tm++[bv false]),[]):=by
 have g:=F5 Kt Ks Z C h hn hk
 refine Kf.fn' Aec _ rfl ((AlS ..).trans ?_)
 refine(Aa g _).trans ?_
 rfl
end
theorem FX(k:Int)(t:Tm)(e:Bool)(ks:List Fm):IK (.mk k t e ks)=if k=4\/k=5 then ks else if k=3 then ks.take 1 else []:=rfl
theorem KX{k:Int}{t:Tm}{e:Bool}{ks:List Fm}{x:Fm}(hx:x∈IK (.mk k t e ks)):x∈ks:=by
 rw[FX]at hx
 split at hx
 .exact hx
 .split at hx
  .exact List.mem_of_mem_take hx
  .cases hx
theorem KW(k:Int)(t:Tm)(e:Bool)(ks:List Fm):(IK (.mk k t e ks)).length<=ks.length:=by
 rw[FX]
 split
 .exact Nat.le_refl _
 .split
  .simp;omega
  .simp
theorem FH(x:Fm):(eF x).length=6:=by
 obtain⟨k,t,e,ks⟩:=x
 rw[eF]
 rfl
inductive FB (n k:Nat):Fm->Prop
 |mk {kind:Int} {t:Tm} {e:Bool} {ks:List Fm} (ht:TmB n k t) (hl:ks.length<=1000000) (h:∀ x∈ks,FB n k x):FB n k (.mk kind t e ks)
theorem LB.sub{n m k:Nat}{a b:Lf}(ha:LB n k a)(hb:LB m k b):LB (n+m) (2*k+2+2*(n+m)) (a.sub b):=by
 have h1:LB m (k+1+m) (b.scale (-1)):=hb.scale (by unfold InB;decide)
 exact(ha.add h1).mono (Nat.le_refl _) (by omega)
theorem JH{k:Int}{t:Tm}{e:Bool}{ks:List Fm}{x:Fm}(h:x∈ks):SizeOf.sizeOf x<SizeOf.sizeOf (Fm.mk k t e ks):=by
 have:=List.sizeOf_lt_of_mem h
 simp only[Fm.mk.sizeOf_spec]
 omega
section
variable {D:Orc} (Kt:Knows As J7 D) (Kf:Knows As LO D) (Ks:Knows As Fz D) (Z:ZF D) (C:PartF D) (Ko:Knows As NX D)
include Ko
theorem Gf(b:Bool):D.ask (.fn 64) [bv b] []=some (.agg (eF (N4 b)),[]):=by
 refine Ko.fn' Aij _ rfl ((e64 ..).trans ?_)
 cases b<;>rfl
include Kt Ks Z C in
theorem Ku{n k:Nat}{t:Tm}(h:TmB n k t)(hn:n<=1000000)(hk:k+n<=900000000)(e:Bool):D.ask (.fn 171) [.agg [.ls (t.ps.map eP),bv t.k.neg,eN t.k.abs,bv e]] []=some (.agg (eF (D1 t.lf.pln e)),[]):=by
 have g:=F5 Kt Ks Z C h hn hk
 obtain⟨ps,kz⟩:=t
 have g2:D.ask (.fn 222) [.agg [.ls (ps.map eP),bv kz.neg,eN kz.abs,bv e]] []=some (.agg (eT (Tm.lf ⟨ps,kz⟩).pln.tm++[bv e]),[]):=by
  refine Ko.fn' Aek _ rfl ((Amc ..).trans ?_)
  refine(Aa g _).trans ?_
  rfl
 refine Ko.fn' Ad9 _ rfl ((AlP ..).trans ?_)
 refine(Aa g2 _).trans ?_
 rfl
theorem Qp(x:Fm)(hl:x.kids.length<=1000000):D.ask (.fn 225) [.agg (eF x)] []=some (.ls ((IK x).map eF),[]):=by
 obtain⟨k,t,e,ks⟩:=x
 have hl:ks.length<=1000000:=hl
 refine Ko.fn' Aen _ rfl ((Amf ..).trans ?_)
 rw[De]
 rw[FX]
 by_cases h4:k=4
 .rw[if_pos (.inl h4)]
  exact AQ h4
 refine(AA h4).trans ?_
 by_cases h5:k=5
 .rw[if_pos (.inr h5)]
  exact AQ h5
 refine(AA h5).trans ?_
 rw[if_neg (by omega)]
 by_cases h3:k=3
 .rw[if_pos h3]
  refine(AQ h3).trans ?_
  rw[Ax,AkQ,show min (ks.length:Int) 1=((min ks.length 1:Nat):Int) by omega,AN]
  rw[show JG 0 (min ks.length 1) ks.length=true by unfold JG;rw[Nat.ble_eq_true_of_le (Nat.zero_le _),Nat.ble_eq_true_of_le (Nat.min_le_left ..)]]
  refine(Az _ _).trans ?_
  rw[Iy FH]
  refine(Az _ _).trans ?_
  rw[J8,Jx,List.drop_zero,←List.map_take]
  have:ks.take (min ks.length 1)=ks.take 1:=by
   rw[List.take_eq_take_iff]
   omega
  rw[this]
 .rw[if_neg h3]
  exact(AA h3).trans rfl
theorem Wa(ks:List Fm)(hl:ks.length<=1000000)(g:∀ x∈ks,D.ask (.fn 175) [.agg (eF x)] []=some (.agg (eF (BI x)),[])):∀(m i:Nat) (out:List Fm),ks.length-i=m->i<=ks.length->out.length<=i->
  D.ask (.lp 176 0) [.sl 0 0 out.length 6,.ls (ks.map eF),iv (ks.length:Int),iv (i:Int)] [ABlk.mk (Av eF out) true true]=some (.tup [iv 0,.sl 1 0 (out++(ks.drop i).map BI).length 6],[.del,.set (ABlk.mk (Av eF (out++(ks.drop i).map BI)) true true)]):=by
 intro m
 induction m with
 |zero=>
  intro i out hm hi ho
  rw[List.drop_eq_nil_of_le (by omega),List.map_nil,List.append_nil]
  refine Ko.lp' RJ _ rfl (by kernel_rfl) ((Yk ..).trans ?_)
  exact(Ap (by omega)).trans rfl
 |succ m ih=>
  intro i out hm hi ho
  have h1:i<ks.length:=by omega
  have gx:=g ks[i] (List.getElem_mem h1)
  rw[List.drop_eq_getElem_cons h1,List.map_cons]
  have ih:=ih (i+1) (out++[BI ks[i]]) (by omega) (by omega) (by simp;omega)
  rw[List.append_assoc,List.singleton_append,show (out++[BI ks[i]]).length=out.length+1 by simp]at ih
  have hf:Bu (out.length+1) 96=true:=A4 (by omega) (by omega)
  have hb1:Nat.ble (0+out.length*6) (Av eF out).length=true:=Bg FH out (by omega)
  have e3:List.drop 0 (List.take (0+out.length*6) (Av eF out))++eF (BI ks[i])=Av eF (out++[BI ks[i]]):=by
   rw[List.drop_zero,Bl FH out (by omega)]
   exact Bm eF out _
  refine Ko.lp' RJ _ rfl (by kernel_rfl) ((Yk ..).trans ?_)
  refine(Aq (by omega)).trans ?_
  rw[AN,AO (List.getElem?_eq_getElem h1)]
  revert gx ih e3
  generalize BI ks[i]=y
  generalize ks[i]=x
  obtain⟨xk,xt,xe,xs⟩:=x
  obtain⟨yk,yt,ye,ys⟩:=y
  intro gx ih e3
  simp only[eF,eN,ND,Ab]at gx e3 ⊢
  refine(Aa gx _).trans ?_
  simp only[ND,Ab]
  rw[hf]
  refine(Az _ _).trans ?_
  rw[hb1]
  refine(Az _ _).trans ?_
  rw[e3,Bn (by omega)]
  refine(Aa ih _).trans ?_
  rfl
theorem FO{ks:List Fm}(hl:ks.length<=1000000)(g:∀ x∈ks,D.ask (.fn 175) [.agg (eF x)] []=some (.agg (eF (BI x)),[])):D.ask (.fn 176) [.ls (ks.map eF)] []=some (.ls ((ks.map BI).map eF),[]):=by
 have gl:=Wa Ko ks hl g _ 0 [] rfl (by omega) (by simp)
 rw[List.drop_zero,List.nil_append]at gl
 refine Ko.fn' RJ _ rfl ((AlU ..).trans ?_)
 rw[Ax]
 refine(Aa gl _).trans ?_
 simp only[ND,Ab]
 rw[show Nat.ble (0+(ks.map BI).length*6) (Av eF (ks.map BI)).length=true from Bg FH _ (by omega)]
 refine(Az _ _).trans ?_
 rw[C5 FH _ rfl]
include Kt Ks Z C in
theorem ML{n k:Nat}(hn:n<=1000000)(hk:k+n<=900000000):∀(N:Nat) (x:Fm),SizeOf.sizeOf x<N->FB n k x->D.ask (.fn 175) [.agg (eF x)] []=some (.agg (eF (BI x)),[]):=by
 intro N
 induction N with
 |zero=>intro x h;omega
 |succ N ih=>
  intro x hN hx
  obtain⟨ht,hl,h⟩:=hx
  rename_i kd t e ks
  refine Ko.fn' Aed _ rfl ((AlT ..).trans ?_)
  rw[BI]
  by_cases h0:kd=0
  .rw[if_pos h0]
   refine(AQ h0).trans ?_
   refine(Aa (Gf Ko true) _).trans ?_
   rfl
  rw[if_neg h0]
  refine(AA h0).trans ?_
  by_cases h2:kd=2
  .rw[if_pos h2]
   refine(AQ h2).trans ?_
   refine(Aa (Ku Kt Ks Z C Ko ht hn hk e) _).trans ?_
   rfl
  rw[if_neg h2]
  refine(AA h2).trans ?_
  by_cases h3:kd=3
  .rw[if_pos h3,Rf]
   refine(AQ h3).trans ?_
   have hk:=Qp Ko (.mk kd t e ks) hl
   have hks:∀ x∈IK (.mk kd t e ks),x∈ks:=fun x hx=>KX hx
   have hkl:(IK (.mk kd t e ks)).length<=1000000:=Nat.le_trans (KW kd t e ks) hl
   have gc:=FO Ko hkl fun x hx=>ih x (by have:=JH (k:=kd) (t:=t) (e:=e) (hks x hx);omega) (h x (hks x hx))
   simp only[eF,eN,ND,Ab]at hk ⊢
   refine(Aa hk _).trans ?_
   simp only[ND,Ab]
   refine(Aa gc _).trans ?_
   rw[FX]
   rw[if_neg (by omega),if_pos h3,h3]
   unfold kF
   rw[eF,De]
   rfl
  rw[if_neg h3]
  refine(AA h3).trans ?_
  by_cases h4:kd=4
  .rw[if_pos (.inl h4),Hb]
   refine(AQ h4).trans ?_
   have hk:=Qp Ko (.mk kd t e ks) hl
   have hks:∀ x∈IK (.mk kd t e ks),x∈ks:=fun x hx=>KX hx
   have hkl:(IK (.mk kd t e ks)).length<=1000000:=Nat.le_trans (KW kd t e ks) hl
   have gc:=FO Ko hkl fun x hx=>ih x (by have:=JH (k:=kd) (t:=t) (e:=e) (hks x hx);omega) (h x (hks x hx))
   simp only[eF,eN,ND,Ab]at hk ⊢
   refine(Aa hk _).trans ?_
   simp only[ND,Ab]
   refine(Aa gc _).trans ?_
   rw[FX]
   rw[if_pos (.inl h4)]
   unfold kF
   rw[eF,De]
   rfl
  refine(AA h4).trans ?_
  by_cases h5:kd=5
  .rw[if_pos (.inr h5),Hb]
   refine(AQ h5).trans ?_
   have hk:=Qp Ko (.mk kd t e ks) hl
   have hks:∀ x∈IK (.mk kd t e ks),x∈ks:=fun x hx=>KX hx
   have hkl:(IK (.mk kd t e ks)).length<=1000000:=Nat.le_trans (KW kd t e ks) hl
   have gc:=FO Ko hkl fun x hx=>ih x (by have:=JH (k:=kd) (t:=t) (e:=e) (hks x hx);omega) (h x (hks x hx))
   simp only[eF,eN,ND,Ab]at hk ⊢
   refine(Aa hk _).trans ?_
   simp only[ND,Ab]
   refine(Aa gc _).trans ?_
   rw[FX]
   rw[if_pos (.inr h5)]
   unfold kF
   rw[eF,De]
   rfl
  rw[if_neg (by omega)]
  refine(AA h5).trans ?_
  refine(Aa (Gf Ko false) _).trans ?_
  rfl
include Kt Ks Z C in
theorem UP{n k:Nat}(hn:n<=1000000)(hk:k+n<=900000000){x:Fm}(h:FB n k x):D.ask (.fn 113) [.agg (eF x)] []=some (.agg (eF (kF 3 [BI x])),[]):=by
 have g:=ML Kt Ks Z C Ko hn hk _ x (Nat.lt_succ_self _) h
 obtain⟨xk,xt,xe,xs⟩:=x
 refine Ko.fn' AdQ _ rfl ((Alq ..).trans ?_)
 generalize BI (.mk xk xt xe xs)=y at g ⊢
 obtain⟨yk,yt,ye,ys⟩:=y
 simp only[eF,eN]at g
 refine(Aa g _).trans ?_
 unfold kF
 rw[eF,eFs,eFs,eF]
 rfl
include Kt Ks Z C in
theorem Aa4{n k:Nat}(hn:n<=1000000)(hk:k+n<=900000000){l:List Fm}(hl:l.length<=1000000)(h:∀ x∈l,FB n k x):D.ask (.fn 114) [.ls (l.map eF)] []=some (.agg (eF (kF 4 (l.map BI))),[]):=by
 have g:=FO Ko hl fun x hx=>ML Kt Ks Z C Ko hn hk _ x (Nat.lt_succ_self _) (h x hx)
 refine Ko.fn' AdR _ rfl ((Alr ..).trans ?_)
 refine(Aa g _).trans ?_
 unfold kF
 rw[eF,De]
 rfl
include Kt Ks Z C in
theorem Abm{n k:Nat}(hn:n<=1000000)(hk:k+n<=900000000){l:List Fm}(hl:l.length<=1000000)(h:∀ x∈l,FB n k x):D.ask (.fn 115) [.ls (l.map eF)] []=some (.agg (eF (kF 5 (l.map BI))),[]):=by
 have g:=FO Ko hl fun x hx=>ML Kt Ks Z C Ko hn hk _ x (Nat.lt_succ_self _) (h x hx)
 refine Ko.fn' AdS _ rfl ((Als ..).trans ?_)
 refine(Aa g _).trans ?_
 unfold kF
 rw[eF,De]
 rfl
omit Ko in
theorem ET{n k:Nat}{l:Lf}(h:LB n k l)(e:Bool):FB n k (D1 l e):=.mk h.tb (by simp) (by simp)
omit Ko in
theorem Qu:LB 0 1 (Lf.num 1):=⟨by simp[Lf.num],by simp[Lf.num],by unfold InB Lf.num;decide⟩
omit Ko in
theorem Abt{l r:Lf}(hl:LB 64 5000 l)(hr:LB 64 5000 r)(op:Int):FB 128 30000 (Ok op l r):=by
 have h1:=(hl.sub hr).mono (show 64+64<=128 by omega) (show _<=11000 by omega)
 have h2:=(hr.sub hl).mono (show 64+64<=128 by omega) (show _<=11000 by omega)
 have n1:=Qu.mono (Nat.le_refl 0) (show 1<=11000 by omega)
 have h3:=(h1.sub n1).mono (show 128+0<=128 by omega) (show _<=30000 by omega)
 have h4:=(h2.sub n1).mono (show 128+0<=128 by omega) (show _<=30000 by omega)
 have a0:TmB 128 30000 Tm0:=by rw[←TZ];exact LB.tb ⟨by simp[Mr],by simp[Mr],InB.zero _⟩
 have w1:=h1.mono (Nat.le_refl 128) (show 11000<=30000 by omega)
 have w2:=h2.mono (Nat.le_refl 128) (show 11000<=30000 by omega)
 unfold Ok
 repeat' split
 .exact ET w1 _
 .exact .mk a0 (by simp) (fun x hx=>by rw[List.mem_singleton.1 hx];exact ET w1 _)
 .exact ET h4 _
 .exact ET w2 _
 .exact ET h3 _
 .exact ET w1 _
 .exact .mk a0 (by simp) (by simp)
include Kt Kf Ks Z C
theorem Abu{l r:Tm}(hl:TmB 64 5000 l)(hr:TmB 64 5000 r)(op:Int):D.ask (.fn 112) [iv op,.agg (eT l),.agg (eT r)] []=some (.agg (eF (Ok op l.lf r.lf)),[]):=by
 have g1:=Z.of_ 1 (by omega) (by omega)
 have g2:=WR Kt Kf Z (z:=AS 1) ((InB.lz (k:=1) (by unfold InB;decide)).mono (by omega))
 rw[AJ]at g2
 have s1:∀{a b:Tm},TmB 64 5000 a->TmB 64 5000 b->D.ask (.fn 173) [.agg (eT a),.agg (eT b)] []=some (.agg (eT (a.lf.sub b.lf).tm),[]):=fun ha hb=>Aas Kt Kf Ks Z C ha hb (by omega) (by omega)
 have b1:∀{a b:Tm},TmB 64 5000 a->TmB 64 5000 b->LB 128 11000 (a.lf.sub b.lf):=fun ha hb=>(ha.lb.sub hb.lb).mono (by omega) (by omega)
 have z1:∀{a b:Tm},TmB 64 5000 a->TmB 64 5000 b->∀ e:Bool,D.ask (.fn 171) [.agg [.ls ((a.lf.sub b.lf).tm.ps.map eP),bv (a.lf.sub b.lf).tm.k.neg,eN (a.lf.sub b.lf).tm.k.abs,bv e]] []=some (.agg (eF (D1 (a.lf.sub b.lf) e)),[]):=fun ha hb e=>by
  have:=Ku Kt Ks Z C Ko (b1 ha hb).tb (by omega) (by omega) e
  rwa [Ge,Du]at this
 have q0:∀{l r:Tm},TmB 64 5000 l->TmB 64 5000 r->D.ask (.fn 112) [iv 0,.agg (eT l),.agg (eT r)] []=some (.agg (eF (D1 (l.lf.sub r.lf) true)),[]):=fun {l r} hl hr=>by
  have gs:=s1 hl hr
  have gz:=Adt Kt Kf Ks Z C (b1 hl hr).tb (by omega) (by omega)
  rw[Ge,Du]at gz
  have go:=z1 hl hr true
  obtain⟨lp,lk⟩:=l
  obtain⟨rp,rk⟩:=r
  refine Ko.fn' Ls _ rfl ((Tu ..).trans ?_)
  refine(Aa g1 _).trans ?_
  simp only[eZ,eN,ND,Ab]
  refine(Aa g2 _).trans ?_
  simp only[eT,eN,ND,Ab]
  refine(AQ rfl).trans ?_
  refine(Aa gs _).trans ?_
  simp only[eT,eN,ND,Ab,List.cons_append,List.nil_append]at gz ⊢
  refine(Aa gz _).trans ?_
  simp only[ND,Ab]
  refine(Aa go _).trans ?_
  rfl
 have q3:∀{l r:Tm},TmB 64 5000 l->TmB 64 5000 r->D.ask (.fn 112) [iv 3,.agg (eT l),.agg (eT r)] []=some (.agg (eF (D1 (r.lf.sub l.lf) false)),[]):=fun {l r} hl hr=>by
  have gs:=s1 hr hl
  have gz:=R6 Kt Kf Ks Z C (b1 hr hl).tb (by omega) (by omega)
  rw[Ge,Du]at gz
  have go:=z1 hr hl false
  obtain⟨lp,lk⟩:=l
  obtain⟨rp,rk⟩:=r
  refine Ko.fn' Ls _ rfl ((Tu ..).trans ?_)
  refine(Aa g1 _).trans ?_
  simp only[eZ,eN,ND,Ab]
  refine(Aa g2 _).trans ?_
  simp only[eT,eN,ND,Ab]
  refine(AA (by decide)).trans ?_
  refine(AA (by decide)).trans ?_
  refine(AA (by decide)).trans ?_
  refine(AQ rfl).trans ?_
  refine(Aa gs _).trans ?_
  simp only[eT,eN,ND,Ab,List.cons_append,List.nil_append]at gz ⊢
  refine(Aa gz _).trans ?_
  simp only[ND,Ab]
  refine(Aa go _).trans ?_
  rfl
 have q2:∀{l r:Tm},TmB 64 5000 l->TmB 64 5000 r->D.ask (.fn 112) [iv 2,.agg (eT l),.agg (eT r)] []=some (.agg (eF (D1 ((r.lf.sub l.lf).sub (.num 1)) false)),[]):=fun {l r} hl hr=>by
  have gs:=s1 hr hl
  have n1:=(Qu.mono (Nat.le_refl 0) (show 1<=11000 by omega)).tb
  have gs2:=Aas Kt Kf Ks Z C (b1 hr hl).tb n1 (by omega) (by omega)
  have b2:LB 128 30000 ((r.lf.sub l.lf).sub (.num 1)):=((b1 hr hl).sub (Qu.mono (Nat.le_refl 0) (show 1<=11000 by omega))).mono (by omega) (by omega)
  rw[Ge,Ge]at gs2
  have gz:=R6 Kt Kf Ks Z C b2.tb (by omega) (by omega)
  rw[Ge,Du]at gz
  have go:=Ku Kt Ks Z C Ko b2.tb (by omega) (by omega) false
  rw[Ge,Du]at go
  obtain⟨lp,lk⟩:=l
  obtain⟨rp,rk⟩:=r
  refine Ko.fn' Ls _ rfl ((Tu ..).trans ?_)
  refine(Aa g1 _).trans ?_
  simp only[eZ,eN,ND,Ab]
  refine(Aa g2 _).trans ?_
  simp only[eT,eN,ND,Ab]
  refine(AA (by decide)).trans ?_
  refine(AA (by decide)).trans ?_
  refine(AQ rfl).trans ?_
  refine(Aa gs _).trans ?_
  simp only[eT,eN,ND,Ab,List.cons_append,List.nil_append]at gz gs2 ⊢
  refine(Aa gs2 _).trans ?_
  simp only[ND,Ab]
  refine(Aa gz _).trans ?_
  simp only[ND,Ab]
  refine(Aa go _).trans ?_
  rfl
 unfold Ok
 by_cases h0:op=0
 .rw[if_pos h0,h0]
  exact q0 hl hr
 rw[if_neg h0]
 by_cases h1:op=1
 .rw[if_pos h1,h1]
  have g:=q0 hl hr
  have gd:=UP Kt Ks Z C Ko (n:=128) (k:=11000) (by omega) (by omega) (ET (b1 hl hr) true)
  rw[(CanF.atom _ _ (Du _ _)).clone]at gd
  obtain⟨lp,lk⟩:=l
  obtain⟨rp,rk⟩:=r
  refine Ko.fn' Ls _ rfl ((Tu ..).trans ?_)
  refine(Aa g1 _).trans ?_
  simp only[eZ,eN,ND,Ab]
  refine(Aa g2 _).trans ?_
  simp only[eT,eN,ND,Ab]
  refine(AA (by decide)).trans ?_
  refine(AQ rfl).trans ?_
  refine(Aa g _).trans ?_
  unfold D1 at gd ⊢
  simp only[eF,eN,ND,Ab]at gd ⊢
  refine(Aa gd _).trans ?_
  unfold kF
  rw[eF,eFs,eFs,eF]
  rfl
 rw[if_neg h1]
 by_cases h2:op=2
 .rw[if_pos h2,h2]
  exact q2 hl hr
 rw[if_neg h2]
 by_cases h3:op=3
 .rw[if_pos h3,h3]
  exact q3 hl hr
 rw[if_neg h3]
 by_cases h4:op=4
 .rw[if_pos h4,h4]
  have g:=q2 hr hl
  obtain⟨lp,lk⟩:=l
  obtain⟨rp,rk⟩:=r
  refine Ko.fn' Ls _ rfl ((Tu ..).trans ?_)
  refine(Aa g1 _).trans ?_
  simp only[eZ,eN,ND,Ab]
  refine(Aa g2 _).trans ?_
  simp only[eT,eN,ND,Ab]
  refine(AA (by decide)).trans ?_
  refine(AA (by decide)).trans ?_
  refine(AA (by decide)).trans ?_
  refine(AA (by decide)).trans ?_
  refine(AQ rfl).trans ?_
  refine(Aa g _).trans ?_
  rfl
 rw[if_neg h4]
 by_cases h5:op=5
 .rw[if_pos h5,h5]
  have g:=q3 hr hl
  obtain⟨lp,lk⟩:=l
  obtain⟨rp,rk⟩:=r
  refine Ko.fn' Ls _ rfl ((Tu ..).trans ?_)
  refine(Aa g1 _).trans ?_
  simp only[eZ,eN,ND,Ab]
  refine(Aa g2 _).trans ?_
  simp only[eT,eN,ND,Ab]
  refine(AA (by decide)).trans ?_
  refine(AA (by decide)).trans ?_
  refine(AA (by decide)).trans ?_
  refine(AA (by decide)).trans ?_
  refine(AA (by decide)).trans ?_
  refine(AQ rfl).trans ?_
  refine(Aa g _).trans ?_
  rfl
 rw[if_neg h5]
 obtain⟨lp,lk⟩:=l
 obtain⟨rp,rk⟩:=r
 refine Ko.fn' Ls _ rfl ((Tu ..).trans ?_)
 refine(Aa g1 _).trans ?_
 simp only[eZ,eN,ND,Ab]
 refine(Aa g2 _).trans ?_
 simp only[eT,eN,ND,Ab]
 refine(AA h0).trans ?_
 refine(AA h1).trans ?_
 refine(AA h2).trans ?_
 refine(AA h3).trans ?_
 refine(AA h4).trans ?_
 refine(AA h5).trans ?_
 refine(Aa (Gf Ko false) _).trans ?_
 rfl
end
end Go.Proofs.YtlmhajfbpplpoaaGreat
