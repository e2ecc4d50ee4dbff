/- logic.Same: what a call -/
import Derived.Test.YtmbfbclboenajaaGreatFBR
set_option linter.all false
open Bool renaming false->Φ,true->Δ,eq_false_iff->Aum,false_eq_true->Asq
open List renaming append_assoc->AqY,append_nil->ArB,cons_append->Arm,drop->AqT,drop_eq_getElem_cons->κ,drop_eq_nil_of_le->AqX,drop_zero->AqQ,getElem?_eq_getElem->ξ,getElem_mem->Arc,length_map->Aq7,map_cons->Aq8,map_nil->ArV,mem_map->Arj,nil_append->Aq4,singleton_append->ArI,take->ε
open Nat renaming ble->AqZ,le_trans->ArJ
open Option renaming none->Ξ,some->Θ
namespace Go.Proofs.YtmbfbclboenajaaGreat
open ABlk renaming mk->θ
open Go.RowKit
theorem FB.kids{n k:Nat}{x:Fm}(h:FB n k x):x.kids.length<=1000000/\(∀ y∈x.kids,FB n k y)/\TmB n k x.tm:=by
 cases h with
 |mk ht hl h=>exact⟨hl,h,ht⟩
section
variable {D:Orc} (Kt:Knows Al GA D) (F:RF D)
include Kt F
theorem Aec{n k m:Nat}{ps qs:List Pt}{kz jz:Zi}(hl:ps.length=qs.length)(hp:TmB n k ⟨ps,kz⟩)(hn:n<=1000000)(hk:k<=1000000000):∀(m i:Nat),ps.length-i=m->i<=ps.length->
  ∃ b,D.ask (.lp 28 0) [.ptr 0 0,.ptr 1 0,iv (i:Int)] [⟨[.ls (ps.map eP),bv kz.neg,eN kz.abs],Δ,Φ⟩,⟨[.ls (qs.map eP),bv jz.neg,eN jz.abs],Δ,Φ⟩]=Θ (if b then .tup [iv 0] else .tup [bv Δ,bv Φ],[.del,.del])/\(b=Δ ↔ ps.drop i=qs.drop i):=by
 have hlen:ps.length<=n:=hp.len;intro m
 induction m with
 |zero=>
  intro i hm hi;refine⟨Δ,?_,by rw[AqX (by omega),AqX (by omega)];simp⟩;refine Au Kt RZ (Xr ..) ?_;rw[Ak];exact Ag rfl
 |succ m ih=>
  intro i hm hi;have h1:i<ps.length:=by omega
  have h2:i<qs.length:=by omega
  have hn1:∀ kk,Bj (ps.map eP) i kk=kk (eP ps[i]):=λkk=>At (ξ h1) kk
  have hn2:∀ kk,Bj (qs.map eP) i kk=kk (eP qs[i]):=λkk=>At (ξ h2) kk
  have hz:=hp.ps ps[i] (Arc h1);rw[κ h1,κ h2];revert hn1 hn2 hz;generalize ps[i]=p;generalize qs[i]=q;intro hn1 hn2 hz;obtain⟨b,g,hb⟩:=ih (i+1) (by omega) (by omega);have gs:=F.same p.z q.z (hz.mono hk);obtain⟨pv,pn,pa⟩:=p;obtain⟨qv,qn,qa⟩:=q;simp only[eZ,eN]at gs g ⊢
  by_cases hv:pv=qv
  .by_cases hz:pn=qn/\pa=qa
   .rw[decide_eq_true hz]at gs
    refine⟨b,?_,?_⟩
    .refine Au Kt RZ (Xr ..) ?_
     rw[Ak];refine Aj ?_;simp only[Av,hn1,hn2,eP,eN,ND,DK,Ab];refine Bu ?_ hv;refine Aa gs ?_;simp only[ND,DK,Ab];rw[BA (by omega)];refine Aa g ?_
     cases b<;>rfl
    .rw[hb,hv,hz.1,hz.2]
     simp
   .rw[decide_eq_false hz]at gs
    refine⟨Φ,?_,?_⟩
    .refine Au Kt RZ (Xr ..) ?_
     rw[Ak];refine Aj ?_;simp only[Av,hn1,hn2,eP,eN,ND,DK,Ab];refine Bu ?_ hv;refine Aa gs ?_;rfl
    .simp only[Asq,false_iff,List.cons.injEq,Pt.mk.injEq,Zi.mk.injEq]
     exact λh=>hz h.1.2
  .refine⟨Φ,?_,?_⟩
   .refine Au Kt RZ (Xr ..) ?_
    rw[Ak];refine Aj ?_;simp only[Av,hn1,hn2,eP,eN,ND,DK,Ab];exact AN rfl hv
   .simp only[Asq,false_iff,List.cons.injEq,Pt.mk.injEq,Zi.mk.injEq]
    exact λh=>hv h.1.1
theorem PG{n k:Nat}{t u:Tm}(ht:TmB n k t)(hn:n<=1000000)(hk:k<=1000000000):∃ b,D.ask (.fn 28) [.agg (eT t),.agg (eT u)] []=Θ (bv b,[])/\(b=Δ ↔ t=u):=by
 obtain⟨ps,kz⟩:=t;obtain⟨qs,jz⟩:=u;have gs:=F.same kz jz (ht.k.mono hk)
 by_cases hl:ps.length=qs.length
 .obtain⟨b,g,hb⟩:=Aec Kt F (m:=0) (kz:=kz) (jz:=jz) hl ht hn hk _ 0 rfl (by omega)
  rw[AqQ,AqQ]at hb;obtain⟨kn,ka⟩:=kz;obtain⟨jn,ja⟩:=jz;simp only[eZ,eN]at gs g
  by_cases hz:kn=jn/\ka=ja
  .rw[decide_eq_true hz]at gs
   refine⟨b,?_,?_⟩
   .refine AB Kt RZ (e28 ..) ?_
    rw[Ak,Ak];refine Bu ?_ (congrArg _ hl);refine Aa gs ?_;simp only[ND,DK,Ab];refine Aa g ?_
    cases b<;>rfl
   .rw[hb,hz.1,hz.2]
    simp
  .rw[decide_eq_false hz]at gs
   refine⟨Φ,?_,?_⟩
   .refine AB Kt RZ (e28 ..) ?_
    rw[Ak,Ak];refine Bu ?_ (congrArg _ hl);refine Aa gs ?_;rfl
   .simp only[Asq,false_iff,Tm.mk.injEq,Zi.mk.injEq]
    exact λh=>hz h.2
 .refine⟨Φ,?_,?_⟩
  .refine AB Kt RZ (e28 ..) ?_
   rw[Ak,Ak];exact FU λh=>hl (Int.ofNat.inj h)
  .simp only[Asq,false_iff,Tm.mk.injEq]
   exact λh=>hl (by rw[h.1])
end
section
variable {D:Orc} (Kt:Knows Al GA D) (Kh:Knows Al Hj D) (Kq:Knows Al Q7 D) (F:RF D)
include Kt Kq F
theorem UL{n k:Nat}{t u:Tm}(ht:TmB n k t)(hn:n<=1000000)(hk:k<=1000000000)(e f:Bool):∃ b,D.ask (.fn 11) [.agg (eT t++[bv e]),.agg (eT u++[bv f])] []=Θ (bv b,[])/\(b=Δ ↔ t=u/\e=f):=by
 obtain⟨b,g,hb⟩:=PG Kt F (u:=u) ht hn hk;obtain⟨ps,kn,ka⟩:=t;obtain⟨qs,jn,ja⟩:=u
 by_cases he:e=f
 .refine⟨b,?_,by rw[hb];simp[he]⟩
  refine AB Kq Aji (e11 ..) ?_;rw[QU,he,beq_self_eq_true];refine Ac ?_;refine Aa g ?_
  cases b<;>rfl
 .refine⟨Φ,?_,by simp[he]⟩
  refine AB Kq Aji (e11 ..) ?_;rw[QU,beq_eq_false_iff_ne.2 he];rfl
end
theorem UZ(a b:Int):BC (a-b)=Cp a b:=by
 unfold BC Cp
 repeat' split
 all_goals omega
def J8:List (Int × Int)->List (Int × Int)->Option Int
 |[],_=>Ξ
 |_::_,[]=>Ξ
 |p::a,q::b=>if Gc p q=0 then J8 a b else Θ (Gc p q)
theorem VB:∀ a b:List (Int × Int),GO a b=match J8 a b with|some n=>Θ n|none=>if b.length<a.length then Θ 1 else Ξ
 |[],b=>by rw[GO,J8];simp
 |p::a,[]=>by rw[GO,J8];simp
 |p::a,q::b=>by
  rw[GO,J8]
  by_cases h:Gc p q=0
  .rw[if_pos h,if_pos h,VB a b]
   simp only[List.length_cons,Nat.add_lt_add_iff_right]
  .rw[if_neg h,if_neg h]
theorem AeN(a b:List (Int × Int)):HI a b=match J8 a b with|some n=>n|none=>if a.length<b.length then -1 else if b.length<a.length then 1 else 0:=by
 unfold HI;rw[VB]
 cases J8 a b with
 |some n=>rfl
 |none=>
  simp only
  by_cases h:b.length<a.length
  .simp only[if_pos h]
   rw[if_neg (show ¬ a.length<b.length by omega)]
  .rw[if_neg h]
   by_cases h2:a.length<b.length
   .rw[if_pos h2,if_pos h2]
   .rw[if_neg h2,if_neg h2,if_neg h]
section
variable {D:Orc} (Kc:Knows Al U8 D) (F:RF D)
include Kc F
theorem Agb{a b:List Pt}{ak bk':Zi}(la:a.length<=1000000)(lb:b.length<=1000000)(ha:∀ p∈a,Lz 900000000 p.z)(hb:∀ p∈b,Lz 900000000 p.z):∀(m i:Nat),a.length-i=m->i<=a.length->i<=b.length->
  D.ask (.lp 100 0) [.ptr 0 0,.ptr 1 0,iv (i:Int)] [bk (eT ⟨a,ak⟩),bk (eT ⟨b,bk'⟩)]=Θ (match J8 ((a.drop i).map pv) ((b.drop i).map pv) with|some n=>(.tup [bv Δ,iv n],[.del,.del]) | none=>(.tup [iv 0,.ptr 0 0,.ptr 1 0],[.set (bk (eT ⟨a,ak⟩)),.set (bk (eT ⟨b,bk'⟩))])):=by
 intro m
 induction m with
 |zero=>
  intro i hm hi hj;rw[AqX (by omega),ArV,J8];refine Au Kc Qu (VI ..) ?_;rw[Ak];dsimp only;exact Ag rfl
 |succ m ih=>
  intro i hm hi hj;have h1:i<a.length:=by omega
  have ih:=ih (i+1) (by omega) (by omega);have hn1:∀ kk,Bj (a.map eP) i kk=kk (eP a[i]):=λkk=>At (ξ h1) kk
  have hza:=ha a[i] (Arc h1);rw[κ h1,Aq8]
  by_cases h2:i<b.length
  .have ih:=ih (by omega)
   have hn2:∀ kk,Bj (b.map eP) i kk=kk (eP b[i]):=λkk=>At (ξ h2) kk
   have hzb:=hb b[i] (Arc h2);rw[κ h2,Aq8,J8];revert hn1 hn2 hza hzb;generalize a[i]=p;generalize b[i]=q;intro hn1 hza hn2 hzb;have gc:=F.cmp p.z q.z hza hzb;rw[UZ]at gc;refine Au Kc Qu (VI ..) ?_;rw[Ak,Ak];dsimp only;refine Aj ?_;refine Aj ?_;simp only[Av,hn1,hn2,eP,eN,ND,DK,Ab];unfold Gc
   by_cases h3:p.v<q.v
   .rw[show Cp (pv p).1 (pv q).1=-1 from if_pos h3]
    refine Aj ?_ h3;rfl
   .refine Ag ?_ h3
    by_cases h4:q.v<p.v
    .rw[show Cp (pv p).1 (pv q).1=1 from (if_neg h3).trans (if_pos h4)]
     refine Aj ?_ h4;rfl
    .rw[show Cp (pv p).1 (pv q).1=0 from (if_neg h3).trans (if_neg h4)]
     refine Ag ?_ h4;simp only[eZ,eN]at gc;refine Aa gc ?_;simp only[ND,DK,Ab];rw[show IS 0 (Cp (pv p).2 (pv q).2)=Cp (zv p.z) (zv q.z) from rfl];generalize Cp (zv p.z) (zv q.z)=c
     by_cases h5:c=0
     .refine Bu ?_ h5
      rw[if_pos h5,BA (by omega)];refine Aa ih ?_
      cases J8 ((a.drop (i+1)).map pv) ((b.drop (i+1)).map pv)<;>rfl
     .refine AN ?_ h5
      rw[if_neg h5]
  .rw[AqX (show b.length<=i by omega),ArV,J8]
   refine Au Kc Qu (VI ..) ?_;rw[Ak,Ak];dsimp only;refine Aj ?_;exact Ag rfl
variable (Kt:Knows Al GA D) (Kh:Knows Al Hj D)
include Kt Kh
theorem Adk{n k:Nat}{t u:Tm}(ht:TmB n k t)(hu:TmB n k u)(hn:n<=1000000)(hk:k+n<=400000000):D.ask (.fn 100) [.agg (eT t),.agg (eT u)] []=Θ (iv (M7 t.lf.pln u.lf.pln),[]):=by
 have g1:=E9 Kt Kh F ht hn hk;have g2:=E9 Kt Kh F hu hn hk;have b1:=ht.lb.pln.tb;have b2:=hu.lb.pln.tb;have e1:(t.lf.pln.tm.ps).map pv=t.lf.pln.ps:=congrArg Lf.ps (BE t.lf.pln);have e2:(u.lf.pln.tm.ps).map pv=u.lf.pln.ps:=congrArg Lf.ps (BE u.lf.pln);have k1:zv t.lf.pln.tm.k=t.lf.pln.k:=congrArg Lf.k (BE t.lf.pln);have k2:zv u.lf.pln.tm.k=u.lf.pln.k:=congrArg Lf.k (BE u.lf.pln);have l1:t.lf.pln.tm.ps.length=t.lf.pln.ps.length:=by rw[←e1,Aq7]
 have l2:u.lf.pln.tm.ps.length=u.lf.pln.ps.length:=by rw[←e2,Aq7]
 have g3:=Agb Kc F (a:=t.lf.pln.tm.ps) (b:=u.lf.pln.tm.ps) (ak:=t.lf.pln.tm.k) (bk':=u.lf.pln.tm.k) (ArJ b1.len hn) (ArJ b2.len hn) (λp hp=>(b1.ps p hp).mono (by omega)) (λp hp=>(b2.ps p hp).mono (by omega)) _ 0 rfl (by omega) (by omega);have g4:=F.cmp t.lf.pln.tm.k u.lf.pln.tm.k (b1.k.mono (by omega)) (b2.k.mono (by omega));rw[AqQ,AqQ,e1,e2]at g3;rw[UZ,k1,k2]at g4;unfold M7;rw[AeN,←l1,←l2];revert g1 g2 g3 g4;generalize t.lf.pln.tm=x;generalize u.lf.pln.tm=y;generalize Cp t.lf.pln.k u.lf.pln.k=c;have hnz:∀ n,J8 t.lf.pln.ps u.lf.pln.ps=Θ n->n≠0:=λn h=>by
  have:=VB t.lf.pln.ps u.lf.pln.ps;rw[h]at this;exact RG this
 revert hnz;generalize J8 t.lf.pln.ps u.lf.pln.ps=o;intro hnz g1 g2 g3 g4;obtain⟨tp,tz⟩:=t;obtain⟨up,uz⟩:=u;obtain⟨xp,xn,xa⟩:=x;obtain⟨yp,yn,ya⟩:=y;refine AB Kc Qu (Aot ..) ?_;refine Aa g1 ?_;simp only[eT,eN,ND,DK,Ab];refine Aa g2 ?_;simp only[eT,eN,ND,DK,Ab];simp only[eT,eN]at g3
 cases o with
 |some n=>
  refine Aa g3 ?_;unfold IS;simp only;rw[if_neg (hnz n rfl)];rfl
 |none=>
  refine Aa g3 ?_;simp only[ND,DK,Ab];rw[Ak,Ak]
  by_cases h1:xp.length<yp.length
  .rw[if_pos h1]
   exact Lx (by omega)
  .rw[if_neg h1]
   refine Ag ?_
   by_cases h2:yp.length<xp.length
   .rw[if_pos h2]
    exact Lx (by omega)
   .rw[if_neg h2]
    refine Ag ?_;refine Aa g4 ?_;rfl
theorem Adj{n k:Nat}{t u:Tm}(ht:TmB n k t)(hu:TmB n k u)(hn:n<=1000000)(hk:k+n<=400000000)(e f:Bool):D.ask (.fn 58) [.agg (CY (t,e)),.agg (CY (u,f))] []=Θ (iv (Tw t.lf.pln u.lf.pln e f),[]):=by
 have g:=Adk Kc F Kt Kh ht hu hn hk;unfold Tw IS;generalize M7 t.lf.pln u.lf.pln=c at g;obtain⟨tp,tz⟩:=t;obtain⟨up,uz⟩:=u;refine AB Kc AlU (e58 ..) ?_;refine Aa g ?_;simp only[ND,DK,Ab]
 by_cases h:c=0
 .rw[if_pos h]
  refine Bu ?_ h
  cases e<;>cases f<;>rfl
 .rw[if_neg h]
  exact FU h
omit Kh in
theorem UM(l:List (Tm × Bool)){n k:Nat}(hl:l.length<=1000000)(hn:n<=1000000)(hk:k<=1000000000)(h:∀ r∈l,TmB n k r.1)(Kq:Knows Al Q7 D):∀(m i:Nat),l.length-i=m->i<=l.length->
  D.ask (.lp 8 0) [.ls (l.map CY),.ls (l.map CY),iv (i:Int)] []=Θ (.tup [iv 0],[]):=by
 intro m
 induction m with
 |zero=>
  intro i hm hi;refine Au Kc hn8 (Alj ..) ?_;rw[Ak];exact Ag rfl
 |succ m ih=>
  intro i hm hi;have h1:i<l.length:=by omega
  have ih:=ih (i+1) (by omega) (by omega);have hn1:∀ kk,Bj (l.map CY) i kk=kk (CY l[i]):=λkk=>At (ξ h1) kk
  have ht:=h l[i] (Arc h1);revert hn1 ht;generalize l[i]=r;intro hn1 ht;obtain⟨t,e⟩:=r;obtain⟨b,g,hb⟩:=UL Kt Kq F ht (u:=t) hn hk e e;obtain rfl:b=Δ:=hb.2 ⟨rfl,rfl⟩;obtain⟨tp,tz⟩:=t;refine Au Kc hn8 (Alj ..) ?_;rw[Ak];refine Aj ?_;simp only[Av,hn1,RQ,eN,ND,DK,Ab];refine Aa g ?_;simp only[ND,DK,Ab];rw[BA (by omega)];refine Aa ih ?_;rfl
omit Kh in
theorem P1(l:List (Tm × Bool)){n k:Nat}(hl:l.length<=1000000)(hn:n<=1000000)(hk:k<=1000000000)(h:∀ r∈l,TmB n k r.1)(Kq:Knows Al Q7 D):D.ask (.fn 8) [.ls (l.map CY),.ls (l.map CY)] []=Θ (bv Δ,[]):=by
 refine AB Kc hn8 (e8 ..) ?_;refine Bu ?_ rfl;refine Aa (UM Kc F Kt l hl hn hk h Kq _ 0 rfl (by omega)) ?_;rfl
end
theorem QD{a b:Lf}(h:a.tm=b.tm):a=b:=by rw[←BE a,h,BE]
section
variable {D:Orc} (Ky:Knows Al PA D) (Kt:Knows Al GA D) (Kh:Knows Al Hj D) (F:RF D)
include Ky
theorem Md(l:Lf):D.ask (.fn 22) [.agg (eT l.tm)] []=Θ (.agg (eT (Lf.tm ⟨l.ps,0⟩)),[]):=by
 refine AB Ky Alx (e22 ..) ?_;unfold eT Lf.tm;rw[IC];rfl
include Kt Kh F
theorem ZR{n k:Nat}{a b:RL}(la:LB n k a.1)(lb:LB n k b.1)(pa:Pln a.1.ps)(hn:n<=100000)(hk:k<=1000000):D.ask (.fn 18) [.agg (eT b.1.tm),.agg (eT a.1.tm)] []=Θ (iv (BQ b a),[]):=by
 have la0:LB n k ⟨a.1.ps,0⟩:=⟨la.len,la.ps,InB.zero k⟩;have lb0:LB n k ⟨b.1.ps,0⟩:=⟨lb.len,lb.ps,InB.zero k⟩;have g1:=Md Ky a.1;have g2:=Md Ky b.1;obtain⟨c,g3,hc⟩:=PG Kt F (u:=Lf.tm ⟨a.1.ps,0⟩) lb0.tb (by omega) (by omega);obtain⟨d,g6,hd⟩:=PG Kt F (u:=Lf.tm ⟨negP a.1.ps,0⟩) lb0.tb (by omega) (by omega);have g4:=F.of_ (-1) (by decide) (by decide);have g5:=Yi Kt Kh F la0.tb (by omega) (by omega);rw[BE,Fa (l:=⟨a.1.ps,0⟩) pa,show -(0:Int)=0 from rfl]at g5;have hc:c=Δ ↔ b.1.ps=a.1.ps:=hc.trans ⟨λh=>by have:=QD (a:=⟨b.1.ps,0⟩) (b:=⟨a.1.ps,0⟩) h;injection this,λh=>by rw[h]⟩;have hd:d=Δ ↔ b.1.ps=negP a.1.ps:=hd.trans ⟨λh=>by have:=QD (a:=⟨b.1.ps,0⟩) (b:=⟨negP a.1.ps,0⟩) h;injection this,λh=>by rw[h]⟩;simp only[eT,eZ,eN]at g1 g2 g3 g4 g5 g6;refine AB Ky Alt (e18 ..) ?_;refine Aa g2 ?_;simp only[ND,DK,Ab];refine Aa g1 ?_;simp only[ND,DK,Ab];refine Aa g3 ?_;simp only[ND,DK,Ab];unfold BQ
 by_cases h1:b.1.ps=a.1.ps
 .rw[hc.2 h1,if_pos h1]
  exact HE _ _
 .rw[Aum.2 λh=>h1 (hc.1 h),if_neg h1]
  refine Ba ?_;refine Aa g2 ?_;simp only[ND,DK,Ab];refine Aa g1 ?_;simp only[ND,DK,Ab];refine Aa g4 ?_;simp only[ND,DK,Ab];refine Aa g5 ?_;simp only[ND,DK,Ab];refine Aa g6 ?_;simp only[ND,DK,Ab]
  by_cases h2:b.1.ps=negP a.1.ps
  .rw[hd.2 h2,if_pos h2]
   exact HE _ _
  .rw[Aum.2 λh=>h2 (hd.1 h),if_neg h2]
   exact I0 _ _
end
def EU(r:RL):Bool->List RL->List RL × Bool
 |d,[]=>([],d)
 |true,s::l=>(s::(EU r Δ l).1,(EU r Δ l).2)
 |false,s::l=>if DY r s<=0 then(r::s::(EU r Δ l).1,(EU r Δ l).2) else(s::(EU r Φ l).1,(EU r Φ l).2)
theorem R4(r:RL):∀ l,EU r Δ l=(l,Δ)
 |[]=>rfl
 |s::l=>by rw[EU,R4 r l]
theorem Ach(r:RL):∀ l,(if(EU r Φ l).2=Δ then(EU r Φ l).1 else(EU r Φ l).1++[r])=ET r l
 |[]=>rfl
 |s::l=>by
  have ih:=Ach r l;rw[EU,ET]
  by_cases h:DY r s<=0
  .rw[if_pos h,if_pos h,R4]
   rfl
  .rw[if_neg h,if_neg h,←ih]
   simp only;split<;>rfl
section
variable {D:Orc} (Ky:Knows Al PA D)
include Ky
theorem Agl(r:RL)(l:List RL)(hl:l.length<=1000000)(hc:∀ x∈l,D.ask (.fn 58) [.agg (BX r),.agg (BX x)] []=Θ (iv (DY r x),[])):∀(m i:Nat) (t:Bool) (acc:List RL),l.length-i=m->i<=l.length->acc.length<=2*i->
  D.ask (.lp 25 0) [.ls (l.map BX),.ptr 0 0,.sl 1 0 acc.length 4,bv t,iv (i:Int)] [bk (BX r),θ (Ah BX acc) Δ Δ]=Θ (.tup [iv 0,.ptr 0 0,.sl 2 0 (acc++(EU r t (l.drop i)).1).length 4,bv (EU r t (l.drop i)).2],[.set (bk (BX r)),.del,.set (θ (Ah BX (acc++(EU r t (l.drop i)).1)) Δ Δ)]):=by
 have app:∀(acc:List RL) (y:RL),AqT 0 (ε (0+acc.length*4) (Ah BX acc))++BX y=Ah BX (acc++[y]):=λacc y=>by
  rw[AqQ,Be Cb acc (by omega)];exact Bb BX acc _
 intro m
 induction m with
 |zero=>
  intro i t acc hm hi ha;rw[AqX (by omega)];have e0:EU r t []=([],t):=by cases t<;>rfl
  rw[e0,ArB];refine Au Ky AbX (Ahi ..) ?_;rw[Ak];exact Ag rfl
 |succ m ih=>
  intro i t acc hm hi ha;have h1:i<l.length:=by omega
  have gx:=hc l[i] (Arc h1);rw[κ h1];have hf:AZ (acc.length+1) 64=Δ:=AG (by omega) (by omega);have hf2:AZ (acc.length+1+1) 64=Δ:=AG (by omega) (by omega);have hb1:AqZ (0+acc.length*4) (Ah BX acc).length=Δ:=AF Cb acc (by omega);have hb2:AqZ (0+(acc.length+1)*4) (Ah BX (acc++[r])).length=Δ:=AF Cb (acc++[r]) (by simp);have a1:=app acc r;have a2:=app acc l[i];have a3:=app (acc++[r]) l[i];rw[show (acc++[r]).length=acc.length+1 by simp]at a3;have ih1:=λt=>ih (i+1) t (acc++[l[i]]) (by omega) (by omega) (by simp;omega)
  have ih2:=ih (i+1) Δ ((acc++[r])++[l[i]]) (by omega) (by omega) (by simp;omega);rw[show ((acc++[r])++[l[i]]).length=acc.length+1+1 by simp]at ih2;rw[show (acc++[l[i]]).length=acc.length+1 by simp]at ih1;refine Au Ky AbX (Ahi ..) ?_;rw[Ak];refine Aj ?_;simp only[BX,CY,eT,eN,Arm,Aq4]at gx a1 a2 a3
  cases t with
  |true=>
   have ih1:=ih1 Δ;rw[EU];rw[AqY,ArI]at ih1;refine Ba ?_;rw[Av,At (ξ h1)];simp only[BX,CY,eT,eN,Arm,Aq4,ND,DK,Ab]at ih1 ⊢;rw[hf];refine Ac ?_;rw[hb1];refine Ac ?_;rw[a2,BA (by omega)];refine Aa ih1 ?_;rfl
  |false=>
   refine Ac ?_;rw[Av,At (ξ h1)];simp only[BX,CY,eT,eN,Arm,Aq4,ND,DK,Ab];refine Aa gx ?_;simp only[ND,DK,Ab];rw[EU]
   by_cases hle:DY r l[i]<=0
   .rw[if_pos hle]
    rw[show ((acc++[r])++[l[i]])++(EU r Δ (l.drop (i+1))).1=acc++(r::l[i]::(EU r Δ (l.drop (i+1))).1) by simp]at ih2;refine B6 ?_ hle;rw[hf];refine Ac ?_;rw[hb1];refine Ac ?_;rw[Av,At (ξ h1)];simp only[BX,CY,eT,eN,Arm,Aq4,ND,DK,Ab]at ih2 ⊢;rw[hf2];refine Ac ?_;rw[a1,hb2];refine Ac ?_;rw[a3,BA (by omega)];refine Aa ih2 ?_;rfl
   .rw[if_neg hle]
    have ih1:=ih1 Φ;rw[AqY,ArI]at ih1;refine Cr ?_ hle;rw[Av,At (ξ h1)];simp only[BX,CY,eT,eN,Arm,Aq4,ND,DK,Ab]at ih1 ⊢;rw[hf];refine Ac ?_;rw[hb1];refine Ac ?_;rw[a2,BA (by omega)];refine Aa ih1 ?_;rfl
omit Ky in
theorem Uf(r:RL):∀(t:Bool) (l:List RL),(EU r t l).1.length<=l.length+1
 |true,l=>by rw[R4];simp
 |false,[]=>by simp[EU]
 |false,s::l=>by
  have:=Uf r Φ l;rw[EU];split
  .rw[R4];simp
  .simp;omega
theorem Adr(r:RL)(l:List RL)(hl:l.length<=400000)(hc:∀ x∈l,D.ask (.fn 58) [.agg (BX r),.agg (BX x)] []=Θ (iv (DY r x),[])):D.ask (.fn 25) [.ls (l.map BX),.agg (BX r)] []=Θ (.ls ((ET r l).map BX),[]):=by
 have g:=Agl Ky r l (by omega) hc _ 0 Φ [] rfl (by omega) (by simp);rw[AqQ,Aq4]at g;have hf:=Ach r l;have hlen:=Uf r Φ l;refine AB Ky AbX (e25 ..) ?_;refine Aa g ?_;generalize EU r Φ l=p at *;obtain⟨q,b⟩:=p;simp only at hf hlen;have hfit:AZ (q.length+1) 64=Δ:=AG (by omega) (by omega);have hb1:AqZ (0+q.length*4) (Ah BX q).length=Δ:=AF Cb q (by omega);have hb2:AqZ (0+(q.length+1)*4) (Ah BX (q++[r])).length=Δ:=AF Cb (q++[r]) (by simp);have a1:AqT 0 (ε (0+q.length*4) (Ah BX q))++BX r=Ah BX (q++[r]):=by
  rw[AqQ,Be Cb q (by omega)];exact Bb BX q _
 have c1:=Bp Cb q rfl;have c2:=Bp Cb (q++[r]) (n:=q.length+1) (by simp);simp only[BX,CY,eT,eN,Arm,Aq4]at a1;simp only[BX,CY,eT,eN,Arm,Aq4,ND,DK,Ab]
 cases b with
 |true=>
  rw[if_pos rfl]at hf;refine Ba ?_;rw[hb1];refine Ac ?_;rw[c1,hf]
 |false=>
  rw[if_neg (by decide)]at hf;refine Ac ?_;rw[hfit];refine Ac ?_;rw[hb1];refine Ac ?_;rw[a1,hb2];refine Ac ?_;rw[AqQ,c2,hf]
theorem Agt(rs:List (Tm × Bool))(hl:rs.length<=100000)(hT:∀ x∈rs,D.ask (.fn 17) [.agg (CY x)] []=Θ (.tup [.agg (CY (CH x.1.lf.pln.tm x.2).1),iv (CH x.1.lf.pln.tm x.2).2],[])):∀(m i:Nat) (acc:List RL),rs.length-i=m->i<=rs.length->acc.length<=i->
  D.ask (.lp 7 0) [.ls (rs.map CY),.sl 0 0 acc.length 4,iv (i:Int)] [θ (Ah BX acc) Δ Δ]=Θ (match Da ((rs.drop i).map Jh) with
   |none=>(.tup [bv Δ,.ls [],bv Φ],[.del])
   |some T=>(.tup [iv 0,.sl 1 0 (acc++T).length 4],[.del,.set (θ (Ah BX (acc++T)) Δ Δ)])):=by
 intro m
 induction m with
 |zero=>
  intro i acc hm hi ha;rw[AqX (by omega),ArV,Da];simp only[ArB];refine Au Ky hn7 (Alg ..) ?_;rw[Ak];exact Ag rfl
 |succ m ih=>
  intro i acc hm hi ha;have h1:i<rs.length:=by omega
  have gx:=hT rs[i] (Arc h1);rw[κ h1,Aq8,Da];refine Au Ky hn7 (Alg ..) ?_;rw[Ak];refine Aj ?_;rw[Av,At (ξ h1)];have e1:F6 (Jh rs[i]).1 (Jh rs[i]).2=F6 rs[i].1.lf rs[i].2:=rfl;rw[e1];simp only[CY,eT,eN,Arm,Aq4,ND,DK,Ab]at gx ⊢;refine Aa gx ?_;simp only[ND,DK,Ab]
  show br (Af.lt (F6 rs[i].1.lf rs[i].2) 0) _ _=_
  rcases Ad0 rs[i].1.lf rs[i].2 with h|h|h
  .rw[h,if_pos (by decide)]
   rfl
  .obtain⟨tg,et⟩:=S0 h
   have ih:=ih (i+1) (acc++[G6 rs[i].1.lf rs[i].2]) (by omega) (by omega) (by simp;omega);rw[show (acc++[G6 rs[i].1.lf rs[i].2]).length=acc.length+1 by simp]at ih;have hf:AZ (acc.length+1) 64=Δ:=AG (by omega) (by omega);have hb1:AqZ (0+acc.length*4) (Ah BX acc).length=Δ:=AF Cb acc (by omega);have a1:AqT 0 (ε (0+acc.length*4) (Ah BX acc))++BX (G6 rs[i].1.lf rs[i].2)=Ah BX (acc++[G6 rs[i].1.lf rs[i].2]):=by
    rw[AqQ,Be Cb acc (by omega)];exact Bb BX acc _
   have h':(CH rs[i].1.lf.pln.tm rs[i].2).2=0:=h;rw[h];refine Ag ?_ (by decide);refine Bu ?_ h';rw[et];simp only[BX,CY,eT,eN,Arm,Aq4]at a1;rw[hf];refine Ac ?_;rw[hb1];refine Ac ?_;rw[a1,BA (by omega)];refine Aa ih ?_;rw[if_neg (by decide)];have e2:G6 (Jh rs[i]).1 (Jh rs[i]).2=G6 rs[i].1.lf rs[i].2:=rfl;rw[e2]
   cases Da ((rs.drop (i+1)).map Jh) with
   |none=>rfl
   |some T=>
    simp only[if_pos rfl,AqY,ArI];rfl
  .rw[h,if_neg (by decide)]
   have ih:=ih (i+1) acc (by omega) (by omega) (by omega);refine Ag ?_ (by decide);refine AN ?_ (by rw[show (CH rs[i].1.lf.pln.tm rs[i].2).2=1 from h];decide);rw[BA (by omega)];refine Aa ih ?_
   cases Da ((rs.drop (i+1)).map Jh)<;>rfl
end
theorem AaC{a b:Int}{X Y Z:KR}(h1:a<b->X=Z)(h2:¬ a<b->Y=Z):br (Af.lt a b) X Y=Z:=by
 by_cases h:a<b
 .exact(Lx h).trans (h1 h)
 .exact(CK h).trans (h2 h)
theorem FZ(x:Int):0<BC x ↔ 0<x:=by unfold BC;split<;>(try split)<;>omega
theorem Ca(x:Int):BC x<0 ↔ x<0:=by unfold BC;split<;>(try split)<;>omega
theorem Agx(b a:RL):BQ b a=1\/BQ b a=-1\/BQ b a=0:=by
 unfold BQ;split
 .exact .inl rfl
 .split
  .exact .inr (.inl rfl)
  .exact .inr (.inr rfl)
theorem U5{k:Nat}{a b:RL}(i j:Nat){st:InS}(h1:OB k st.lo)(h2:OB k st.hi)(hb:InB k b.1.k):OB k (Gy a i j st b).lo/\OB k (Gy a i j st b).hi:=by
 have ha:∀ s,InB k (YP b s):=λs=>by
  unfold YP;split
  .exact hb
  .exact hb.neg
 unfold Gy;split
 .exact⟨h1,h2⟩
 .refine⟨?_,?_⟩
  .show OB k (if _ then _ else _)
   split
   .exact Ail h1 (ha _)
   .exact h1
  .show OB k (if _ then _ else _)
   split
   .exact Aik h2 (ha _)
   .exact h2
section
variable {D:Orc} (Ky:Knows Al PA D) (Kt:Knows Al GA D) (Kh:Knows Al Hj D) (F:RF D)
include Ky Kt Kh F
set_option maxHeartbeats 4000000 in
theorem Agv{n k:Nat}(hn:n<=100000)(hk:k<=1000000)(T:List RL)(hl:T.length<=100000)(hT:∀ r∈T,LB n k r.1){a:RL}(pa:Pln a.1.ps)(la:LB n k a.1)(i:Nat)(X:List (List AV)):∀(m j:Nat) (st:InS),T.length-j=m->j<=T.length->OB k st.lo->OB k st.hi->
  D.ask (.lp 7 2) [.ls (T.map BX),.ls X,iv (i:Int),.ptr 0 0,bv st.first,.ptr 1 0,.ptr 2 0,bv st.lo.isSome,bv st.hi.isSome,iv (j:Int)] [bk (BX a),bk (eO st.lo),bk (eO st.hi)]
   = Θ (.tup [iv 4,.ls (T.map BX),.ls X,iv (i:Int),.ptr 0 0,bv (Dy a i j st (T.drop j)).first,.ptr 1 0,.ptr 2 0,bv (Dy a i j st (T.drop j)).lo.isSome,bv (Dy a i j st (T.drop j)).hi.isSome],[.set (bk (BX a)),.set (bk (eO (Dy a i j st (T.drop j)).lo)),.set (bk (eO (Dy a i j st (T.drop j)).hi))]):=by
 intro m
 induction m with
 |zero=>
  intro j st hm hj h1 h2;rw[AqX (by omega),Dy];refine Au Ky hn7 (Ali ..) ?_;rw[Ak];exact Ag rfl
 |succ m ih=>
  intro j st hm hj hlo hhi;have h1:j<T.length:=by omega
  have hb:=hT T[j] (Arc h1);have gs:=ZR Ky Kt Kh F la hb pa hn hk;have ob:=U5 (a:=a) i j hlo hhi hb.k;have ih:=ih (j+1) (Gy a i j st T[j]) (by omega) (by omega) ob.1 ob.2;rw[κ h1,Dy];refine Au Ky hn7 (Ali ..) ?_;rw[Ak];refine Aj ?_;rw[Av,At (ξ h1)];generalize T[j]=b at *;have e0:Gy a i j st b=if BQ b a=0 then st else ⟨st.first&&!decide (j<i),if 0<BQ b a\/b.2=Δ then PZ st.lo (YP b (BQ b a)) else st.lo,if BQ b a<0\/b.2=Δ then Wu st.hi (YP b (BQ b a)) else st.hi⟩:=rfl
  generalize Dy a i (j+1) (Gy a i j st b) (T.drop (j+1))=R at *;generalize Gy a i j st b=st' at *;obtain⟨⟨bp,bk0⟩,e⟩:=b;have h3:=Agx (⟨bp,bk0⟩,e) a;generalize hsp:BQ (⟨bp,bk0⟩,e) a=s at *;have hbk:InB k bk0:=hb.k;have gneg:=F.neg (Aq bk0) (hbk.lz.mono (by omega));have gcln:=F.clean (Aq bk0) (hbk.lz.mono (by omega));have gcm:∀ v w:Int,InB k v->InB k w->D.ask (.fn 21) [.agg (eZ (Aq v)),.agg (eZ (Aq w))] []=Θ (iv (BC (v-w)),[]):=λv w hv hw=>by
   have:=F.cmp (Aq v) (Aq w) (hv.lz.mono (by omega)) (hw.lz.mono (by omega));rw[AE,AE]at this;exact this
  rw[AE]at gneg gcln;simp only[BX,CY,eT,eN,eZ,Lf.tm,Arm,Aq4,ND,DK,Ab]at gs gneg gcln ⊢;refine Aa gs ?_;simp only[ND,DK,Ab];rw[BA (by omega)]
  by_cases h0:s=0
  .rw[if_pos h0]at e0
   subst e0;refine Bu ?_ h0;refine Aa ih ?_;rfl
  rw[if_neg h0]at e0;refine AN ?_ h0;subst e0;obtain⟨f,lo,hi⟩:=st;have hlo:OB k lo:=hlo;have hhi:OB k hi:=hhi;have key:∀(v:Int) lo' hi',YP (⟨bp,bk0⟩,e) s=v->(if 0<s\/e=Δ then PZ lo v else lo)=lo'->(if s<0\/e=Δ then Wu hi v else hi)=hi'->
    D.ask (.lp 7 2) [.ls (T.map BX),.ls X,iv (i:Int),.ptr 0 0,bv (f&&!decide (j<i)),.ptr 1 0,.ptr 2 0,bv lo'.isSome,bv hi'.isSome,iv ((j+1:Nat):Int)] [bk (BX a),bk (eO lo'),bk (eO hi')]
     = Θ (.tup [iv 4,.ls (T.map BX),.ls X,iv (i:Int),.ptr 0 0,bv R.first,.ptr 1 0,.ptr 2 0,bv R.lo.isSome,bv R.hi.isSome],[.set (bk (BX a)),.set (bk (eO R.lo)),.set (bk (eO R.hi))]):=by
   rintro _ _ _ rfl rfl rfl;exact ih
  clear ih ob;generalize hF:(f&&!decide (j<i))=F' at key;refine AaC (λhji=>?_) (λhji=>?_);obtain rfl:F'=Φ:=by rw[←hF,decide_eq_true (show j<i by omega)];cases f<;>rfl
  rotate_left
  obtain rfl:F'=f:=by rw[←hF,decide_eq_false (show ¬ j<i by omega)];cases f<;>rfl
  all_goals
   refine Aa gneg ?_;simp only[ND,DK,Ab];rcases h3 with rfl|rfl|h3
   rotate_left
   rotate_left
   .exact absurd h3 h0
   have gcmp:=λw hw=>gcm (-bk0) w hbk.neg hw
   have key:=λl h=>key (-bk0) l h (if_neg (by decide))
   clear gneg gcln;simp only[eZ,eN]at gcmp;generalize -bk0=v at *;refine(CK (by decide)).trans ((Lx (by decide)).trans ?_);rcases lo with _|u
   have key:=λh=>key (Θ v) h (if_pos (.inl (by decide)))
   refine(HE _ _).trans ((CK (by decide)).trans ?_);rcases e with _|_
   .exact(I0 _ _).trans ((Cm (key _ (if_neg (by decide))) _).trans rfl)
   refine Ac ?_;have HIQ:(1:Int)<0\/Δ=Δ:=.inr rfl
   rotate_left
   refine(I0 _ _).trans ((Cm (gcmp u (hlo u rfl)) _).trans ?_);simp only[ND,DK,Ab]
   by_cases hu:u<v
   have key:=λh=>key (Θ v) h ((if_pos (.inl (by decide))).trans (if_pos hu))
   refine(Lx ((FZ _).2 (by omega))).trans ((CK (by decide)).trans ?_);rcases e with _|_
   .exact(I0 _ _).trans ((Cm (key _ (if_neg (by decide))) _).trans rfl)
   refine Ac ?_;have HIQ:(1:Int)<0\/Δ=Δ:=.inr rfl
   rotate_left
   have key:=λh=>key (Θ u) h ((if_pos (.inl (by decide))).trans (if_neg hu))
   refine(CK (λh=>hu (by have:=(FZ _).1 h;omega))).trans ((CK (by decide)).trans ?_);rcases e with _|_
   .exact(I0 _ _).trans ((Cm (key _ (if_neg (by decide))) _).trans rfl)
   refine Ac ?_;have HIQ:(1:Int)<0\/Δ=Δ:=.inr rfl
   rotate_left
   have gcmp:=λw hw=>gcm bk0 w hbk hw
   have key:=λl h=>key bk0 l h (if_pos (by decide))
   simp only[eZ,eN]at gcmp;refine(Lx (by decide)).trans ((Cm gcln _).trans ?_);simp only[ND,DK,Ab];clear gneg gcln;generalize bk0=v at *;have HIQ:(-1:Int)<0\/e=Δ:=.inl (by decide);refine Ag ?_ (by decide);rcases e with _|_
   have key:=λh=>key lo h (if_neg (by decide))
   refine(I0 _ _).trans ((Lx (by decide)).trans ?_)
   rotate_left
   refine Ac ?_;rcases lo with _|u
   have key:=λh=>key (Θ v) h (if_pos (.inr rfl))
   refine(HE _ _).trans ((Lx (by decide)).trans ?_)
   rotate_left
   refine(I0 _ _).trans ((Cm (gcmp u (hlo u rfl)) _).trans ?_);simp only[ND,DK,Ab]
   by_cases hu:u<v
   have key:=λh=>key (Θ v) h ((if_pos (.inr rfl)).trans (if_pos hu))
   refine(Lx ((FZ _).2 (by omega))).trans ((Lx (by decide)).trans ?_)
   rotate_left
   have key:=λh=>key (Θ u) h ((if_pos (.inr rfl)).trans (if_neg hu))
   refine(CK (λh=>hu (by have:=(FZ _).1 h;omega))).trans ((Lx (by decide)).trans ?_)
   all_goals
    rcases hi with _|w
    .exact(HE _ _).trans ((Cm (key _ (if_pos HIQ)) _).trans rfl)
    refine(I0 _ _).trans ((Cm (gcmp w (hhi w rfl)) _).trans ?_);simp only[ND,DK,Ab]
    by_cases hw:v<w
    .exact(Lx ((Ca _).2 (by omega))).trans ((Cm (key _ ((if_pos HIQ).trans (if_pos hw))) _).trans rfl)
    .exact(CK (λh=>hw (by have:=(Ca _).1 h;omega))).trans ((Cm (key _ ((if_pos HIQ).trans (if_neg hw))) _).trans rfl)
end
theorem Up{k:Nat}{a:RL}(i:Nat):∀(l:List RL) (j:Nat) (st:InS),(∀ r∈l,InB k r.1.k)->OB k st.lo->OB k st.hi->OB k (Dy a i j st l).lo/\OB k (Dy a i j st l).hi
 |[],_,_,_,h1,h2=>⟨h1,h2⟩
 |b::r,j,st,hb,h1,h2=>by
  obtain⟨g1,g2⟩:=U5 (a:=a) i j h1 h2 (hb b (List.mem_cons_self ..));rw[Dy];exact Up i r (j+1) _ (λx hx=>hb x (List.mem_cons_of_mem _ hx)) g1 g2
theorem AgO{ps:List (Int × Int)}(hp:Pln ps)(hne:ps≠[])(h1:DZ 0 ps=1)(u:Int):CH (Lf.tm ⟨ps,-u⟩) Δ=(((VV ps u).1.tm,(VV ps u).2),0):=by
 have hps:=B7 hp;have hc:Cu (Lf.tm ⟨ps,-u⟩)=1:=by
  unfold Cu;rw[BE,hps,h1]
 have h0:(Lf.tm ⟨ps,-u⟩).ps≠[]:=λh0=>hne (List.map_eq_nil_iff.1 h0)
 have q1:∀ x:Int,rZ x ((1:Nat):Int)=0/\qZ x ((1:Nat):Int)=x:=λx=>by
  have:=Pa (g:=1) (Int.one_dvd x) (by decide);rw[Int.mul_one]at this;exact this
 have es:DP (Lf.tm ⟨ps,-u⟩)=Lf.tm ⟨ps,-u⟩:=by
  unfold DP;rw[if_neg (by rw[hc];decide),hc,BE,hps,(q1 _).2];unfold Lf.tm;rw[AE]
  congr 1
  refine List.map_congr_left λq _=>?_
  show AP (q.1,qZ q.2 ((1:Nat):Int))=AP q
  rw[(q1 _).2]
 unfold CH VV;rw[if_neg h0,es,hc,(q1 _).1,Wg,if_pos rfl,if_pos rfl,BE,Fa hp]
 show ((if He ps<0 then Lf.tm ⟨negP ps,- -u⟩ else Lf.tm ⟨ps,-u⟩,Δ),(0:Int))=_
 rw[Int.neg_neg];split<;>rfl
section
variable {D:Orc} (Ky:Knows Al PA D) (Kt:Knows Al GA D) (Kh:Knows Al Hj D) (F:RF D) (Kv:Knows Al U8 D)
include Ky Kt Kh F Kv
theorem Agj{n k:Nat}(hn:n<=100000)(hk:k<=1000000)(r:RL)(l:List RL)(hl:l.length<=400000)(hr:LB n k r.1/\Pln r.1.ps)(hb:∀ x∈l,LB n k x.1/\Pln x.1.ps):D.ask (.fn 25) [.ls (l.map BX),.agg (BX r)] []=Θ (.ls ((ET r l).map BX),[]):=
 Adr Ky r l hl λx hx=>by
  have:=Adj Kv F Kt Kh hr.1.tb (hb x hx).1.tb (by omega) (by omega) r.2 x.2;rw[BE,BE]at this;have e1:r.1.pln=r.1:=by unfold Lf.pln;rw[B7 hr.2]
  have e2:x.1.pln=x.1:=by unfold Lf.pln;rw[B7 (hb x hx).2]
  rw[e1,e2]at this;exact this
set_option maxHeartbeats 4000000 in
theorem Agu{n k:Nat}(hn:n<=100000)(hk:k<=1000000)(gT:∀(t:Tm),TmB n k t->D.ask (.fn 17) [.agg (CY (t,Δ))] []=Θ (.tup [.agg (CY (CH t.lf.pln.tm Δ).1),iv (CH t.lf.pln.tm Δ).2],[]))
  (T:List RL) (hl:T.length<=100000) (hT:∀ r∈T,TgR r/\LB n k r.1):∀(m i:Nat) (out:List RL),T.length-i=m->i<=T.length->out.length<=2*i->(∀ x∈out,LB n k x.1/\Pln x.1.ps)->
  D.ask (.lp 7 1) [.ls (T.map BX),.ls (out.map BX),iv (i:Int)] []=Θ (match Fo T i (T.drop i) out with
   |none=>(.tup [bv Δ,.ls [],bv Φ],[])
   |some o=>(.tup [iv 2,.ls (o.map BX)],[])):=by
 intro m
 induction m with
 |zero=>
  intro i out hm hi ho hb;rw[AqX (by omega),Fo];refine Au Ky hn7 (Alh ..) ?_;rw[Ak];exact Ag rfl
 |succ m ih=>
  intro i out hm hi ho hb;have h1:i<T.length:=by omega
  have ih:=λout=>ih (i+1) out (by omega) (by omega)
  obtain⟨ta,la⟩:=hT T[i] (Arc h1);have gI:=Agv Ky Kt Kh F hn hk T hl (λr hr=>(hT r hr).2) ta.pln la i (out.map BX) _ 0 ⟨Δ,Ξ,Ξ⟩ rfl (by omega) (DM k) (DM k);obtain⟨hlo,hhi⟩:=Up (k:=k) (a:=T[i]) i T 0 ⟨Δ,Ξ,Ξ⟩ (λr hr=>(hT r hr).2.k) (DM k) (DM k);have e0:eO Ξ=[bv Φ,.ls []]:=by
   unfold eO;rw[Option.getD_none,IC];rfl
  dsimp only at gI;rw[AqQ,e0]at gI;refine Au Ky hn7 (Alh ..) ?_;rw[Ak,κ h1];refine Aj ?_;rw[Av,At (ξ h1)];generalize T[i]=a at *;have ho2:Fo T i (a::T.drop (i+1)) out=if NT (Dy a i 0 ⟨Δ,Ξ,Ξ⟩ T)=Δ then Ξ else Fo T (i+1) (T.drop (i+1)) (if(Dy a i 0 ⟨Δ,Ξ,Ξ⟩ T).first=Δ then Zj a (Dy a i 0 ⟨Δ,Ξ,Ξ⟩ T) out else out):=rfl
  generalize Dy a i 0 ⟨Δ,Ξ,Ξ⟩ T=st at *;have key:∀ X:List RL,NT st=Φ->(if st.first=Δ then Zj a st out else out)=X->X.length<=2*(i+1)->(∀ x∈X,LB n k x.1/\Pln x.1.ps)->D.ask (.lp 7 1) [.ls (T.map BX),.ls (X.map BX),iv ((i+1:Nat):Int)] []=Θ (match Fo T i (a::T.drop (i+1)) out with
   |none=>(.tup [bv Δ,.ls [],bv Φ],[])
   |some o=>(.tup [iv 2,.ls (o.map BX)],[])):=λX g1 g2 g3 g4=>by
   rw[ih X g3 g4,ho2,if_neg (by rw[g1];decide),g2]
  have hbad:NT st=Δ->(match Fo T i (a::T.drop (i+1)) out with
   |none=>((.tup [bv Δ,.ls [],bv Φ],[]):AV × List BO)
   |some o=>(.tup [iv 2,.ls (o.map BX)],[]))=(.tup [bv Δ,.ls [],bv Φ],[]):=λh=>by
   rw[ho2,if_pos h]
  obtain⟨rv,hrv,htl⟩:∃ rv,(match Fo T i (a::T.drop (i+1)) out with
   |none=>((.tup [bv Δ,.ls [],bv Φ],[]):AV × List BO)
   |some o=>(.tup [iv 2,.ls (o.map BX)],[]))=(rv,[])/\∀ H:AH,As 0 [] H [] (.tup [bv Δ,.ls [],bv Φ]) []=Θ (.tup [bv Δ,.ls [],bv Φ],[])->(∀ xs:List RL,As 0 [] H [] (.tup [iv 2,.ls (xs.map BX)]) []=Θ (.tup [iv 2,.ls (xs.map BX)],[]))->As 0 [] H [] rv []=Θ (rv,[]):=by
   cases Fo T i (a::T.drop (i+1)) out with
   |none=>exact⟨_,rfl,λ_ h _=>h⟩
   |some o=>exact⟨_,rfl,λ_ _ h=>h o⟩
  rw[hrv]at hbad ⊢;simp only[hrv]at key;clear ho2 ih;obtain⟨⟨ps,k0⟩,e⟩:=a;have la0:LB n k ⟨ps,0⟩:=⟨la.len,la.ps,InB.zero k⟩;have lp:∀{x},InB k x->LB n k ⟨ps,x⟩:=λh=>⟨la.len,la.ps,h⟩
  have hp:Pln ps:=ta.pln;have gp:=Md Ky ⟨ps,k0⟩;have gnum:∀{u},InB k u->D.ask (.fn 24) [.agg (eZ (Aq u))] []=Θ (.agg (eT (Lf.num u).tm),[]):=λ{u} h=>by
   have:=WO Kt F (h.lz.mono (by omega))
   rwa [AE]at this
  have gs1:∀{u},InB k u->D.ask (.fn 23) [.agg (eT (Lf.tm ⟨ps,0⟩)),.agg (eT (Lf.num u).tm)] []=Θ (.agg (eT (Lf.tm ⟨ps,-u⟩)),[]):=λ{u} h=>by
   have:=Yl Kt Kh F la0.tb (OY h) (by omega) (by omega)
   rwa [BE,BE,SQ hp,Int.zero_sub]at this
  have gs2:∀{u},InB k u->D.ask (.fn 23) [.agg (eT (Lf.num u).tm),.agg (eT (Lf.tm ⟨ps,0⟩))] []=Θ (.agg (eT (Lf.tm ⟨negP ps,u⟩)),[]):=λ{u} h=>by
   have:=Yl Kt Kh F (OY h) la0.tb (by omega) (by omega)
   rwa [BE,BE,X7 hp,Int.sub_zero]at this
  have gt:∀{u},InB k u->D.ask (.fn 17) [.agg (CY (Lf.tm ⟨ps,-u⟩,Δ))] []=Θ (.tup [.agg (BX (VV ps u)),iv 0],[]):=λ{u} h=>by
   have:=gT (Lf.tm ⟨ps,-u⟩) (lp h.neg).tb;rw[BE,O8 hp,AgO hp ta.ne ta.one]at this;exact this
  have gcm:∀{v w:Int},InB k v->InB k w->D.ask (.fn 21) [.agg (eZ (Aq v)),.agg (eZ (Aq w))] []=Θ (iv (BC (v-w)),[]):=λ{v w} hv hw=>by
   have:=F.cmp (Aq v) (Aq w) (hv.lz.mono (by omega)) (hw.lz.mono (by omega));rw[AE,AE]at this;exact this
  have gi:=λr l=>Agj Ky Kt Kh F Kv hn hk (r:=r) (l:=l)
  have okE:∀{u},InB k u->LB n k (VV ps u).1/\Pln (VV ps u).1.ps:=λ{u} h=>by
   unfold VV;split
   .exact⟨LB.negP (lp h),Di hp⟩
   .exact⟨lp h.neg,hp⟩
  have okL:∀{u},InB k u->LB n k (⟨ps,-u⟩:Lf)/\Pln ps:=λh=>⟨lp h.neg,hp⟩
  have okH:∀{u},InB k u->LB n k (⟨negP ps,u⟩:Lf)/\Pln (negP ps):=λh=>⟨LB.negP (lp h),Di hp⟩
  have okI:∀{r:RL} {l:List RL},(LB n k r.1/\Pln r.1.ps)->(∀ x∈l,LB n k x.1/\Pln x.1.ps)->∀ x∈ET r l,LB n k x.1/\Pln x.1.ps:=λh1 h2 x hx=>by
   rcases (D7 _ _ _).1 hx with rfl|hx
   .exact h1
   .exact h2 x hx
  obtain⟨fi,lo,hi'⟩:=st;have hlo:OB k lo:=hlo;have hhi:OB k hi':=hhi;simp only[BX,CY,eT,eN,eZ,eO,Arm,Aq4,ND,DK,Ab]at gI gp ⊢;refine Aa gI ?_;simp only[ND,DK,Ab];refine Ac ?_;rw[BA (by omega)]
  cases lo with
  |some u=>
   have hu:InB k u:=hlo u rfl;have gn1:=gnum hu;have gsb1:=gs1 hu;have gtt:=gt hu;simp only[BX,CY,eT,eN,eZ,Arm,Aq4]at gn1 gsb1 gtt;refine(HE _ _).trans ((HE _ _).trans ?_)
   cases hi' with
   |some v=>
    have hv:InB k v:=hhi v rfl;have gc:=gcm hu hv;have gn2:=gnum hv;have gsb2:=gs2 hv;simp only[eT,eZ,eN]at gc gn2 gsb2;refine Ac ?_;refine Aa gc ?_;simp only[ND,DK,Ab]
    by_cases hvu:v<u
    .refine Aj ?_ ((FZ _).2 (by omega))
     rw[hbad (decide_eq_true hvu)]
    .refine Ag ?_ (λh=>hvu (by have:=(FZ _).1 h;omega))
     have nb:NT ⟨fi,Θ u,Θ v⟩=Φ:=decide_eq_false hvu
     cases fi with
     |false=>exact(HE _ _).trans ((Cm (key out nb rfl (by omega) hb) _).trans (htl _ rfl λ_=>rfl))
     |true=>
      refine Ba ?_;refine Aa gp ?_;simp only[ND,DK,Ab];refine(HE _ _).trans ((HE _ _).trans ((HE _ _).trans ?_));refine Aa gc ?_;simp only[ND,DK,Ab]
      by_cases huv:u=v
      .refine Bu ?_ ((Jj _).2 (by omega))
       refine Aa gn1 ?_;simp only[ND,DK,Ab];refine Aa gsb1 ?_;simp only[ND,DK,Ab];refine Aa gtt ?_;simp only[ND,DK,Ab];refine Aa (gi (VV ps u) out (by omega) (okE hu) hb) ?_;simp only[ND,DK,Ab];exact(Cm (key (ET (VV ps u) out) nb ((if_pos rfl).trans (if_pos huv)) (by rw[Fk];omega) (okI (okE hu) hb)) _).trans (htl _ rfl λ_=>rfl)
      .refine AN ?_ (λh=>huv (by have:=(Jj _).1 h;omega))
       refine Ac ?_;refine Aa gn1 ?_;simp only[ND,DK,Ab];refine Aa gsb1 ?_;simp only[ND,DK,Ab];refine Aa (gi (⟨ps,-u⟩,Φ) out (by omega) (okL hu) hb) ?_;simp only[ND,DK,Ab];refine Ac ?_;refine Aa gn2 ?_;simp only[ND,DK,Ab];refine Aa gsb2 ?_;simp only[ND,DK,Ab];refine Aa (gi (⟨negP ps,v⟩,Φ) (ET (⟨ps,-u⟩,Φ) out) (by rw[Fk];omega) (okH hv) (okI (okL hu) hb)) ?_;simp only[ND,DK,Ab];exact(Cm (key (ET (⟨negP ps,v⟩,Φ) (ET (⟨ps,-u⟩,Φ) out)) nb ((if_pos rfl).trans (if_neg huv)) (by rw[Fk,Fk];omega) (okI (okH hv) (okI (okL hu) hb))) _).trans (htl _ rfl λ_=>rfl)
   |none=>
    have nb:NT ⟨fi,Θ u,Ξ⟩=Φ:=rfl;refine Ba ?_
    cases fi with
    |false=>exact(HE _ _).trans ((Cm (key out nb rfl (by omega) hb) _).trans (htl _ rfl λ_=>rfl))
    |true=>
     refine Ba ?_;refine Aa gp ?_;simp only[ND,DK,Ab];refine(HE _ _).trans ((HE _ _).trans ((I0 _ _).trans ((HE _ _).trans ?_)));refine Aa gn1 ?_;simp only[ND,DK,Ab];refine Aa gsb1 ?_;simp only[ND,DK,Ab];refine Aa (gi (⟨ps,-u⟩,Φ) out (by omega) (okL hu) hb) ?_;simp only[ND,DK,Ab];refine Ba ?_;exact(Cm (key (ET (⟨ps,-u⟩,Φ) out) nb (if_pos rfl) (by rw[Fk];omega) (okI (okL hu) hb)) _).trans (htl _ rfl λ_=>rfl)
  |none=>
   have nb:NT ⟨fi,Ξ,hi'⟩=Φ:=by cases hi'<;>rfl
   refine(I0 _ _).trans ((I0 _ _).trans ?_)
   cases fi with
   |false=>exact(HE _ _).trans ((Cm (key out nb rfl (by omega) hb) _).trans (htl _ rfl λ_=>rfl))
   |true=>
    refine Ba ?_;refine Aa gp ?_;simp only[ND,DK,Ab];refine(I0 _ _).trans ((I0 _ _).trans ((I0 _ _).trans ?_))
    cases hi' with
    |some v=>
     have hv:InB k v:=hhi v rfl;have gn2:=gnum hv;have gsb2:=gs2 hv;simp only[eT,eZ,eN]at gn2 gsb2;refine Ac ?_;refine Aa gn2 ?_;simp only[ND,DK,Ab];refine Aa gsb2 ?_;simp only[ND,DK,Ab];refine Aa (gi (⟨negP ps,v⟩,Φ) out (by omega) (okH hv) hb) ?_;simp only[ND,DK,Ab];exact(Cm (key (ET (⟨negP ps,v⟩,Φ) out) nb (if_pos rfl) (by rw[Fk];omega) (okI (okH hv) hb)) _).trans (htl _ rfl λ_=>rfl)
    |none=>exact(I0 _ _).trans ((Cm (key out nb (if_pos rfl) (by omega) hb) _).trans (htl _ rfl λ_=>rfl))
theorem AdA{n k:Nat}(hn:n<=100000)(hk:k<=1000000)(rs:List (Tm × Bool))(hl:rs.length<=10000)
  (gT:∀(t:Tm) (e:Bool),TmB n k t->D.ask (.fn 17) [.agg (CY (t,e))] []=Θ (.tup [.agg (CY (CH t.lf.pln.tm e).1),iv (CH t.lf.pln.tm e).2],[]))
  (hT:∀ x∈rs,TmB n k x.1/\TmB n k (CH x.1.lf.pln.tm x.2).1.1) :
  ∃ o:Option (List RL),D0 (rs.map Jh) o/\D.ask (.fn 7) [.ls (rs.map CY)] []=Θ (match o with|some s=>.tup [.ls (s.map BX),bv Δ] | none=>.tup [.ls [],bv Φ],[]):=by
 have g0:=Agt Ky rs (by omega) (λx hx=>gT x.1 x.2 (hT x hx).1) _ 0 [] rfl (by omega) (by simp);rw[AqQ]at g0;unfold D0
 cases e:Da (rs.map Jh) with
 |none=>
  rw[e]at g0;refine⟨Ξ,rfl,?_⟩;refine AB Ky hn7 (e7 ..) ?_;refine Aa g0 ?_;rfl
 |some T=>
  rw[e]at g0;have ht:=NA e;have hlen:=Lj e;rw[Aq7]at hlen;have hb:∀ r∈T,TgR r/\LB n k r.1:=λr hr=>⟨ht r hr,by
   obtain⟨y,hy,_,rfl⟩:=((Iw (rs:=rs.map Jh)).2 T e r).1 hr;obtain⟨x,hx,rfl⟩:=Arj.1 hy;exact(hT x hx).2.lb⟩
  have g1:=Agu Ky Kt Kh F Kv hn hk (λt h=>gT t Δ h) T (by omega) hb _ 0 [] rfl (by omega) (by simp) (λx hx=>by cases hx);rw[AqQ]at g1;have ot:=WH ht;refine⟨Fo T 0 T [],ot,?_⟩;have hbl:AqZ (0+T.length*4) (Ah BX T).length=Δ:=AF Cb T (by omega);have hch:Bi T.length 4 ((Ah BX T).take (T.length*4))=T.map BX:=Bp Cb T rfl;refine AB Ky hn7 (e7 ..) ?_;refine Aa g0 ?_;simp only[ND,DK,Ab,Aq4];rw[hbl];refine Ac ?_;rw[hch];refine Aa g1 ?_
  cases Fo T 0 T []<;>rfl
end
section
variable {D:Orc} (Kl:Knows Al W4 D) (Kw:Knows Al Yt D) (Kv:Knows Al U8 D) (Kr:Knows Al GA D) (Kq:Knows Al Q7 D) (Kh:Knows Al Hj D) (Krs:Knows Al U7 D) (Ku:Knows Al Yv D) (Ky:Knows Al PA D) (F:RF D) (Wr:RdF D)
include Kl Kw Kv Kr Kq Kh Krs Ku Ky F Wr
theorem PY(S:D.ask (.fn 4) [] []=Θ (bv Δ,[]))
  (tidy:∀{n k:Nat},n<=100000->1<=k->k+4*n+4<=1000000->∀{rs:List (Tm × Bool)},rs.length<=10000->(∀ x∈rs,TmB n k x.1)->(∃ qs:List RL,qs.length<=12/\∀ x,x∈rs.map Jh ↔ x∈qs)->
   ∃ o:Option (List RL),D0 (rs.map Jh) o/\D.ask (.fn 6) [.ls (rs.map CY)] []=Θ (match o with|some s=>.tup [.ls (s.map BX),bv Δ] | none=>.tup [.ls [],bv Φ],[]))
  (rs:List (Tm × Bool)) (hl:rs.length<4611686018427387904) (hr:∀ r∈rs,LmT r.1):D.ask (.fn 3) [.ls (rs.map CY)] []=Θ (bv Δ,[]):=by
 have gf:=Ai5 Kw rs 12 (8:Nat) (by omega);have body:(decide (rs.length<=12)&&rs.all (Ss ((8:Nat):Int)))=Δ->∃ o:Option (List RL),D.ask (.fn 6) [.ls (rs.map CY)] []=Θ (.tup [.ls ((o.getD []).map BX),bv o.isSome],[])/\D.ask (.fn 7) [.ls (rs.map CY)] []=Θ (.tup [.ls ((o.getD []).map BX),bv o.isSome],[]) ∧
   D.ask (.fn 8) [.ls ((o.getD []).map BX),.ls ((o.getD []).map BX)] []=Θ (bv Δ,[]):=λh1=>by
  rw[Bool.and_eq_true,decide_eq_true_eq,List.all_eq_true]at h1;obtain⟨h1,h3⟩:=h1;have hb:∀ x∈rs,TmB 20 8 x.1:=λx hx=>(hr x hx).tmb (h3 x hx)
  obtain⟨o,ho,g⟩:=tidy (n:=20) (k:=8) (by omega) (by omega) (by omega) (rs:=rs) (by omega) hb ⟨rs.map Jh,by rw[Aq7];omega,λ_=>Iff.rfl⟩;obtain⟨o',ho',g'⟩:=AdA (n:=20) (k:=92) Ky Kr Kh F Kv (by omega) (by omega) rs (by omega) (λt e ht=>ZU Kr Kh F Krs Wr Ku ht (by omega) (by omega) (by omega) e) (λx hx=>⟨(hb x hx).mono (Nat.le_refl _) (by omega),W5 (hb x hx) (by omega) x.2⟩);obtain rfl:=PD ho ho';refine⟨o,g.trans (by cases o<;>rfl),g'.trans (by cases o<;>rfl),?_⟩;have key:∀ s:List RL,s.length<=12->(∀ r∈s,LB 20 92 r.1)->D.ask (.fn 8) [.ls (s.map BX),.ls (s.map BX)] []=Θ (bv Δ,[]):=λs h1 h2=>by
   have:=P1 Kv F Kr (s.map tmT) (n:=20) (k:=92) (by rw[Aq7];omega) (by omega) (by omega) (λr hr=>by
    obtain⟨x,hx,rfl⟩:=Arj.1 hr;exact(h2 x hx).tb) Kq
   rw[List.map_map]at this;exact this
  cases o with
  |none=>exact key [] (by decide) λr hr=>(by cases hr)
  |some s=>
   have hlen:=Aah ho;rw[Aq7]at hlen;obtain⟨_,hm⟩:=Ad3 (n:=20) (k:=92) ho λr hr=>by
    obtain⟨x,hx,rfl⟩:=Arj.1 hr;exact(W5 (hb x hx) (by omega) x.2).lb
   exact key s (by omega) λr hr=>(hm r hr).1
 refine AB Kl hn3 (e3 ..) ?_;refine Aa S ?_;simp only[ND,DK,Ab];refine Aa gf ?_;simp only[ND,DK,Ab]
 cases h1:(decide (rs.length<=12)&&rs.all (Ss ((8:Nat):Int))) with
 |false=>rfl
 |true=>
  refine Ac ?_;obtain⟨o,g1,g2,g3⟩:=body h1;refine Aa g1 ?_;simp only[ND,DK,Ab];refine Aa g2 ?_;simp only[ND,DK,Ab];generalize o.isSome=b;rw[show Af.beq b b=Δ by cases b<;>rfl];refine Ac ?_;refine Aa g3 ?_;rfl
