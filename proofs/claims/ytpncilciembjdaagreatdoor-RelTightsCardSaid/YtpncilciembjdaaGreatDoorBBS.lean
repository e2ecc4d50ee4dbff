/- When two formulas are th -/
import Derived.Test.YtpncilciembjdaaGreatDoorBBQ
set_option linter.all false
open Bool renaming false_eq_true->Aqw
open List renaming all_cons->ArM,drop_eq_getElem_cons->ω,drop_eq_nil_of_le->υ,drop_zero->χ,getElem?_eq_getElem->Ψ,getElem_mem->ApP,length_map->Api,map_cons->Aps,map_nil->Aqq,mem_cons->Aph,mem_singleton->Aqb
open Nat renaming le_refl->φ,le_trans->Apx,zero_le->ApM
namespace Go.Proofs.YtpncilciembjdaaGreatDoor
open Go.RowKit
def YM(a b:Int):Int:=if a=0 then b else a
def J2(p q:Int × Int):Int:=YM (DR p.1 q.1) (DR p.2 q.2)
def Jn:List (Int × Int)->List (Int × Int)->Option Int
 |[],_=>none
 |_::_,[]=>some 1
 |p::a,q::b=>if J2 p q=0 then Jn a b else some (J2 p q)
def Qk(a b:List (Int × Int)):Int:=match Jn a b with
 |some n=>n
 |none=>if a.length<b.length then -1 else 0
theorem TD:∀{a b:List (Int × Int)} {n:Int},Jn a b=some n->n≠0
 |[],_,_,h=>by cases h
 |_::_,[],n,h=>by
  rw[Jn]at h;injection h with h
  omega
 |p::a,q::b,n,h=>by
  rw[Jn]at h;split at h
  .exact TD h
  .rename_i h0
   injection h with h
   rw[←h];exact h0
def Sg(a b:Lf):Int:=YM (Qk a.ps b.ps) (DR a.k b.k)
def Y4(e:Bool):Int:=if e then 1 else 0
def Sf(a b:Lf)(e f:Bool):Int:=YM (Sg a b) (DR (Y4 e) (Y4 f))
theorem CanFs.mem:∀{l:List Fm},CanFs l->∀ x∈l,CanF x
 |_::_,.cons h hr,x,hx=>by
  rcases Aph.1 hx with rfl|hx
  .exact h
  .exact hr.mem x hx
theorem CanF.kids{x:Fm}(h:CanF x):∀ y∈x.kids,CanF y:=by
 cases h with
 |tru b=>intro y hy;cases b<;>cases hy
 |atom l e h=>intro y hy;cases hy
 |no x h=>intro y hy;rcases Aqb.1 hy with rfl;exact h
 |and l h=>exact h.mem
 |or l h=>exact h.mem
 |no0=>intro y hy;cases hy
theorem CanF.head{x:Fm}(h:CanF x):(x.kind=2/\x.kids=[]/\∃ l:Lf,l.pln=l/\x.tm=l.tm)\/(x.kind≠2/\x.tm=Tm0/\x.eq=false):=by
 cases h with
 |tru b=>exact .inr ⟨by cases b<;>decide,rfl,rfl⟩
 |atom l e h=>exact .inl ⟨rfl,rfl,l,h,rfl⟩
 |no x h=>exact .inr ⟨by show (3:Int)≠2;decide,rfl,rfl⟩
 |and l h=>exact .inr ⟨by show (4:Int)≠2;decide,rfl,rfl⟩
 |or l h=>exact .inr ⟨by show (5:Int)≠2;decide,rfl,rfl⟩
 |no0=>exact .inr ⟨by show (3:Int)≠2;decide,rfl,rfl⟩
section
variable {D:Orc} (Kt:Knows As Gc D) (Kf:Knows As KN D) (Ks:Knows As Eh D) (Z:ZF D) (C:PartF D)  (Kl:Knows As RC D)
include Kl
theorem Aee(a b:Int):D.ask (.lp 82 0) [iv 0,.ls [[iv a],[iv b]],iv 2,iv 2] []=some (.tup [iv 0,iv 0],[]):=by
 refine Kl.lp' Vo _ rfl (by kernel_rfl) ((XC ..).trans ?_);exact Ak (by omega) rfl
theorem Aef(a b:Int):D.ask (.lp 82 0) [iv 0,.ls [[iv a],[iv b]],iv 2,iv 1] []=some (if b=0 then .tup [iv 0,iv 0] else .tup [bv true,iv b],[]):=by
 refine Kl.lp' Vo _ rfl (by kernel_rfl) ((XC ..).trans ?_);refine Aq (by omega) ?_
 show br (Ag.eq b 0) _ _=_
 by_cases h:b=0
 .refine Bi h ?_
  rw[if_pos h];refine Aa (Aee Kl a b) ?_;rfl
 .rw[if_neg h]
  exact AK h rfl
theorem S6(a b:Int):D.ask (.fn 82) [.ls [[iv a],[iv b]]] []=some (iv (YM a b),[]):=by
 have g:D.ask (.lp 82 0) [iv 0,.ls [[iv a],[iv b]],iv 2,iv 0] []=some (if YM a b=0 then .tup [iv 0,iv 0] else .tup [bv true,iv (YM a b)],[]):=by
  refine Kl.lp' Vo _ rfl (by kernel_rfl) ((XC ..).trans ?_);refine Aq (by omega) ?_
  show br (Ag.eq a 0) _ _=_
  unfold YM
  by_cases h:a=0
  .refine Bi h ?_
   rw[if_pos h];refine Aa (Aef Kl a b) ?_
   by_cases h2:b=0
   .rw[if_pos h2];rfl
   .rw[if_neg h2];rfl
  .rw[if_neg h,if_neg h]
   exact AK h rfl
 refine Kl.fn' Vo _ rfl ((e82 ..).trans ?_);refine Aa g ?_
 by_cases h:YM a b=0
 .rw[if_pos h,h];rfl
 .rw[if_neg h];rfl
include Ks Z
theorem AaS{p q:Pt}(hp:Lz 1000000000 p.z)(hq:Lz 1000000000 q.z):D.ask (.fn 154) [.agg (eP p),.agg (eP q)] []=some (iv (J2 (pv p) (pv q)),[]):=by
 have g1:=O0 Ks p.v q.v;have g2:=Z.cmp p.z q.z hp hq;obtain⟨a,n,x⟩:=p;obtain⟨b,m,y⟩:=q;refine Kl.fn' AfZ _ rfl ((AmM ..).trans ?_);refine Aa g1 ?_;simp only[ND,DK,Ab];refine Aa g2 ?_;simp only[ND,DK,Ab];refine Aa (S6 Kl _ _) ?_;rfl
theorem AaV{a b:List Pt}(la:a.length<=1000000)(lb:b.length<=1000000)(ha:∀ p∈a,Lz 1000000000 p.z)(hb:∀ p∈b,Lz 1000000000 p.z):∀(m i:Nat),a.length-i=m->i<=a.length->D.ask (.lp 156 0) [.ls (a.map eP),.ls (b.map eP),.fn (.func 154) [] [],.ls (a.map eP),iv (a.length:Int),iv (i:Int)] []=some (match Jn ((a.drop i).map pv) ((b.drop i).map pv) with|some n=>.tup [bv true,iv n] | none=>.tup [iv 0,.ls (a.map eP),.ls (b.map eP)],[]):=by
 intro m
 induction m with
 |zero=>
  intro i hm hi;rw[υ (by omega)];refine Kl.lp' QF _ rfl (by kernel_rfl) ((Xe ..).trans ?_);exact Ak (by omega) rfl
 |succ m ih=>
  intro i hm hi;have h1:i<a.length:=by omega
  have ih:=ih (i+1) (by omega) (by omega);rw[ω h1,Aps];refine Kl.lp' QF _ rfl (by kernel_rfl) ((Xe ..).trans ?_);refine Aq (by omega) ?_;rw[Av,Aw (Ψ h1)];simp only[eP,eN,ND,DK,Ab];rw[Aj]
  by_cases h2:b.length<=i
  .refine BW (by omega) ?_
   rw[υ h2];rfl
  .have h2:i<b.length:=by omega
   refine Ca (by omega) ?_;rw[Av,Aw (Ψ h2)];simp only[eP,eN,ND,DK,Ab];have gc:=AaS Ks Z Kl (ha _ (ApP h1)) (hb _ (ApP h2));refine Aa gc ?_;simp only[ND,DK,Ab];rw[ω h2,Aps,Jn]
   by_cases h3:J2 (pv a[i]) (pv b[i])=0
   .refine Bi h3 ?_
    rw[if_pos h3,BC (by omega)];refine Aa ih ?_
    cases Jn ((a.drop (i+1)).map pv) ((b.drop (i+1)).map pv)<;>rfl
   .rw[if_neg h3]
    exact AK h3 rfl
theorem W0{a b:List Pt}(la:a.length<=1000000)(lb:b.length<=1000000)(ha:∀ p∈a,Lz 1000000000 p.z)(hb:∀ p∈b,Lz 1000000000 p.z):D.ask (.fn 156) [.ls (a.map eP),.ls (b.map eP),.fn (.func 154) [] []] []=some (iv (Qk (a.map pv) (b.map pv)),[]):=by
 refine Kl.fn' QF _ rfl ((AmO ..).trans ?_);rw[Aj];refine Aa (AaV Ks Z Kl la lb ha hb _ 0 rfl (by omega)) ?_;rw[χ,χ];unfold Qk
 cases Jn (a.map pv) (b.map pv) with
 |some n=>rfl
 |none=>
  simp only[ND,DK,Ab]
  show br (Ag.lt _ _) _ _=_
  rw[Aj,Aj];simp only[Api]
  by_cases h:a.length<b.length
  .refine Aq (by omega) ?_
   rw[if_pos h]
  .refine Ak (by omega) ?_
   rw[if_neg h]
include Kt C
theorem AaT{n k:Nat}{t u:Tm}(ht:TmB n k t)(hu:TmB n k u)(hn:n<=1000000)(hk:k+n<=900000000):D.ask (.fn 83) [.agg (eT t),.agg (eT u)] []=some (iv (Sg t.lf.pln u.lf.pln),[]):=by
 have g1:=Ee Kt Ks Z C ht hn hk;have g2:=Ee Kt Ks Z C hu hn hk;have b1:=ht.lb.pln.tb;have b2:=hu.lb.pln.tb;have e1:(t.lf.pln.tm.ps).map pv=t.lf.pln.ps:=congrArg Lf.ps (Dc t.lf.pln);have e2:(u.lf.pln.tm.ps).map pv=u.lf.pln.ps:=congrArg Lf.ps (Dc u.lf.pln);have k1:zv t.lf.pln.tm.k=t.lf.pln.k:=congrArg Lf.k (Dc t.lf.pln);have k2:zv u.lf.pln.tm.k=u.lf.pln.k:=congrArg Lf.k (Dc u.lf.pln);have g3:=W0 Ks Z Kl (a:=t.lf.pln.tm.ps) (b:=u.lf.pln.tm.ps) (Apx b1.len hn) (Apx b2.len hn) (λp hp=>(b1.ps p hp).mono (by omega)) (λp hp=>(b2.ps p hp).mono (by omega));have g4:=Z.cmp t.lf.pln.tm.k u.lf.pln.tm.k (b1.k.mono (by omega)) (b2.k.mono (by omega));rw[e1,e2]at g3;rw[k1,k2]at g4;unfold Sg;revert g1 g2 g3 g4;generalize t.lf.pln.tm=x;generalize u.lf.pln.tm=y;intro g1 g2 g3 g4;obtain⟨tp,tz⟩:=t;obtain⟨up,uz⟩:=u;obtain⟨xp,xn,xa⟩:=x;obtain⟨yp,yn,ya⟩:=y;refine Kl.fn' Akg _ rfl ((e83 ..).trans ?_);refine Aa g1 ?_;simp only[eT,eN,ND,DK,Ab];refine Aa g2 ?_;simp only[eT,eN,ND,DK,Ab];refine Aa g3 ?_;simp only[ND,DK,Ab];refine Aa g4 ?_;simp only[ND,DK,Ab];refine Aa (S6 Kl _ _) ?_;rfl
theorem Ol{n k:Nat}{t u:Tm}(ht:TmB n k t)(hu:TmB n k u)(hn:n<=1000000)(hk:k+n<=900000000)(e f:Bool):D.ask (.fn 25) [.agg (eT t++[bv e]),.agg (eT u++[bv f])] []=some (iv (Sf t.lf.pln u.lf.pln e f),[]):=by
 have g1:=AaT Kt Ks Z C Kl ht hu hn hk;have gr:∀(t:Tm) (e:Bool),D.ask (.fn 85) [.agg (eT t++[bv e])] []=some (iv (Y4 e),[]):=by
  rintro⟨p,z⟩ e;refine Kl.fn' Aki _ rfl ((e85 ..).trans ?_)
  cases e<;>rfl
 unfold Sf;revert g1;generalize Sg t.lf.pln u.lf.pln=c;intro g1;have r1:=gr t e;have r2:=gr u f;obtain⟨tp,tz⟩:=t;obtain⟨up,uz⟩:=u;refine Kl.fn' Aj0 _ rfl ((e25 ..).trans ?_);refine Aa g1 ?_;simp only[ND,DK,Ab];refine Aa r1 ?_;simp only[ND,DK,Ab];refine Aa r2 ?_;simp only[ND,DK,Ab];refine Aa (O0 Ks _ _) ?_;simp only[ND,DK,Ab];refine Aa (S6 Kl _ _) ?_;rfl
theorem Tb{n k:Nat}{t u:Tm}(ht:TmB n k t)(hu:TmB n k u)(hn:n<=1000000)(hk:k+n<=900000000)(e f:Bool):D.ask (.fn 26) [.agg (eT t++[bv e]),.agg (eT u++[bv f])] []=some (bv (decide (Sf t.lf.pln u.lf.pln e f=0)),[]):=by
 have g2:=Ol Kt Ks Z C Kl ht hu hn hk e f;revert g2;generalize Sf t.lf.pln u.lf.pln e f=c;intro g2;obtain⟨tp,tz⟩:=t;obtain⟨up,uz⟩:=u;refine Kl.fn' Aj1 _ rfl ((e26 ..).trans ?_);refine Aa g2 ?_;simp only[ND,DK,Ab]
 by_cases h:c=0
 .refine Bi h ?_
  rw[decide_eq_true h]
 .refine AK h ?_
  rw[decide_eq_false h]
end
theorem FB.kids{n k:Nat}{x:Fm}(h:FB n k x):x.kids.length<=1000000/\(∀ y∈x.kids,FB n k y)/\TmB n k x.tm:=by
 cases h with
 |mk ht hl h=>exact⟨hl,h,ht⟩
section
variable {D:Orc} (Kt:Knows As GU D) (F:RF D)
include Kt F
theorem ZS{n k m:Nat}{ps qs:List Pt}{kz jz:Zi}(hl:ps.length=qs.length)(hp:TmB n k ⟨ps,kz⟩)(hn:n<=1000000)(hk:k<=1000000000):∀(m i:Nat),ps.length-i=m->i<=ps.length->
  ∃ b,D.ask (.lp 78 0) [.ptr 0 0,.ptr 1 0,iv (i:Int)] [⟨[.ls (ps.map eP),bv kz.neg,eN kz.abs],true,false⟩,⟨[.ls (qs.map eP),bv jz.neg,eN jz.abs],true,false⟩]=some (if b then .tup [iv 0] else .tup [bv true,bv false],[.del,.del])/\(b=true ↔ ps.drop i=qs.drop i):=by
 have hlen:ps.length<=n:=hp.len;intro m
 induction m with
 |zero=>
  intro i hm hi;refine⟨true,?_,by rw[υ (by omega),υ (by omega)];simp⟩;refine Kt.lp' Pc _ rfl (by kernel_rfl) ((TO ..).trans ?_);rw[Aj];exact Ak (by omega) rfl
 |succ m ih=>
  intro i hm hi;have h1:i<ps.length:=by omega
  have h2:i<qs.length:=by omega
  have hn1:∀ kk,Bl (ps.map eP) i kk=kk (eP ps[i]):=λkk=>Aw (Ψ h1) kk
  have hn2:∀ kk,Bl (qs.map eP) i kk=kk (eP qs[i]):=λkk=>Aw (Ψ h2) kk
  have hz:=hp.ps ps[i] (ApP h1);rw[ω h1,ω h2];revert hn1 hn2 hz;generalize ps[i]=p;generalize qs[i]=q;intro hn1 hn2 hz;obtain⟨b,g,hb⟩:=ih (i+1) (by omega) (by omega);have gs:=F.same p.z q.z (hz.mono hk);obtain⟨pv,pn,pa⟩:=p;obtain⟨qv,qn,qa⟩:=q;simp only[eZ,eN]at gs g ⊢
  by_cases hv:pv=qv
  .by_cases hz:pn=qn/\pa=qa
   .rw[decide_eq_true hz]at gs
    refine⟨b,?_,?_⟩
    .refine Kt.lp' Pc _ rfl (by kernel_rfl) ((TO ..).trans ?_)
     rw[Aj];refine Aq (by omega) ?_;simp only[Av,hn1,hn2,eP,eN,ND,DK,Ab];refine Bi hv ?_;refine Aa gs ?_;simp only[ND,DK,Ab];rw[BC (by omega)];refine Aa g ?_
     cases b<;>rfl
    .rw[hb,hv,hz.1,hz.2]
     simp
   .rw[decide_eq_false hz]at gs
    refine⟨false,?_,?_⟩
    .refine Kt.lp' Pc _ rfl (by kernel_rfl) ((TO ..).trans ?_)
     rw[Aj];refine Aq (by omega) ?_;simp only[Av,hn1,hn2,eP,eN,ND,DK,Ab];refine Bi hv ?_;refine Aa gs ?_;rfl
    .simp only[Aqw,false_iff,List.cons.injEq,Pt.mk.injEq,Zi.mk.injEq]
     exact λh=>hz h.1.2
  .refine⟨false,?_,?_⟩
   .refine Kt.lp' Pc _ rfl (by kernel_rfl) ((TO ..).trans ?_)
    rw[Aj];refine Aq (by omega) ?_;simp only[Av,hn1,hn2,eP,eN,ND,DK,Ab];exact AK hv rfl
   .simp only[Aqw,false_iff,List.cons.injEq,Pt.mk.injEq,Zi.mk.injEq]
    exact λh=>hv h.1.1
theorem ZT{n k:Nat}{t u:Tm}(ht:TmB n k t)(hn:n<=1000000)(hk:k<=1000000000):∃ b,D.ask (.fn 78) [.agg (eT t),.agg (eT u)] []=some (bv b,[])/\(b=true ↔ t=u):=by
 obtain⟨ps,kz⟩:=t;obtain⟨qs,jz⟩:=u;have gs:=F.same kz jz (ht.k.mono hk)
 by_cases hl:ps.length=qs.length
 .obtain⟨b,g,hb⟩:=ZS Kt F (m:=0) (kz:=kz) (jz:=jz) hl ht hn hk _ 0 rfl (by omega)
  rw[χ,χ]at hb;obtain⟨kn,ka⟩:=kz;obtain⟨jn,ja⟩:=jz;simp only[eZ,eN]at gs g
  by_cases hz:kn=jn/\ka=ja
  .rw[decide_eq_true hz]at gs
   refine⟨b,?_,?_⟩
   .refine Kt.fn' Pc _ rfl ((e78 ..).trans ?_)
    rw[Aj,Aj];refine Bi (congrArg _ hl) ?_;refine Aa gs ?_;simp only[ND,DK,Ab];refine Aa g ?_
    cases b<;>rfl
   .rw[hb,hz.1,hz.2]
    simp
  .rw[decide_eq_false hz]at gs
   refine⟨false,?_,?_⟩
   .refine Kt.fn' Pc _ rfl ((e78 ..).trans ?_)
    rw[Aj,Aj];refine Bi (congrArg _ hl) ?_;refine Aa gs ?_;rfl
   .simp only[Aqw,false_iff,Tm.mk.injEq,Zi.mk.injEq]
    exact λh=>hz h.2
 .refine⟨false,?_,?_⟩
  .refine Kt.fn' Pc _ rfl ((e78 ..).trans ?_)
   rw[Aj,Aj];exact FI λh=>hl (Int.ofNat.inj h)
  .simp only[Aqw,false_iff,Tm.mk.injEq]
   exact λh=>hl (by rw[h.1])
end
section
variable {D:Orc} (Kt:Knows As GU D) (Kh:Knows As Hv D) (Kq:Knows As Nb D) (F:RF D)
include Kt Kq F
theorem KG{n k:Nat}{t u:Tm}(ht:TmB n k t)(hn:n<=1000000)(hk:k<=1000000000)(e f:Bool):∃ b,D.ask (.fn 21) [.agg (eT t++[bv e]),.agg (eT u++[bv f])] []=some (bv b,[])/\(b=true ↔ t=u/\e=f):=by
 obtain⟨b,g,hb⟩:=ZT Kt F (u:=u) ht hn hk;obtain⟨ps,kn,ka⟩:=t;obtain⟨qs,jn,ja⟩:=u
 by_cases he:e=f
 .refine⟨b,?_,by rw[hb];simp[he]⟩
  refine Kq.fn' AhN _ rfl ((e21 ..).trans ?_);rw[Ok,he,beq_self_eq_true];refine Ae ?_;refine Aa g ?_
  cases b<;>rfl
 .refine⟨false,?_,by simp[he]⟩
  refine Kq.fn' AhN _ rfl ((e21 ..).trans ?_);rw[Ok,beq_eq_false_iff_ne.2 he];rfl
include Kh in
include Kh
end
theorem Rv(a b:Int):BF (a-b)=DR a b:=by
 unfold BF DR
 repeat' split
 all_goals omega
def IE:List (Int × Int)->List (Int × Int)->Option Int
 |[],_=>none
 |_::_,[]=>none
 |p::a,q::b=>if J2 p q=0 then IE a b else some (J2 p q)
theorem Si:∀ a b:List (Int × Int),Jn a b=match IE a b with|some n=>some n|none=>if b.length<a.length then some 1 else none
 |[],b=>by rw[Jn,IE];simp
 |p::a,[]=>by rw[Jn,IE];simp
 |p::a,q::b=>by
  rw[Jn,IE]
  by_cases h:J2 p q=0
  .rw[if_pos h,if_pos h,Si a b]
   simp only[List.length_cons,Nat.add_lt_add_iff_right]
  .rw[if_neg h,if_neg h]
theorem AaW(a b:List (Int × Int)):Qk a b=match IE a b with|some n=>n|none=>if a.length<b.length then -1 else if b.length<a.length then 1 else 0:=by
 unfold Qk;rw[Si]
 cases IE a b with
 |some n=>rfl
 |none=>
  simp only
  by_cases h:b.length<a.length
  .simp only[if_pos h]
   rw[if_neg (show ¬ a.length<b.length by omega)]
  .rw[if_neg h]
   by_cases h2:a.length<b.length
   .rw[if_pos h2,if_pos h2]
   .rw[if_neg h2,if_neg h2,if_neg h]
theorem Jo(v n:Int):∀ l:List (Int × Int),A6 v (l.map λp=>(p.1,p.2*n))=A6 v l*n
 |[]=>by simp[A6]
 |p::r=>by
  rw[Aps,A6,A6,Jo v n r,Int.add_mul];split<;>simp
theorem Ai5(l:Lf):(l.scale (-1)).scale (-1)=l.pln:=by
 unfold Lf.scale Lf.pln
 congr 1
 .refine IW (CZ _) λv hv=>?_
  rw[EG,if_pos hv,Jo,EG,if_pos hv,Jo];omega
 .show l.k*(-1)*(-1)=l.k
  omega
section
variable {D:Orc} (Kc:Knows As RH D) (F:RF D)
include Kc F
theorem Aet{a b:List Pt}{ak bk':Zi}(la:a.length<=1000000)(lb:b.length<=1000000)(ha:∀ p∈a,Lz 900000000 p.z)(hb:∀ p∈b,Lz 900000000 p.z):∀(m i:Nat),a.length-i=m->i<=a.length->i<=b.length->
  D.ask (.lp 74 0) [.ptr 0 0,.ptr 1 0,iv (i:Int)] [bk (eT ⟨a,ak⟩),bk (eT ⟨b,bk'⟩)]=some (match IE ((a.drop i).map pv) ((b.drop i).map pv) with|some n=>(.tup [bv true,iv n],[.del,.del]) | none=>(.tup [iv 0,.ptr 0 0,.ptr 1 0],[.set (bk (eT ⟨a,ak⟩)),.set (bk (eT ⟨b,bk'⟩))])):=by
 intro m
 induction m with
 |zero=>
  intro i hm hi hj;rw[υ (by omega),Aqq,IE];refine Kc.lp' Vn _ rfl (by kernel_rfl) ((XB ..).trans ?_);rw[Aj];dsimp only;exact Ak (by omega) rfl
 |succ m ih=>
  intro i hm hi hj;have h1:i<a.length:=by omega
  have ih:=ih (i+1) (by omega) (by omega);have hn1:∀ kk,Bl (a.map eP) i kk=kk (eP a[i]):=λkk=>Aw (Ψ h1) kk
  have hza:=ha a[i] (ApP h1);rw[ω h1,Aps]
  by_cases h2:i<b.length
  .have ih:=ih (by omega)
   have hn2:∀ kk,Bl (b.map eP) i kk=kk (eP b[i]):=λkk=>Aw (Ψ h2) kk
   have hzb:=hb b[i] (ApP h2);rw[ω h2,Aps,IE];revert hn1 hn2 hza hzb;generalize a[i]=p;generalize b[i]=q;intro hn1 hza hn2 hzb;have gc:=F.cmp p.z q.z hza hzb;rw[Rv]at gc;refine Kc.lp' Vn _ rfl (by kernel_rfl) ((XB ..).trans ?_);rw[Aj,Aj];dsimp only;refine Aq (by omega) ?_;refine Aq (by omega) ?_;simp only[Av,hn1,hn2,eP,eN,ND,DK,Ab];unfold J2
   by_cases h3:p.v<q.v
   .rw[show DR (pv p).1 (pv q).1=-1 from if_pos h3]
    refine Aq h3 ?_;rfl
   .refine Ak h3 ?_
    by_cases h4:q.v<p.v
    .rw[show DR (pv p).1 (pv q).1=1 from (if_neg h3).trans (if_pos h4)]
     refine Aq h4 ?_;rfl
    .rw[show DR (pv p).1 (pv q).1=0 from (if_neg h3).trans (if_neg h4)]
     refine Ak h4 ?_;simp only[eZ,eN]at gc;refine Aa gc ?_;simp only[ND,DK,Ab];rw[show YM 0 (DR (pv p).2 (pv q).2)=DR (zv p.z) (zv q.z) from rfl];generalize DR (zv p.z) (zv q.z)=c
     by_cases h5:c=0
     .refine Bi h5 ?_
      rw[if_pos h5,BC (by omega)];refine Aa ih ?_
      cases IE ((a.drop (i+1)).map pv) ((b.drop (i+1)).map pv)<;>rfl
     .refine AK h5 ?_
      rw[if_neg h5]
  .rw[υ (show b.length<=i by omega),Aqq,IE]
   refine Kc.lp' Vn _ rfl (by kernel_rfl) ((XB ..).trans ?_);rw[Aj,Aj];dsimp only;refine Aq (by omega) ?_;exact Ak (by omega) rfl
variable (Kt:Knows As GU D) (Kh:Knows As Hv D)
include Kt Kh
theorem Y6{n k:Nat}{t u:Tm}(ht:TmB n k t)(hu:TmB n k u)(hn:n<=1000000)(hk:k+n<=400000000):D.ask (.fn 74) [.agg (eT t),.agg (eT u)] []=some (iv (Sg t.lf.pln u.lf.pln),[]):=by
 have g1:=Ds Kt Kh F ht hn hk;have g2:=Ds Kt Kh F hu hn hk;have b1:=ht.lb.pln.tb;have b2:=hu.lb.pln.tb;have e1:(t.lf.pln.tm.ps).map pv=t.lf.pln.ps:=congrArg Lf.ps (Dc t.lf.pln);have e2:(u.lf.pln.tm.ps).map pv=u.lf.pln.ps:=congrArg Lf.ps (Dc u.lf.pln);have k1:zv t.lf.pln.tm.k=t.lf.pln.k:=congrArg Lf.k (Dc t.lf.pln);have k2:zv u.lf.pln.tm.k=u.lf.pln.k:=congrArg Lf.k (Dc u.lf.pln);have l1:t.lf.pln.tm.ps.length=t.lf.pln.ps.length:=by rw[←e1,Api]
 have l2:u.lf.pln.tm.ps.length=u.lf.pln.ps.length:=by rw[←e2,Api]
 have g3:=Aet Kc F (a:=t.lf.pln.tm.ps) (b:=u.lf.pln.tm.ps) (ak:=t.lf.pln.tm.k) (bk':=u.lf.pln.tm.k) (Apx b1.len hn) (Apx b2.len hn) (λp hp=>(b1.ps p hp).mono (by omega)) (λp hp=>(b2.ps p hp).mono (by omega)) _ 0 rfl (by omega) (by omega);have g4:=F.cmp t.lf.pln.tm.k u.lf.pln.tm.k (b1.k.mono (by omega)) (b2.k.mono (by omega));rw[χ,χ,e1,e2]at g3;rw[Rv,k1,k2]at g4;unfold Sg;rw[AaW,←l1,←l2];revert g1 g2 g3 g4;generalize t.lf.pln.tm=x;generalize u.lf.pln.tm=y;generalize DR t.lf.pln.k u.lf.pln.k=c;have hnz:∀ n,IE t.lf.pln.ps u.lf.pln.ps=some n->n≠0:=λn h=>by
  have:=Si t.lf.pln.ps u.lf.pln.ps;rw[h]at this;exact TD this
 revert hnz;generalize IE t.lf.pln.ps u.lf.pln.ps=o;intro hnz g1 g2 g3 g4;obtain⟨tp,tz⟩:=t;obtain⟨up,uz⟩:=u;obtain⟨xp,xn,xa⟩:=x;obtain⟨yp,yn,ya⟩:=y;refine Kc.fn' Vn _ rfl ((e74 ..).trans ?_);refine Aa g1 ?_;simp only[eT,eN,ND,DK,Ab];refine Aa g2 ?_;simp only[eT,eN,ND,DK,Ab];simp only[eT,eN]at g3
 cases o with
 |some n=>
  refine Aa g3 ?_;unfold YM;simp only;rw[if_neg (hnz n rfl)];rfl
 |none=>
  refine Aa g3 ?_;simp only[ND,DK,Ab];rw[Aj,Aj]
  by_cases h1:xp.length<yp.length
  .rw[if_pos h1]
   exact Jk (by omega)
  .rw[if_neg h1]
   refine Ak (by omega) ?_
   by_cases h2:yp.length<xp.length
   .rw[if_pos h2]
    exact Jk (by omega)
   .rw[if_neg h2]
    refine Ak (by omega) ?_;refine Aa g4 ?_;rfl
theorem Y5{n k:Nat}{t u:Tm}(ht:TmB n k t)(hu:TmB n k u)(hn:n<=1000000)(hk:k+n<=400000000)(e f:Bool):D.ask (.fn 19) [.agg (Dt (t,e)),.agg (Dt (u,f))] []=some (iv (Sf t.lf.pln u.lf.pln e f),[]):=by
 have g:=Y6 Kc F Kt Kh ht hu hn hk;unfold Sf YM;generalize Sg t.lf.pln u.lf.pln=c at g;obtain⟨tp,tz⟩:=t;obtain⟨up,uz⟩:=u;refine Kc.fn' AjX _ rfl ((e19 ..).trans ?_);refine Aa g ?_;simp only[ND,DK,Ab]
 by_cases h:c=0
 .rw[if_pos h]
  refine Bi h ?_
  cases e<;>cases f<;>rfl
 .rw[if_neg h]
  exact FI h
theorem VL{n k:Nat}{t:Tm}(ht:TmB n k t)(hn:n<=100000)(hk:k<=1000000)(e:Bool):D.ask (.fn 24) [.agg (Dt (t,e))] []=some (.ls ((J4 t.lf e).map Dt),[]):=by
 have g1:=F.of_ 1 (by decide) (by decide);have g2:=Te Kt F (z:=Az 1) ((InB.one (k:=1) (by omega)).lz.mono (by omega));rw[AU]at g2;have g3:=F.of_ (-1) (by decide) (by decide);have g4:=UC Kt Kh F ht (by omega) (by omega);have hs:LB n (k+1+n) (t.lf.scale (-1)):=ht.lb.scale (by unfold InB;decide);have g5:=UF Kt Kh F hs.tb (Lp (k+1+n) (by omega)).tb (by omega) (by omega);rw[Dc,Dc]at g5;have g6:=Ds Kt Kh F ht (by omega) (by omega);have g7:=UF Kt Kh F (ht.lb.pln.tb.mono (φ _) (show k+n<=k+n+1 by omega)) (Lp (k+n+1) (by omega)).tb (by omega) (by omega);rw[Dc,Dc]at g7;have e7:t.lf.pln.sub (Lf.num 1)=C5 (t.lf.scale (-1)):=by
  unfold C5;rw[Ai5]
 rw[e7]at g7;rw[show (t.lf.scale (-1)).sub (Lf.num 1)=C5 t.lf from rfl]at g5;unfold J4;revert g2 g4 g5 g6 g7;generalize (C5 (t.lf.scale (-1))).tm=d;generalize (C5 t.lf).tm=c;generalize (t.lf.scale (-1)).tm=a;generalize t.lf.pln.tm=p;generalize (Lf.num 1).tm=o;intro g2 g4 g5 g6 g7;obtain⟨tp,tz⟩:=t;obtain⟨ap,az⟩:=a;obtain⟨pp,pz⟩:=p;obtain⟨op,oz⟩:=o;obtain⟨cp,cz⟩:=c;obtain⟨dp,dz⟩:=d;simp only[eT,eZ,eN]at g1 g2 g3 g4 g5 g6 g7;refine Kc.fn' AjZ _ rfl ((e24 ..).trans ?_);refine Aa g1 ?_;simp only[ND,DK,Ab];refine Aa g2 ?_;simp only[ND,DK,Ab];refine Aa g3 ?_;simp only[ND,DK,Ab];refine Aa g4 ?_;simp only[ND,DK,Ab];refine Aa g5 ?_;simp only[ND,DK,Ab]
 cases e with
 |false=>
  refine Ae ?_;rfl
 |true=>
  refine B8 ?_;refine Aa g6 ?_;simp only[ND,DK,Ab];refine Aa g7 ?_;rfl
omit Kh in
theorem Rl(l:List (Tm × Bool)){n k:Nat}(hl:l.length<=1000000)(hn:n<=1000000)(hk:k<=1000000000)(h:∀ r∈l,TmB n k r.1)(Kq:Knows As Nb D):∀(m i:Nat),l.length-i=m->i<=l.length->
  D.ask (.lp 22 0) [.ls (l.map Dt),.ls (l.map Dt),iv (i:Int)] []=some (.tup [iv 0],[]):=by
 intro m
 induction m with
 |zero=>
  intro i hm hi;refine Kc.lp' X4 _ rfl (by kernel_rfl) ((Aft ..).trans ?_);rw[Aj];exact Ak (by omega) rfl
 |succ m ih=>
  intro i hm hi;have h1:i<l.length:=by omega
  have ih:=ih (i+1) (by omega) (by omega);have hn1:∀ kk,Bl (l.map Dt) i kk=kk (Dt l[i]):=λkk=>Aw (Ψ h1) kk
  have ht:=h l[i] (ApP h1);revert hn1 ht;generalize l[i]=r;intro hn1 ht;obtain⟨t,e⟩:=r;obtain⟨b,g,hb⟩:=KG Kt Kq F ht (u:=t) hn hk e e;obtain rfl:b=true:=hb.2 ⟨rfl,rfl⟩;obtain⟨tp,tz⟩:=t;refine Kc.lp' X4 _ rfl (by kernel_rfl) ((Aft ..).trans ?_);rw[Aj];refine Aq (by omega) ?_;simp only[Av,hn1,Jp,eN,ND,DK,Ab];refine Aa g ?_;simp only[ND,DK,Ab];rw[BC (by omega)];refine Aa ih ?_;rfl
omit Kh in
theorem NF(l:List (Tm × Bool)){n k:Nat}(hl:l.length<=1000000)(hn:n<=1000000)(hk:k<=1000000000)(h:∀ r∈l,TmB n k r.1)(Kq:Knows As Nb D):D.ask (.fn 22) [.ls (l.map Dt),.ls (l.map Dt)] []=some (bv true,[]):=by
 refine Kc.fn' X4 _ rfl ((e22 ..).trans ?_);refine Bi rfl ?_;refine Aa (Rl Kc F Kt l hl hn hk h Kq _ 0 rfl (by omega)) ?_;rfl
end
section
variable {D:Orc} (Kt:Knows As Gc D) (Kf:Knows As KN D) (Ks:Knows As Eh D) (Z:ZF D) (C:PartF D) (Kc:Knows As RI D) (W:ZdF D)
include Kt Kf Ks Z C Kc W
theorem Ajc(hs:∀{n k:Nat} {t:Tm},TmB n k t->n<=1000000->k+n<=300000000->D.ask (.fn 65) [.agg (eT t)] []=some (.tup [.agg (eT (EJ t)),.agg (eZ (Az (CB t:Int)))],[])):TiF D where
 plain h hn hk:=Ee Kt Ks Z C h hn (by omega)
 content {n k t} h hn hk:=by
  have hp:=Ee Kt Ks Z C h hn (by omega);have hl:=Fu t.lf.ps;have hl2:=h.lb.len;have hb:=h.lb.pln.ps;refine Sk Kc W (l:=A8 t.lf.ps) (k:=t.lf.pln.tm.k) ?_ (by omega) (λp hp=>(hb p hp).mono (by omega));rw[hp]
  show some (AV.agg [.ls (((A8 t.lf.ps).map AO).map eP),_,_],[])=_
  rw[List.map_map];rfl
 shrink h hn hk:=hs h hn hk
 neg h hn hk:=Pz Kt Kf Ks Z C h hn (by omega)
end
section
variable {D:Orc} (Kt:Knows As Gc D) (Kf:Knows As KN D) (Ks:Knows As Eh D) (Z:ZF D) (C:PartF D) (W:ZdF D) (T:TiF D) (Ktt:Knows As RJ D) (Kd:Knows As RD D) (Ko:Knows As RC D)
 (Kr:Knows As GU D) (Kh:Knows As Hv D) (F:RF D) (Krs:Knows As Ox D) (Wr:RdF D) (Ku:Knows As RG D) (Kv:Knows As RH D) (Kq:Knows As Nb D) (Kw:Knows As RB D) (Kl:Knows As PV D)
include Kt Kf Ks Z C W T Ktt Kd Ko Kr Kh F Krs Wr Ku Kv Kq Kw Kl
theorem NB(S:D.ask (.fn 15) [] []=some (bv true,[]))(t u:Tm)(e f:Bool)(ht:LmT t)(hu:LmT u):D.ask (.fn 3) [.agg (Dt (t,e)),.agg (Dt (u,f))] []=some (bv true,[]):=by
 have gf:=AhC Kw [(t,e),(u,f)] 2 (12:Nat) (by omega);have body:MP ((12:Nat):Int) (t,e)=true->MP ((12:Nat):Int) (u,f)=true->∃(r:Tm × Bool) (n c:Int) (p:Tm) (ds:List (Tm × Bool)),
   D.ask (.fn 17) [.agg (Dt (t,e))] []=some (.tup [.agg (Dt r),iv n],[])/\D.ask (.fn 18) [.agg (Dt (t,e))] []=some (.tup [.agg (Dt r),iv n],[])/\D.ask (.fn 21) [.agg (Dt r),.agg (Dt r)] []=some (bv true,[]) ∧
   D.ask (.fn 19) [.agg (Dt (t,e)),.agg (Dt (u,f))] []=some (iv c,[])/\D.ask (.fn 25) [.agg (Dt (t,e)),.agg (Dt (u,f))] []=some (iv c,[])/\D.ask (.fn 26) [.agg (Dt (t,e)),.agg (Dt (u,f))] []=some (bv (decide (c=0)),[]) ∧
   D.ask (.fn 20) [.agg (eT t)] []=some (.agg (eT p),[])/\D.ask (.fn 27) [.agg (eT t)] []=some (.agg (Dt (p,true)),[])/\D.ask (.fn 28) [.agg (eT t)] []=some (.agg (Dt (p,false)),[])/\(∀ b,D.ask (.fn 21) [.agg (Dt (p,b)),.agg (Dt (p,b))] []=some (bv true,[])) ∧
   D.ask (.fn 23) [.agg (Dt (t,e))] []=some (.ls (ds.map Dt),[])/\D.ask (.fn 24) [.agg (Dt (t,e))] []=some (.ls (ds.map Dt),[])/\D.ask (.fn 22) [.ls (ds.map Dt),.ls (ds.map Dt)] []=some (bv true,[]):=λh1 h2=>by
  have hb:=ht.tmb h1;have hc:=hu.tmb h2;have hp:=hb.lb.pln.tb;have hS:∀{n k:Nat} {x:Tm},TmB n k x->n<=1000000->k<=1000000000->∀ b,D.ask (.fn 21) [.agg (Dt (x,b)),.agg (Dt (x,b))] []=some (bv true,[]):=λ{n k x} hx hn hk b=>by
   obtain⟨b',g,hb'⟩:=KG Kr Kq F hx (u:=x) hn hk b b;obtain rfl:b'=true:=hb'.2 ⟨rfl,rfl⟩;exact g
  have htt:TmB 20 200 (NG t.lf.pln.tm e).1.1:=by
   have hs:=Tj hp (show 1<=12+20 by omega);have i1:InB 1 (-1):=by unfold InB;decide
   have h0:TmB 20 200 Tm0:=⟨ApM _,λp hp=>(by cases hp),⟨λx hx=>(by cases hx),ApM _⟩⟩;unfold NG;split
   .exact h0
   split
   .split
    .show TmB _ _ (if hdS (EJ t.lf.pln.tm)<0 then _ else _)
     split
     .exact((hs.lb.scale i1).tb).mono (φ _) (by omega)
     .exact hs.mono (φ _) (by omega)
    .exact h0
   .exact hs.mono (φ _) (by omega)
  refine⟨(NG t.lf.pln.tm e).1,(NG t.lf.pln.tm e).2,Sf t.lf.pln u.lf.pln e f,t.lf.pln.tm,J4 t.lf e,ZM Ktt Z W T hb (by omega) (by omega) (by omega) e,VU Kr Kh F Krs Wr Ku hb (by omega) (by omega) (by omega) e,hS htt (by omega) (by omega) _,
   Y5 Kv F Kr Kh hb hc (by omega) (by omega) e f,Ol Kt Ks Z C Ko hb hc (by omega) (by omega) e f,Tb Kt Ks Z C Ko hb hc (by omega) (by omega) e f,Ds Kr Kh F hb (by omega) (by omega),
   Afn Kt Kf Ks Z C hb (by omega) (by omega),Q2 Kt Kf Ks Z C hb (by omega) (by omega),hS hp (by omega) (by omega),W6 Kt Kf Ks Z C Kd hb (by omega) (by omega) e,VL Kv F Kr Kh hb (by omega) (by omega) e,NF Kv F Kr (J4 t.lf e) (n:=20) (k:=1000) (by unfold J4;split<;>simp) (by omega) (by omega) (λr hr=>?_) Kq⟩
  have i1:InB 1 (-1):=by unfold InB;decide
  have hs:LB 20 33 (t.lf.scale (-1)):=hb.lb.scale i1;unfold J4 at hr
  cases e with
  |false=>
   rw[if_neg (by decide),Aqb]at hr;rw[hr];exact((G4 hb.lb).tb).mono (φ _) (by omega)
  |true=>
   rw[if_pos rfl]at hr;rcases Aph.1 hr with hr|hr
   .rw[hr]
    exact((G4 hs).tb).mono (φ _) (by omega)
   .rw[Aqb]at hr
    rw[hr];exact((G4 hb.lb).tb).mono (φ _) (by omega)
 obtain⟨ps,kz⟩:=t;obtain⟨qs,jz⟩:=u;rw[Aps,Aps,Aqq,ArM,ArM,List.all_nil,Bool.and_true,show (decide ([((⟨ps,kz⟩:Tm),e),((⟨qs,jz⟩:Tm),f)].length<=2))=true from rfl,Bool.true_and]at gf;simp only[Jp,eN]at gf;refine Kl.fn' hn3 _ rfl ((e3 ..).trans ?_);refine Aa S ?_;simp only[ND,DK,Ab];refine Aa gf ?_;simp only[ND,DK,Ab]
 cases h1:MP ((12:Nat):Int) (⟨ps,kz⟩,e) with
 |false=>rfl
 |true=>
  cases h2:MP ((12:Nat):Int) (⟨qs,jz⟩,f) with
  |false=>rfl
  |true=>
   obtain⟨⟨⟨rp,rz⟩,re⟩,n,c,⟨pp,pz⟩,ds,g1,g2,g3,g4,g5,g6,g7,g8,g9,g10,g11,g12,g13⟩:=body h1 h2;have g10t:=g10 true;have g10f:=g10 false;simp only[Jp,eT,eN]at g1 g2 g3 g4 g5 g6 g7 g8 g9 g10t g10f g11 g12;refine Ae ?_;refine Aa g1 ?_;simp only[ND,DK,Ab];refine Aa g2 ?_;simp only[ND,DK,Ab];refine Aa g4 ?_;simp only[ND,DK,Ab];refine Aa g7 ?_;simp only[ND,DK,Ab];refine Bi rfl ?_;refine Aa g3 ?_;simp only[ND,DK,Ab];refine Aa g11 ?_;simp only[ND,DK,Ab];refine Aa g12 ?_;simp only[ND,DK,Ab];refine Aa g13 ?_;simp only[ND,DK,Ab];refine Aa g5 ?_;simp only[ND,DK,Ab];refine Bi rfl ?_;refine Aa g6 ?_;simp only[ND,DK,Ab]
   by_cases hc:c=0
   .rw[decide_eq_true hc]
    refine Ae ?_;refine Bi hc ?_;refine Ae ?_;refine Aa g8 ?_;simp only[ND,DK,Ab];refine Aa g10t ?_;simp only[ND,DK,Ab];refine Aa g9 ?_;simp only[ND,DK,Ab];refine Aa g10f ?_;rfl
   .rw[decide_eq_false hc]
    refine B8 ?_;refine AK hc ?_;refine Ae ?_;refine Aa g8 ?_;simp only[ND,DK,Ab];refine Aa g10t ?_;simp only[ND,DK,Ab];refine Aa g9 ?_;simp only[ND,DK,Ab];refine Aa g10f ?_;rfl
end
end Go.Proofs.YtpncilciembjdaaGreatDoor
