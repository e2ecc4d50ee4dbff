/- logic.Same: what a call -/
import Derived.Test.YtpncilciembjdaaGreatDoorEBR
set_option linter.all false
open Bool renaming false->Φ,true->Δ,false_eq_true->Atp
open List renaming drop_eq_getElem_cons->ο,drop_eq_nil_of_le->Ar6,drop_zero->ArT,getElem?_eq_getElem->φ,getElem_mem->Ast,length_append->η,length_map->Ar2,map_map->Atk,mem_append->AsC,mem_map->Asj,mem_of_mem_drop->As1
open Option renaming some->Θ
namespace Go.Proofs.YtpncilciembjdaaGreatDoor
open Go.RowKit
theorem FB.kids{n k:Nat}{x:Fm}(h:FB n k x):x.kids.length<=1000000/\(∀ y∈x.kids,FB n k y)/\TmB n k x.tm:=by
 cases h with
 |mk ht hl h=>exact⟨hl,h,ht⟩
section
variable {D:Orc} (Kt:Knows At Q0 D) (F:RF D)
include Kt F
theorem Aeg{n k m:Nat}{ps qs:List Pt}{kz jz:Zi}(hl:ps.length=qs.length)(hp:TmB n k ⟨ps,kz⟩)(hn:n<=1000000)(hk:k<=1000000000):∀(m i:Nat),ps.length-i=m->i<=ps.length->
  ∃ b,D.ask (.lp 78 0) [.ptr 0 0,.ptr 1 0,iv (i:Int)] [⟨[.ls (ps.map eP),bv kz.neg,eN kz.abs],Δ,Φ⟩,⟨[.ls (qs.map eP),bv jz.neg,eN jz.abs],Δ,Φ⟩]=Θ (if b then .tup [iv 0] else .tup [bv Δ,bv Φ],[.del,.del])/\(b=Δ ↔ ps.drop i=qs.drop i):=by
 have hlen:ps.length<=n:=hp.len;intro m
 induction m with
 |zero=>
  intro i hm hi;refine⟨Δ,?_,by rw[Ar6 (by omega),Ar6 (by omega)];simp⟩;refine Ax Kt RV (Xp ..) ?_;rw[Ao];exact Ak rfl
 |succ m ih=>
  intro i hm hi;have h1:i<ps.length:=by omega
  have h2:i<qs.length:=by omega
  have hn1:∀ kk,BH (ps.map eP) i kk=kk (eP ps[i]):=λkk=>AB (φ h1) kk
  have hn2:∀ kk,BH (qs.map eP) i kk=kk (eP qs[i]):=λkk=>AB (φ h2) kk
  have hz:=hp.ps ps[i] (Ast h1);rw[ο h1,ο h2];revert hn1 hn2 hz;generalize ps[i]=p;generalize qs[i]=q;intro hn1 hn2 hz;obtain⟨b,g,hb⟩:=ih (i+1) (by omega) (by omega);have gs:=F.same p.z q.z (hz.mono hk);obtain⟨pv,pn,pa⟩:=p;obtain⟨qv,qn,qa⟩:=q;simp only[eZ,eN]at gs g ⊢
  by_cases hv:pv=qv
  .by_cases hz:pn=qn/\pa=qa
   .rw[decide_eq_true hz]at gs
    refine⟨b,?_,?_⟩
    .refine Ax Kt RV (Xp ..) ?_
     rw[Ao];refine Ap ?_;simp only[Au,hn1,hn2,eP,eN,ND,DK,Aa];refine Bt ?_ hv;refine Ab gs ?_;simp only[ND,DK,Aa];rw[BV (by omega)];refine Ab g ?_
     cases b<;>rfl
    .rw[hb,hv,hz.1,hz.2]
     simp
   .rw[decide_eq_false hz]at gs
    refine⟨Φ,?_,?_⟩
    .refine Ax Kt RV (Xp ..) ?_
     rw[Ao];refine Ap ?_;simp only[Au,hn1,hn2,eP,eN,ND,DK,Aa];refine Bt ?_ hv;refine Ab gs ?_;rfl
    .simp only[Atp,false_iff,List.cons.injEq,Pt.mk.injEq,Zi.mk.injEq]
     exact λh=>hz h.1.2
  .refine⟨Φ,?_,?_⟩
   .refine Ax Kt RV (Xp ..) ?_
    rw[Ao];refine Ap ?_;simp only[Au,hn1,hn2,eP,eN,ND,DK,Aa];exact Ba rfl hv
   .simp only[Atp,false_iff,List.cons.injEq,Pt.mk.injEq,Zi.mk.injEq]
    exact λh=>hv h.1.1
theorem Aeh{n k:Nat}{t u:Tm}(ht:TmB n k t)(hn:n<=1000000)(hk:k<=1000000000):∃ b,D.ask (.fn 78) [.agg (eT t),.agg (eT u)] []=Θ (bv b,[])/\(b=Δ ↔ t=u):=by
 obtain⟨ps,kz⟩:=t;obtain⟨qs,jz⟩:=u;have gs:=F.same kz jz (ht.k.mono hk)
 by_cases hl:ps.length=qs.length
 .obtain⟨b,g,hb⟩:=Aeg Kt F (m:=0) (kz:=kz) (jz:=jz) hl ht hn hk _ 0 rfl (by omega)
  rw[ArT,ArT]at hb;obtain⟨kn,ka⟩:=kz;obtain⟨jn,ja⟩:=jz;simp only[eZ,eN]at gs g
  by_cases hz:kn=jn/\ka=ja
  .rw[decide_eq_true hz]at gs
   refine⟨b,?_,?_⟩
   .refine AC Kt RV (e78 ..) ?_
    rw[Ao,Ao];refine Bt ?_ (congrArg _ hl);refine Ab gs ?_;simp only[ND,DK,Aa];refine Ab g ?_
    cases b<;>rfl
   .rw[hb,hz.1,hz.2]
    simp
  .rw[decide_eq_false hz]at gs
   refine⟨Φ,?_,?_⟩
   .refine AC Kt RV (e78 ..) ?_
    rw[Ao,Ao];refine Bt ?_ (congrArg _ hl);refine Ab gs ?_;rfl
   .simp only[Atp,false_iff,Tm.mk.injEq,Zi.mk.injEq]
    exact λh=>hz h.2
 .refine⟨Φ,?_,?_⟩
  .refine AC Kt RV (e78 ..) ?_
   rw[Ao,Ao];exact GK λh=>hl (Int.ofNat.inj h)
  .simp only[Atp,false_iff,Tm.mk.injEq]
   exact λh=>hl (by rw[h.1])
end
section
variable {D:Orc} (Kt:Knows At Q0 D) (Kh:Knows At AdZ D) (Kq:Knows At QZ D) (F:RF D)
include Kt Kq F
theorem MD{n k:Nat}{t u:Tm}(ht:TmB n k t)(hn:n<=1000000)(hk:k<=1000000000)(e f:Bool):∃ b,D.ask (.fn 21) [.agg (eT t++[bv e]),.agg (eT u++[bv f])] []=Θ (bv b,[])/\(b=Δ ↔ t=u/\e=f):=by
 obtain⟨b,g,hb⟩:=Aeh Kt F (u:=u) ht hn hk;obtain⟨ps,kn,ka⟩:=t;obtain⟨qs,jn,ja⟩:=u
 by_cases he:e=f
 .refine⟨b,?_,by rw[hb];simp[he]⟩
  refine AC Kq AkX (e21 ..) ?_;rw[QQ,he,beq_self_eq_true];refine Ac ?_;refine Ab g ?_
  cases b<;>rfl
 .refine⟨Φ,?_,by simp[he]⟩
  refine AC Kq AkX (e21 ..) ?_;rw[QQ,beq_eq_false_iff_ne.2 he];rfl
include Kh
end
section
variable {D:Orc} (Kc:Knows At Yr D) (F:RF D)
include Kc F
variable (Kt:Knows At Q0 D) (Kh:Knows At AdZ D)
include Kt Kh
omit Kh in
theorem UK(l:List (Tm × Bool)){n k:Nat}(hl:l.length<=1000000)(hn:n<=1000000)(hk:k<=1000000000)(h:∀ r∈l,TmB n k r.1)(Kq:Knows At QZ D):∀(m i:Nat),l.length-i=m->i<=l.length->
  D.ask (.lp 22 0) [.ls (l.map CP),.ls (l.map CP),iv (i:Int)] []=Θ (.tup [iv 0],[]):=by
 intro m
 induction m with
 |zero=>
  intro i hm hi;refine Ax Kc Ab7 (AiC ..) ?_;rw[Ao];exact Ak rfl
 |succ m ih=>
  intro i hm hi;have h1:i<l.length:=by omega
  have ih:=ih (i+1) (by omega) (by omega);have hn1:∀ kk,BH (l.map CP) i kk=kk (CP l[i]):=λkk=>AB (φ h1) kk
  have ht:=h l[i] (Ast h1);revert hn1 ht;generalize l[i]=r;intro hn1 ht;obtain⟨t,e⟩:=r;obtain⟨b,g,hb⟩:=MD Kt Kq F ht (u:=t) hn hk e e;obtain rfl:b=Δ:=hb.2 ⟨rfl,rfl⟩;obtain⟨tp,tz⟩:=t;refine Ax Kc Ab7 (AiC ..) ?_;rw[Ao];refine Ap ?_;simp only[Au,hn1,N5,eN,ND,DK,Aa];refine Ab g ?_;simp only[ND,DK,Aa];rw[BV (by omega)];refine Ab ih ?_;rfl
omit Kh in
theorem PW(l:List (Tm × Bool)){n k:Nat}(hl:l.length<=1000000)(hn:n<=1000000)(hk:k<=1000000000)(h:∀ r∈l,TmB n k r.1)(Kq:Knows At QZ D):D.ask (.fn 22) [.ls (l.map CP),.ls (l.map CP)] []=Θ (bv Δ,[]):=by
 refine AC Kc Ab7 (e22 ..) ?_;refine Bt ?_ rfl;refine Ab (UK Kc F Kt l hl hn hk h Kq _ 0 rfl (by omega)) ?_;rfl
end
theorem Ama{p:Tm}{e:Bool}(h:(C8 p e).2≠0):(C8 p e).1=zrR:=by
 unfold C8 at h ⊢;split
 .rfl
 .rename_i h0
  rw[if_neg h0]at h;split
  .rename_i h1
   rw[if_pos h1]at h;split
   .rename_i h2
    rw[if_pos h2]at h;exact absurd rfl h
   .rfl
  .rename_i h1
   rw[if_neg h1]at h;exact absurd rfl h
theorem Ah6(x:Int){n:Nat}(hn:0<n):∃ i:Nat,i<n/\Ae.rem .i64 (Ae.bits .and .i64 x 1023) (n:Int)=(i:Int):=by
 have h:(BitVec.ofInt 64 x &&& BitVec.ofInt 64 1023).toNat<=1023:=by
  rw[BitVec.toNat_and];exact Nat.le_trans Nat.and_le_right (by decide)
 have e:Ae.bits .and .i64 x 1023=((BitVec.ofInt 64 x &&& BitVec.ofInt 64 1023).toNat:Int):=by
  show IntKind.i64.wrap ((BitVec.ofInt 64 x &&& BitVec.ofInt 64 1023).toNat:Int)=_
  rw[IntKind.wrap_i64];omega
 refine⟨_,Nat.mod_lt ((BitVec.ofInt 64 x &&& BitVec.ofInt 64 1023).toNat) hn,?_⟩;rw[e];rfl
theorem M7(x:Tm × Bool):(CP x).length=4:=rfl
theorem AeZ(x:Tm × Bool):EJ (CP x)=Δ:=rfl
theorem UJ{α:Type}(e:α->List AV)(a b:List α):Ag e (a++b)=Ag e a++Ag e b:=by
 unfold Ag;rw[List.flatMap_append]
section
variable {D:Orc} (Kl:Knows At WR D)
include Kl
theorem Ac3(rs:List (Tm × Bool))(v:Int)(hl:rs.length<=1000000)
  (h:∀ x∈rs,∃(r:Tm × Bool) (n:Int) (r2:Tm × Bool) (n2:Int),D.ask (.fn 17) [.agg (CP x)] []=Θ (.tup [.agg (CP r),iv n],[])/\D.ask (.fn 17) [.agg (CP r)] []=Θ (.tup [.agg (CP r2),iv n2],[]) ∧
   ((n=0/\n2=0/\D.ask (.fn 21) [.agg (CP r),.agg (CP r2)] []=Θ (bv Δ,[]))\/(n≠0/\r.1.ps=[]))) :
  ∀(m i:Nat),rs.length-i=m->i<=rs.length->D.ask (.lp 7 0) [.ls (rs.map CP),iv v,.ls (rs.map CP),iv (rs.length:Int),iv (i:Int)] []=Θ (.tup [iv 0,.ls (rs.map CP),iv v],[]):=by
 intro m
 induction m with
 |zero=>
  intro i hm hi;refine Ax Kl hn7 (Ana ..) ?_;exact Ak rfl
 |succ m ih=>
  intro i hm hi;have h1:i<rs.length:=by omega
  have ih:=ih (i+1) (by omega) (by omega);have hx:=h rs[i] (Ast h1);have hn1:∀ kk,BH (rs.map CP) i kk=kk (CP rs[i]):=λkk=>AB (φ h1) kk
  generalize rs[i]=x at *;obtain⟨⟨⟨jp,jz⟩,f⟩,n,⟨⟨qp,qz⟩,g⟩,n2,g1,g2,g3⟩:=hx;obtain⟨⟨ps,kz⟩,e⟩:=x;refine Ax Kl hn7 (Ana ..) ?_;refine Ap ?_;rw[Au,hn1];simp only[N5,eN,ND,DK,Aa]at g1 g2 g3 ⊢;refine Ab g1 ?_;simp only[ND,DK,Aa];refine Ab g2 ?_;simp only[ND,DK,Aa];rw[BV (by omega)];rcases g3 with⟨rfl,rfl,g3⟩|⟨g3,rfl⟩
  .refine(GL rfl).trans ((GL rfl).trans ((CM g3 _).trans ?_))
   simp only[ND,DK,Aa];exact(GL rfl).trans ((CM ih _).trans rfl)
  .exact(GK g3).trans ((GK g3).trans ((GL rfl).trans ((CM ih _).trans rfl)))
variable (Kw:Knows At Yq D) (Kv:Knows At Yr D) (Kr:Knows At Q0 D) (Kq:Knows At QZ D) (F:RF D) (T:T4 D)
include Kw Kv Kr Kq F T
theorem Ui(rs:List (Tm × Bool))(v:Int)(hl:rs.length<4611686018427387904)(hr:∀ r∈rs,LmT r.1) :
  D.ask (.fn 7) [.ls (rs.map CP),iv v] []=Θ (bv Δ,[]):=by
 have gf:=AkM Kw rs 12 (12:Nat) (by omega)
 have body:(decide (rs.length<=12)&&rs.all (Sj ((12:Nat):Int)))=Δ->rs.length<=12/\D.ask (.lp 7 0) [.ls (rs.map CP),iv v,.ls (rs.map CP),iv (rs.length:Int),iv 0] []=Θ (.tup [iv 0,.ls (rs.map CP),iv v],[]) ∧
   ∃ o:Option (List RL),(∀ qs:List (Tm × Bool),qs.length<=100->(∀ x,x∈qs ↔ x∈rs)->D.ask (.fn 33) [.ls (qs.map CP)] []=Θ (.tup [.ls ((o.getD []).map Ec),bv o.isSome],[])) ∧
    (∃ Y b,D.ask (.fn 33) [.ls ((o.getD []).map Ec)] []=Θ (.tup [.ls Y,bv b],[])/\(o.isSome=Δ->Y=(o.getD []).map Ec/\b=Δ))/\D.ask (.fn 22) [.ls ((o.getD []).map Ec),.ls ((o.getD []).map Ec)] []=Θ (bv Δ,[]):=λh1=>by
  rw[Bool.and_eq_true,decide_eq_true_eq,List.all_eq_true]at h1;obtain⟨h1,h3⟩:=h1;have hb:∀ x∈rs,TmB 20 12 x.1:=λx hx=>(hr x hx).tmb (h3 x hx)
  refine⟨h1,?_,?_⟩
  .refine Ac3 Kl rs v (by omega) (λx hx=>?_) _ 0 rfl (by omega)
   have b:=hb x hx;have g1:=T.tight b (by omega) (by omega) (by omega) x.2;have tb:=WS b (by omega) x.2;have g2:=T.tight tb (by omega) (by omega) (by omega) (C8 x.1.lf.pln.tm x.2).1.2;refine⟨_,_,_,_,g1,g2,?_⟩
   by_cases h0:(C8 x.1.lf.pln.tm x.2).2=0
   .obtain⟨t1,t2⟩:=SV (l:=x.1.lf) (e:=x.2) h0
    have t3:=Pv t1;refine .inl ⟨h0,?_⟩;rw[t2]at tb ⊢;simp only at tb ⊢;rw[Cd,t1.plnE,t3];refine⟨rfl,?_⟩;obtain⟨c,gc,hc⟩:=MD Kr Kq F tb (u:=(Hl x.1.lf x.2).1.tm) (by omega) (by omega) (Hl x.1.lf x.2).2 (Hl x.1.lf x.2).2;rw[hc.2 ⟨rfl,rfl⟩]at gc;exact gc
   .exact .inr ⟨h0,by rw[Ama h0];rfl⟩
  .have hq:∀ qs:List (Tm × Bool),(∀ x,x∈qs ↔ x∈rs)->∀ x,x∈qs.map MB ↔ x∈rs.map MB:=λqs h x=>by
    simp only[Asj];exact⟨λ⟨a,ha,e⟩=>⟨a,(h a).1 ha,e⟩,λ⟨a,ha,e⟩=>⟨a,(h a).2 ha,e⟩⟩
   obtain⟨o,ho,_⟩:=T.tidy (n:=20) (k:=12) (by omega) (by omega) (by omega) (rs:=rs) (by omega) hb ⟨rs.map MB,by rw[Ar2];omega,λ_=>Iff.rfl⟩;refine⟨o,λqs hql hm=>?_,?_⟩
   .obtain⟨o',ho',g⟩:=T.tidy (n:=20) (k:=12) (by omega) (by omega) (by omega) (rs:=qs) (by omega) (λx hx=>hb x ((hm x).1 hx)) ⟨rs.map MB,by rw[Ar2];omega,hq qs hm⟩
    rw[JO ho (Aak (hq qs hm) ho')];refine g.trans ?_
    cases o'<;>rfl
   .have key:∀ s:List RL,s.length<=12->(∀ r∈s,LB 20 96 r.1)->D.ask (.fn 22) [.ls (s.map Ec),.ls (s.map Ec)] []=Θ (bv Δ,[]):=λs h1 h2=>by
     have:=PW Kv F Kr (s.map tmT) (n:=20) (k:=96) (by rw[Ar2];omega) (by omega) (by omega) (λr hr=>by
      obtain⟨x,hx,rfl⟩:=Asj.1 hr;exact(h2 x hx).tb) Kq
     rw[Atk]at this;exact this
    cases o with
    |none=>
     obtain⟨o',_,g⟩:=T.tidy (n:=20) (k:=12) (by omega) (by omega) (by omega) (rs:=[]) (by decide) (λx hx=>by cases hx) ⟨[],by decide,λ_=>Iff.rfl⟩;refine⟨?_,key [] (by decide) λr hr=>(by cases hr)⟩
     cases o' with
     |none=>exact⟨_,_,g,λh=>by cases h⟩
     |some s=>exact⟨_,_,g,λh=>by cases h⟩
    |some s=>
     have hlen:=Aaj ho;rw[Ar2]at hlen;obtain⟨ha,hm⟩:=Ad4 (n:=20) (k:=96) ho λr hr=>by
      obtain⟨x,hx,rfl⟩:=Asj.1 hr;exact(WS (hb x hx) (by omega) x.2).lb
     refine⟨⟨s.map Ec,Δ,?_,λ_=>⟨rfl,rfl⟩⟩,key s (by omega) λr hr=>(hm r hr).1⟩;have e:(s.map tmT).map MB=s:=by
      rw[Atk]
      conv=>rhs;rw[←List.map_id s]
      exact List.map_congr_left λr _=>Ye r
     obtain⟨o',ho',g⟩:=T.tidy (n:=20) (k:=96) (by omega) (by omega) (by omega) (rs:=s.map tmT) (by rw[Ar2];omega) (λx hx=>by
      obtain⟨r,hr,rfl⟩:=Asj.1 hx;exact(hm r hr).1.tb) ⟨s,by omega,λx=>by rw[e]⟩
     rw[e]at ho';rw[←JO (WT ho) ho',Atk]at g;exact g
 refine AC Kl hn7 (e7 ..) ?_;refine Ab T.say ?_;simp only[ND,DK,Aa];refine Ab T.tidying ?_;simp only[ND,DK,Aa];refine Ab gf ?_;simp only[ND,DK,Aa]
 cases h1:(decide (rs.length<=12)&&rs.all (Sj ((12:Nat):Int))) with
 |false=>rfl
 |true=>
  refine Ac ?_;obtain⟨h12,g0,o,gt,gi,gs⟩:=body h1;rw[Ao]
  by_cases h0:rs.length=0
  .exact Bt rfl
  refine Ba ?_;refine Ab g0 ?_;simp only[ND,DK,Aa];rw[Ao];refine Ba ?_;obtain⟨i,hi,ei⟩:=Ah6 v (n:=rs.length) (by omega);have w:=IW M7;have hd:∀ a b:Nat,AP (AS (rs.map CP) a) b=((rs.take a).drop b).map CP:=λa b=>by rw[K0,J3,List.map_drop,List.map_take]
  have hone:∀ l:List (Tm × Bool),EJ (B8 (l.map CP))=Δ:=λl=>by rw[Dw];exact Gm AeZ l
  rw[ei,Au];have hf:∀ n:Nat,n<=36->Bj n 64=Δ:=λn h=>AY (by omega) (by omega)
  rw[Lv (by omega) (by omega)];refine Ac ?_;rw[w rs];refine Ac ?_;rw[hd,List.take_length,w (rs.drop i)];refine Ac ?_;have hb:∀ n:Nat,n≠0->n.beq 0=Φ:=λn h=>by
   cases n with
   |zero=>exact absurd rfl h
   |succ n=>rfl
  have l1:(rs.drop i).length=rs.length-i:=List.length_drop;have l2:(rs.take i).length=i:=by rw[List.length_take];omega
  have hbl:∀ l:List (Tm × Bool),Nat.ble (l.length*4) (Ag CP l).length=Δ:=λl=>A1 M7 l rfl
  have hch:∀ l:List (Tm × Bool),Be l.length 4 ((Ag CP l).take (l.length*4))=l.map CP:=λl=>Bw M7 l rfl
  have hal:∀ l:List (Tm × Bool),(Ag CP l).take (l.length*4)=Ag CP l:=λl=>Bk M7 l rfl
  obtain⟨Y,b5,gi,hY⟩:=gi;have gr:=gt rs (by omega) λ_=>Iff.rfl
  rw[Ao,hb (rs.drop i).length (by omega)];refine BX ?_;rw[hone];refine Ac ?_;rw[hf _ (by omega)];refine Ac ?_;refine Ac ?_;rw[hb rs.length h0];refine BX ?_;rw[hone];refine Ac ?_;rw[hf _ (by omega)];refine Ac ?_;simp only[Dw,Nat.zero_add,List.nil_append,ArT];rw[hbl];refine Ac ?_;rw[Au,Lv (by omega) (by omega)];refine Ac ?_;refine Ac ?_;rw[hd,ArT,w];refine Ac ?_;rw[Ao,hal,←UJ,←η]
  by_cases hi0:i=0
  .have go:=gt (rs.drop i++rs) (by rw[η];omega) λx=>by
    rw[AsC];exact⟨λh=>h.elim As1 id,.inr⟩
   rw[l2,hi0];refine Ac ?_;rw[←hi0];refine Ab gr ?_;simp only[ND,DK,Aa];rw[hbl];refine Ac ?_;rw[hch];refine Ab go ?_;simp only[ND,DK,Aa];refine Ab gi ?_;simp only[ND,DK,Aa];generalize o.isSome=b at *
   cases b with
   |false=>exact(YT _ _).trans ((CM gs _).trans rfl)
   |true=>
    obtain⟨rfl,rfl⟩:=hY rfl;refine(YT _ _).trans ((CM gs _).trans ?_);simp only[ND,DK,Aa];exact(AeO _ _).trans ((CM gs _).trans rfl)
  .have go:=gt (rs.drop i++rs++rs.take i) (by rw[η,η];omega) λx=>by
    rw[AsC,AsC];exact⟨λh=>h.elim (λh=>h.elim As1 id) List.mem_of_mem_take,λh=>.inl (.inr h)⟩
   rw[hb _ (by omega)];refine BX ?_;rw[hone];refine Ac ?_;rw[hf _ (by rw[η];omega)];refine Ac ?_;rw[hbl];refine Ac ?_;refine Ab gr ?_;simp only[ND,DK,Aa];rw[Dw,hal,←UJ,←η,hbl];refine Ac ?_;rw[hch];refine Ab go ?_;simp only[ND,DK,Aa];refine Ab gi ?_;simp only[ND,DK,Aa];generalize o.isSome=b at *
   cases b with
   |false=>exact(YT _ _).trans ((CM gs _).trans rfl)
   |true=>
    obtain⟨rfl,rfl⟩:=hY rfl;refine(YT _ _).trans ((CM gs _).trans ?_);simp only[ND,DK,Aa];exact(AeO _ _).trans ((CM gs _).trans rfl)
