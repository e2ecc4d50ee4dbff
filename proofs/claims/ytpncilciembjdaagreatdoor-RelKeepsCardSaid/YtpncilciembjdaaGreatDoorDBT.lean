/- Layer 4's RelKeeps answe -/
import Derived.Test.YtpncilciembjdaaGreatDoorDBR
set_option linter.all false
open Bool renaming false->Φ,true->Δ,and_false->AtO,and_true->AtT,false_and->Ar9,true_and->Arz
open List renaming all_cons->Asg,all_eq_true->ApY,all_nil->At2,cons_append->AqE,drop_eq_getElem_cons->ApV,drop_eq_nil_of_le->Aqd,drop_zero->Ap4,getElem?_eq_getElem->φ,getElem_mem->Aqg,length_map->Ap1,mem_map->Aqm,nil_append->Aql
open Option renaming some->Θ
namespace Go.Proofs.YtpncilciembjdaaGreatDoor
open Go.RowKit
section
variable {D:Orc} (Kl:Knows Av Wp D)
include Kl
theorem YI(rs:List (Tm × Bool))(vals:List Zi)(hl:rs.length<=1000000)(H:Tm × Bool->Bool)
  (h:∀ x∈rs,∃(r:Tm × Bool) (n:Int),D.ask (.fn 17) [.agg (C5 x)] []=Θ (.tup [.agg (C5 r),iv n],[])/\D.ask (.fn 30) [.agg (C5 x),.ls (vals.map eZ)] []=Θ (bv (H x),[]) ∧
   ((n=1/\H x=Δ)\/(n=-1/\H x=Φ)\/(n=0/\D.ask (.fn 30) [.agg (C5 r),.ls (vals.map eZ)] []=Θ (bv (H x),[])))) :
  ∀(m i:Nat) (a:Bool),rs.length-i=m->i<=rs.length->D.ask (.lp 6 0) [.ls (rs.map C5),.ls (vals.map eZ),bv a,.ls (rs.map C5),iv (rs.length:Int),iv (i:Int)] []=Θ (.tup [iv 0,.ls (rs.map C5),.ls (vals.map eZ),bv (a&&(rs.drop i).all H)],[]):=by
 intro m
 induction m with
 |zero=>
  intro i a hm hi;rw[Aqd (by omega),At2,AtT];refine Ax Kl hn6 (Al2 ..) ?_;exact Ak rfl
 |succ m ih=>
  intro i a hm hi;have h1:i<rs.length:=by omega
  have ih:=λa=>ih (i+1) a (by omega) (by omega)
  have hx:=h rs[i] (Aqg h1);have hn1:∀ kk,BG (rs.map C5) i kk=kk (C5 rs[i]):=λkk=>AB (φ h1) kk
  rw[ApV h1,Asg];generalize rs[i]=x at *;obtain⟨⟨⟨jp,jz⟩,f⟩,n,g1,g2,g3⟩:=hx;obtain⟨⟨ps,kz⟩,e⟩:=x;generalize H (⟨ps,kz⟩,e)=b at *;refine Ax Kl hn6 (Al2 ..) ?_;refine Al ?_;rw[At,hn1];simp only[Re,eN,ND,DK,Aa]at g1 g2 g3 ⊢;refine Ab g1 ?_;simp only[ND,DK,Aa];refine Ab g2 ?_;simp only[ND,DK,Aa];rw[BZ (by omega)];rcases g3 with⟨rfl,rfl⟩|⟨rfl,rfl⟩|⟨rfl,g3⟩
  .refine Ac ?_
   rw[Arz]
   cases a with
   |true=>exact(I7 _ _).trans ((I7 _ _).trans ((Cj (by decide)).trans ((D9 rfl).trans ((Cj (by decide)).trans ((BP (ih Δ) _).trans rfl)))))
   |false=>exact(G0 _ _).trans ((G0 _ _).trans ((Cj (by decide)).trans ((D9 rfl).trans ((Cj (by decide)).trans ((BP (ih Φ) _).trans rfl)))))
  .refine B1 ?_
   rw[Ar9,AtO]
   cases a with
   |true=>exact(I7 _ _).trans ((I7 _ _).trans ((Cj (by decide)).trans ((Cj (by decide)).trans ((D9 rfl).trans ((BP (ih Φ) _).trans rfl)))))
   |false=>exact(G0 _ _).trans ((G0 _ _).trans ((Cj (by decide)).trans ((Cj (by decide)).trans ((D9 rfl).trans ((BP (ih Φ) _).trans rfl)))))
  .cases b with
   |true=>
    refine Ac ?_;rw[Arz]
    cases a with
    |true=>
     refine(I7 _ _).trans ((I7 _ _).trans ((D9 rfl).trans ((BP g3 _).trans ?_)));simp only[ND,DK,Aa];exact(G0 _ _).trans ((Cj (by decide)).trans ((Cj (by decide)).trans ((BP (ih Δ) _).trans rfl)))
    |false=>
     refine(G0 _ _).trans ((G0 _ _).trans ((D9 rfl).trans ((BP g3 _).trans ?_)));simp only[ND,DK,Aa];exact(G0 _ _).trans ((Cj (by decide)).trans ((Cj (by decide)).trans ((BP (ih Φ) _).trans rfl)))
   |false=>
    refine B1 ?_;rw[Ar9,AtO]
    cases a with
    |true=>
     refine(I7 _ _).trans ((I7 _ _).trans ((D9 rfl).trans ((BP g3 _).trans ?_)));simp only[ND,DK,Aa];exact(G0 _ _).trans ((Cj (by decide)).trans ((Cj (by decide)).trans ((BP (ih Φ) _).trans rfl)))
    |false=>
     refine(G0 _ _).trans ((G0 _ _).trans ((D9 rfl).trans ((BP g3 _).trans ?_)));simp only[ND,DK,Aa];exact(G0 _ _).trans ((Cj (by decide)).trans ((Cj (by decide)).trans ((BP (ih Φ) _).trans rfl)))
theorem YJ(xs ys:List (List AV))(a:Bool)(s:List RL)(vals:List Zi)(hl:s.length<=1000000)(H:RL->Bool)
  (h:∀ r∈s,D.ask (.fn 30) [.agg (Da r),.ls (vals.map eZ)] []=Θ (bv (H r),[]))
  (hc:∀ i (h:i+1<s.length),D.ask (.fn 25) [.agg (Da s[i]),.agg (Da s[i+1])] []=Θ (iv (-1),[])) :
  ∀(m i:Nat) (b:Bool),s.length-i=m->i<=s.length->D.ask (.lp 6 1) [.ls xs,.ls (vals.map eZ),bv a,.ls (s.map Da),bv b,.ls (s.map Da),iv (s.length:Int),iv (i:Int)] []=Θ (.tup [iv 2,.ls xs,bv a,.ls (s.map Da),bv (b&&(s.drop i).all H)],[]):=by
 intro m
 induction m with
 |zero=>
  intro i b hm hi;rw[Aqd (by omega),At2,AtT];refine Ax Kl hn6 (Al3 ..) ?_;exact Ak rfl
 |succ m ih=>
  intro i b hm hi;have h1:i<s.length:=by omega
  have ih:=λb=>ih (i+1) b (by omega) (by omega)
  have gx:=h s[i] (Aqg h1);have hn1:∀ kk,BG (s.map Da) i kk=kk (Da s[i]):=λkk=>AB (φ h1) kk
  have hq:i=0\/∃(j:Nat) (p:RL),i=j+1/\(∀ kk,BG (s.map Da) j kk=kk (Da p))/\D.ask (.fn 25) [.agg (Da p),.agg (Da s[i])] []=Θ (iv (-1),[]):=by
   cases i with
   |zero=>exact .inl rfl
   |succ j=>exact .inr ⟨j,s[j],rfl,λkk=>AB (φ (by omega)) kk,hc j h1⟩
  rw[ApV h1,Asg];generalize s[i]=x at *;obtain⟨⟨ps,kz⟩,e⟩:=x;generalize H (⟨ps,kz⟩,e)=c at *;refine Ax Kl hn6 (Al3 ..) ?_;refine Al ?_;rw[At,hn1];simp only[Da,C5,eT,eN,AqE,Aql,ND,DK,Aa]at gx ⊢;rw[BZ (by omega)]
  cases b with
  |true=>
   refine(I7 _ _).trans ((I7 _ _).trans ((I7 _ _).trans ((BP gx _).trans ?_)));simp only[ND,DK,Aa];rw[Arz]
   cases c with
   |true=>
    refine Ac ?_;rw[Arz];rcases hq with rfl|⟨j,p,rfl,hp1,gc⟩
    .exact(C3 (by omega)).trans ((BP (ih Δ) _).trans rfl)
    .skip
     refine Al ?_;rw[GX (by omega),At,hp1];obtain⟨⟨qs,qk⟩,f⟩:=p;simp only[Da,C5,eT,eN,AqE,Aql,ND,DK,Aa]at gc ⊢;refine Ab gc ?_;simp only[ND,DK,Aa];refine BF ?_ rfl;exact Ab (ih Δ) rfl
   |false=>
    refine B1 ?_;rw[Ar9];have ih:=ih Φ;rw[Ar9]at ih;rcases hq with rfl|⟨j,p,rfl,hp1,gc⟩
    .exact(C3 (by omega)).trans ((BP ih _).trans rfl)
    .skip
     refine Al ?_;rw[GX (by omega),At,hp1];obtain⟨⟨qs,qk⟩,f⟩:=p;simp only[Da,C5,eT,eN,AqE,Aql,ND,DK,Aa]at gc ⊢;refine Ab gc ?_;simp only[ND,DK,Aa];refine BF ?_ rfl;exact Ab ih rfl
  |false=>
   refine(G0 _ _).trans ((G0 _ _).trans ((G0 _ _).trans ((G0 _ _).trans ?_)));rw[Ar9];have ih:=ih Φ;rw[Ar9]at ih;rcases hq with rfl|⟨j,p,rfl,hp1,gc⟩
   .exact(C3 (by omega)).trans ((BP ih _).trans rfl)
   .skip
    refine Al ?_;rw[GX (by omega),At,hp1];obtain⟨⟨qs,qk⟩,f⟩:=p;simp only[Da,C5,eT,eN,AqE,Aql,ND,DK,Aa]at gc ⊢;refine Ab gc ?_;simp only[ND,DK,Aa];refine BF ?_ rfl;exact Ab ih rfl
variable (Kw:Knows Av XR D) (Kh:Knows Av Uy D) (T:T4 D)
include Kw Kh T
theorem Rz
  (gh:∀{n k j:Nat} {t:Tm},TmB n k t->n<=1000000->∀(e:Bool) (vals:List Zi),(∀ z∈vals,Lz j z)->(∀ z∈vals,z.abs.length<24)->vals.length<=1000000->k+n+j+1+vals.length<=400000000->D.ask (.fn 30) [.agg (C5 (t,e)),.ls (vals.map eZ)] []=Θ (bv (Ff (t.lf.val (Ek (vals.map zv))) e),[]))
  (gc:∀{n k:Nat} {t u:Tm},TmB n k t->TmB n k u->n<=1000000->k+n<=900000000->∀ e f:Bool,D.ask (.fn 25) [.agg (C5 (t,e)),.agg (C5 (u,f))] []=Θ (iv (U7 t.lf.pln u.lf.pln e f),[]))
  (rs:List (Tm × Bool)) (hl:rs.length<4611686018427387904) (hr:∀ r∈rs,LmT r.1) (vals:List Zi) (hvl:vals.length<4611686018427387904) (hv:∀ z∈vals,Limbs z.abs) :
  D.ask (.fn 6) [.ls (rs.map C5),.ls (vals.map eZ)] []=Θ (bv Δ,[]):=by
 have gf:=AjF Kw rs 12 (12:Nat) (by omega);have gv:=Aeg Kh vals 20 12 (by omega) hvl;have body:(decide (rs.length<=12)&&rs.all (RR ((12:Nat):Int)))=Δ->(vals.length<=20/\∀ z∈vals,z.abs.length<=12)->∃(H:Tm × Bool->Bool) (o:Option (List RL)),D.ask (.lp 6 0) [.ls (rs.map C5),.ls (vals.map eZ),bv Δ,.ls (rs.map C5),iv (rs.length:Int),iv 0] []=Θ (.tup [iv 0,.ls (rs.map C5),.ls (vals.map eZ),bv (rs.all H)],[]) ∧
   D.ask (.fn 33) [.ls (rs.map C5)] []=Θ (match o with|some s=>.tup [.ls (s.map Da),bv Δ] | none=>.tup [.ls [],bv Φ],[])/\(o=none->rs.all H=Φ)/\∀ s,o=Θ s->s.length<=rs.length/\s.length<=12/\D.ask (.lp 6 1) [.ls (rs.map C5),.ls (vals.map eZ),bv (rs.all H),.ls (s.map Da),bv Δ,.ls (s.map Da),iv (s.length:Int),iv 0] []=Θ (.tup [iv 2,.ls (rs.map C5),bv (rs.all H),.ls (s.map Da),bv (rs.all H)],[]):=λh1 h2=>by
  rw[Bool.and_eq_true,decide_eq_true_eq,ApY]at h1;obtain⟨h1,h3⟩:=h1;have hb:∀ x∈rs,TmB 20 12 x.1:=λx hx=>(hr x hx).tmb (h3 x hx)
  have hz:∀ z∈vals,Lz 12 z:=λz hz=>⟨hv z hz,h2.2 z hz⟩
  have h24:∀ z∈vals,z.abs.length<24:=λz hz=>by have:=h2.2 z hz;omega
  have hf:∀ v,v<0->Ek (vals.map zv) v=0:=Pa _;have hh:∀{n k:Nat} {t:Tm} (e:Bool),TmB n k t->n<=20->k<=1000->D.ask (.fn 30) [.agg (C5 (t,e)),.ls (vals.map eZ)] []=Θ (bv (Ff (t.lf.val (Ek (vals.map zv))) e),[]):=λe h hn hk=>gh h (by omega) e vals hz h24 (by omega) (by omega)
  generalize Ek (vals.map zv)=f at *;obtain⟨o,ho,gt⟩:=T.tidy (n:=20) (k:=12) (by omega) (by omega) (by omega) (rs:=rs) (by omega) hb ⟨rs.map M2,by rw[Ap1];omega,λ_=>Iff.rfl⟩;have hall:rs.all (λx=>Ff (x.1.lf.val f) x.2)=Δ ↔ ∀ r∈rs.map M2,Di f r:=by
   rw[ApY];constructor
   .intro h r hr
    obtain⟨x,hx,rfl⟩:=Aqm.1 hr;exact h x hx
   .intro h x hx
    exact h _ (Aqm.2 ⟨x,hx,rfl⟩)
  have hol:=UD hf ho;refine⟨λx=>Ff (x.1.lf.val f) x.2,o,?_,gt,λh=>?_,λs h=>?_⟩
  .have:=YI Kl rs vals (by omega) (λx=>Ff (x.1.lf.val f) x.2) (λx hx=>?_) _ 0 Δ rfl (by omega)
   .rw[Ap4,Arz]at this
    exact this
   .have b:=hb x hx
    refine⟨_,_,T.tight b (by omega) (by omega) (by omega) x.2,hh x.2 b (by omega) (by omega),?_⟩;have k:=O4 hf (l:=x.1.lf.pln) (by unfold Lf.pln;rw[BV (Cw x.1.lf.ps)]) x.2;rw[Sz hf]at k;rcases k with k|k|⟨k1,k2,k3⟩
    .exact .inl k
    .exact .inr (.inl k)
    .refine .inr (.inr ⟨k1,?_⟩)
     have:=hh (CF x.1.lf.pln.tm x.2).1.2 (Wq b (by omega) x.2) (by omega) (by omega);refine this.trans ?_;rw[k2,k3]
  .subst h
   rw[Bool.eq_false_iff];exact λh=>hol (hall.1 h)
  .subst h
   have hlen:=ZC ho;rw[Ap1]at hlen;obtain⟨ha,hm⟩:=Adb (n:=20) (k:=12+4*20+4) ho λr hr=>by
    obtain⟨x,hx,rfl⟩:=Aqm.1 hr;exact(Wq (hb x hx) (by omega) x.2).lb
   refine⟨hlen,by omega,?_⟩;have:=YJ Kl (rs.map C5) (vals.map eZ) (rs.all λx=>Ff (x.1.lf.val f) x.2) s vals (by omega) (λr=>Ff (r.1.val f) r.2) (λr hr=>?_) (λi hi=>?_) _ 0 Δ rfl (by omega)
   .rw[Ap4,Arz,show (s.all λr=>Ff (r.1.val f) r.2)=rs.all λx=>Ff (x.1.lf.val f) x.2 from ?_]at this
    .exact this
    .have hol:(∀ r∈s,Di f r) ↔ ∀ r∈rs.map M2,Di f r:=hol
     rw[Bool.eq_iff_iff,hall,←hol,ApY];exact Iff.rfl
   .have:=hh r.2 (hm r hr).1.tb (by omega) (by omega)
    rw[BS]at this;exact this
   .have a0:=(hm s[i] (Aqg (by omega)))
    have a1:=(hm s[i+1] (Aqg hi));have:=gc a0.1.tb a1.1.tb (by omega) (by omega) s[i].2 s[i+1].2;rw[BS,BS,a0.2.plnE,a1.2.plnE]at this;rw[←Aav (List.pairwise_iff_getElem.1 ha i (i+1) (by omega) hi (by omega))];exact this
 refine AI Kl hn6 (e6 ..) ?_;refine Ab T.say ?_;simp only[ND,DK,Aa];refine Ab T.tidying ?_;simp only[ND,DK,Aa];refine Ab gf ?_;simp only[ND,DK,Aa]
 cases h1:(decide (rs.length<=12)&&rs.all (RR ((12:Nat):Int))) with
 |false=>rfl
 |true=>
  refine Ac ?_;refine Ab gv ?_;simp only[ND,DK,Aa]
  by_cases h2:vals.length<=20/\∀ z∈vals,z.abs.length<=12
  .rw[decide_eq_true h2]
   refine Ac ?_;obtain⟨H,o,g0,gt,k1,k2⟩:=body h1 h2;rw[Aw];refine Ab g0 ?_;simp only[ND,DK,Aa]
   cases o with
   |none=>
    rw[k1 rfl];refine Ab gt ?_;rfl
   |some s=>
    obtain⟨l1,l2,g1⟩:=k2 s rfl;refine Ab gt ?_;simp only[ND,DK,Aa];rw[Aw];refine B1 ?_;refine Ab g1 ?_;simp only[ND,DK,Aa];rw[Aw,Aw]
    cases rs.all H with
    |true=>exact(I7 _ _).trans ((KW (by omega)).trans rfl)
    |false=>exact(I7 _ _).trans ((KW (by omega)).trans rfl)
  .rw[decide_eq_false h2]
   rfl
