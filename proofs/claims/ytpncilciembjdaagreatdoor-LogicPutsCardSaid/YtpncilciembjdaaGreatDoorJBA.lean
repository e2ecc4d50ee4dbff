/- What the reference's cop -/
import Derived.Test.YtpncilciembjdaaGreatDoorJAZ
import Derived.Test.YtpncilciembjdaaGreatDoorJAY
set_option linter.all false
open Bool renaming false->Ξ,true->U,and_eq_true->Atk,false_eq_true->Auc
open List renaming append_assoc->Atp,append_nil->AtY,drop->Atg,drop_eq_getElem_cons->χ,drop_eq_nil_of_le->Atc,drop_zero->ι,filter_cons->AuN,getElem?_eq_getElem->δ,getElem_append_right->AuV,getElem_mem->Ats,length_filter_le->AvL,length_map->Atm,map_cons->Atu,map_nil->AtO,mem_filter->Auk,mem_map->AtH,nil_append->Atw,set_append_right->AvN,singleton_append->AtU,take->ε
open Nat renaming ble->Atl,le_refl->η,le_trans->AtA,lt_succ_self->AtT,sub_self->Awk,zero_le->AtI
open Option renaming none->Θ,some->Δ
namespace Go.Proofs.YtpncilciembjdaaGreatDoor
noncomputable section
open ABlk renaming mk->Ψ
open AV renaming agg->ξ,ls->Φ,ptr->ψ,sl->π,tup->Ath,v->Ati
open BO renaming set->Atb
open IntKind renaming i64->Ω
open Key renaming fn->ω,lp->ο
open Tryz renaming prog->ζ
open Go.RowKit
inductive CnF:Fm->Prop
 |mk {k:Int} {t:Tm} {e:Bool} {ks:List Fm} (h:k≠2->t=Zd/\e=Ξ) (hk:∀ y∈ks,CnF y):CnF (.mk k t e ks)
theorem CanF.cn:∀{x:Fm},CanF x->CnF x:=by
 have key:∀(n:Nat) (x:Fm),SizeOf.sizeOf x<n->CanF x->CnF x:=by
  intro n
  induction n with
  |zero=>intro x h;omega
  |succ n ih=>
   intro x hn hx;have hk:=hx.kids;have hh:=hx.head;obtain⟨k,t,e,ks⟩:=x;refine .mk (λh2=>?_) λy hy=>ih y (by have:=BW (k:=k) (t:=t) (e:=e) hy;omega) (hk y hy)
   rcases hh with⟨h,_⟩|⟨_,h,h'⟩
   .exact absurd h h2
   .exact⟨h,h'⟩
 exact λ{x}=>key _ x (AtT _)
theorem Ls(k:KR):P1 (.slice Θ 0 0) (.v (.slice Θ 0 0)) k=k:=rfl
section
variable {D:Orc} (Kt:Knows Aq Mb D) (F:RF D)
include Kt F
theorem Ac1{n k m:Nat}{ps qs:List Pt}{kz jz:Zi}(hl:ps.length=qs.length)(hp:TmB n k ⟨ps,kz⟩)(hn:n<=1000000)(hk:k<=1000000000):∀(m i:Nat),ps.length-i=m->i<=ps.length->
  ∃ b,D.ask (.lp 78 0) [.ptr 0 0,.ptr 1 0,iv (i:Int)] [⟨[.ls (ps.map eP),bv kz.neg,eN kz.abs],U,Ξ⟩,⟨[.ls (qs.map eP),bv jz.neg,eN jz.abs],U,Ξ⟩]=Δ (if b then .tup [iv 0] else .tup [bv U,bv Ξ],[.del,.del])/\(b=U ↔ ps.drop i=qs.drop i):=by
 have hlen:ps.length<=n:=hp.len;intro m
 induction m with
 |zero=>
  intro i hm hi;refine⟨U,?_,by rw[Atc (by omega),Atc (by omega)];simp⟩;refine Ax Kt Qx (V3 ..) ?_;rw[Ao];exact At rfl
 |succ m ih=>
  intro i hm hi;have h1:i<ps.length:=by omega
  have h2:i<qs.length:=by omega
  have hn1:∀ kk,Bh (ps.map eP) i kk=kk (eP ps[i]):=λkk=>AD (δ h1) kk
  have hn2:∀ kk,Bh (qs.map eP) i kk=kk (eP qs[i]):=λkk=>AD (δ h2) kk
  have hz:=hp.ps ps[i] (Ats h1);rw[χ h1,χ h2];revert hn1 hn2 hz;generalize ps[i]=p;generalize qs[i]=q;intro hn1 hn2 hz;obtain⟨b,g,hb⟩:=ih (i+1) (by omega) (by omega);have gs:=F.same p.z q.z (hz.mono hk);obtain⟨pv,pn,pa⟩:=p;obtain⟨qv,qn,qa⟩:=q;simp only[eZ,eN]at gs g ⊢
  by_cases hv:pv=qv
  .by_cases hz:pn=qn/\pa=qa
   .rw[B3 hz]at gs
    refine⟨b,?_,?_⟩
    .refine Ax Kt Qx (V3 ..) ?_
     rw[Ao];refine Au ?_;simp only[AC,hn1,hn2,eP,eN,Ai];refine Ba ?_ hv;refine Ab gs ?_;simp only[Ai];rw[BE (by omega)];refine Ab g ?_
     cases b<;>rfl
    .rw[hb,hv,hz.1,hz.2]
     simp
   .rw[Cn hz]at gs
    refine⟨Ξ,?_,?_⟩
    .refine Ax Kt Qx (V3 ..) ?_
     rw[Ao];refine Au ?_;simp only[AC,hn1,hn2,eP,eN,Ai];refine Ba ?_ hv;refine Ab gs ?_;rfl
    .simp only[Auc,false_iff,List.cons.injEq,Pt.mk.injEq,Zi.mk.injEq]
     exact λh=>hz h.1.2
  .refine⟨Ξ,?_,?_⟩
   .refine Ax Kt Qx (V3 ..) ?_
    rw[Ao];refine Au ?_;simp only[AC,hn1,hn2,eP,eN,Ai];exact AO rfl hv
   .simp only[Auc,false_iff,List.cons.injEq,Pt.mk.injEq,Zi.mk.injEq]
    exact λh=>hv h.1.1
theorem Ac2{n k:Nat}{t u:Tm}(ht:TmB n k t)(hn:n<=1000000)(hk:k<=1000000000):∃ b,D.ask (.fn 78) [.agg (eT t),.agg (eT u)] []=Δ (bv b,[])/\(b=U ↔ t=u):=by
 obtain⟨ps,kz⟩:=t;obtain⟨qs,jz⟩:=u;have gs:=F.same kz jz (ht.k.mono hk)
 by_cases hl:ps.length=qs.length
 .obtain⟨b,g,hb⟩:=Ac1 Kt F (m:=0) (kz:=kz) (jz:=jz) hl ht hn hk _ 0 rfl (by omega)
  rw[ι,ι]at hb;obtain⟨kn,ka⟩:=kz;obtain⟨jn,ja⟩:=jz;simp only[eZ,eN]at gs g
  by_cases hz:kn=jn/\ka=ja
  .rw[B3 hz]at gs
   refine⟨b,?_,?_⟩
   .refine Az Kt Qx (e78 ..) ?_
    rw[Ao,Ao];refine Ba ?_ (congrArg _ hl);refine Ab gs ?_;simp only[Ai];refine Ab g ?_
    cases b<;>rfl
   .rw[hb,hz.1,hz.2]
    simp
  .rw[Cn hz]at gs
   refine⟨Ξ,?_,?_⟩
   .refine Az Kt Qx (e78 ..) ?_
    rw[Ao,Ao];refine Ba ?_ (congrArg _ hl);refine Ab gs ?_;rfl
   .simp only[Auc,false_iff,Tm.mk.injEq,Zi.mk.injEq]
    exact λh=>hz h.2
 .refine⟨Ξ,?_,?_⟩
  .refine Az Kt Qx (e78 ..) ?_
   rw[Ao,Ao];exact BA λh=>hl (Int.ofNat.inj h)
  .simp only[Auc,false_iff,Tm.mk.injEq]
   exact λh=>hl (by rw[h.1])
end
section
variable {D:Orc} (Kt:Knows Aq Mb D) (Kh:Knows Aq Ox D) (Kq:Knows Aq Hz D) (F:RF D)
include Kt Kq F
theorem Ti{n k:Nat}{t u:Tm}(ht:TmB n k t)(hn:n<=1000000)(hk:k<=1000000000)(e f:Bool):∃ b,D.ask (.fn 21) [.agg (eT t++[bv e]),.agg (eT u++[bv f])] []=Δ (bv b,[])/\(b=U ↔ t=u/\e=f):=by
 obtain⟨b,g,hb⟩:=Ac2 Kt F (u:=u) ht hn hk;obtain⟨ps,kn,ka⟩:=t;obtain⟨qs,jn,ja⟩:=u
 by_cases he:e=f
 .refine⟨b,?_,by rw[hb];simp[he]⟩
  refine Az Kq Alv (e21 ..) ?_;rw[PP,he,beq_self_eq_true];refine Af ?_;refine Ab g ?_
  cases b<;>rfl
 .refine⟨Ξ,?_,by simp[he]⟩
  refine Az Kq Alv (e21 ..) ?_;rw[PP,beq_eq_false_iff_ne.2 he];rfl
omit Kt F in
theorem Aaz(ks js:List Fm)(xk yk:Int)(xt yt:Tm)(xe ye:Bool)(hl:ks.length=js.length)(hn:ks.length<=1000000)(g:∀ x∈ks,∀ y∈js,∃ b,D.ask (.fn 38) [.agg (eF x),.agg (eF y)] []=Δ (bv b,[])/\(b=U ↔ x=y)):∀(m i:Nat),ks.length-i=m->i<=ks.length->
  ∃ b,D.ask (.lp 38 0) [.ptr 0 0,.ptr 1 0,iv (i:Int)] [Zz (.mk xk xt xe ks),Zz (.mk yk yt ye js)]=Δ (if b then .tup [iv 0] else .tup [bv U,bv Ξ],[.del,.del])/\(b=U ↔ ks.drop i=js.drop i):=by
 intro m
 induction m with
 |zero=>
  intro i hm hi;refine⟨U,?_,by rw[Atc (by omega),Atc (by omega)];simp⟩;unfold Zz;rw[eF,BI,eF,BI];refine Ax Kq SA (Ai8 ..) ?_;rw[Ao];exact At rfl
 |succ m ih=>
  intro i hm hi;have h1:i<ks.length:=by omega
  have h2:i<js.length:=by omega
  have hn1:∀ kk,Bh (ks.map eF) i kk=kk (eF ks[i]):=λkk=>AD (δ h1) kk
  have hn2:∀ kk,Bh (js.map eF) i kk=kk (eF js[i]):=λkk=>AD (δ h2) kk
  obtain⟨c,gc,hc⟩:=g ks[i] (Ats h1) js[i] (Ats h2);rw[χ h1,χ h2];revert hn1 hn2 gc hc;generalize ks[i]=x;generalize js[i]=y;intro hn1 hn2 gc hc;obtain⟨b,g,hb⟩:=ih (i+1) (by omega) (by omega);unfold Zz at g ⊢;rw[eF,BI,eF,BI]at g ⊢;refine⟨c&&b,?_,by rw[Atk,hc,hb,List.cons.injEq]⟩;obtain⟨k0,⟨p0,z0⟩,e0,l0⟩:=x;obtain⟨k1,⟨p1,z1⟩,e1,l1⟩:=y;refine Ax Kq SA (Ai8 ..) ?_;rw[Ao];refine Au ?_;simp only[AC,hn1,hn2,eF,eN,Ai]at gc ⊢;refine Ab gc ?_;simp only[Ai]
  cases c with
  |false=>rfl
  |true=>
   refine Af ?_;rw[BE (by omega)];refine Ab g ?_
   cases b<;>rfl
theorem Yf{n k:Nat}(hn:n<=1000000)(hk:k<=1000000000):∀(N:Nat) (x y:Fm),SizeOf.sizeOf x<N->FB n k x->CnF x->CnF y->∃ b,D.ask (.fn 38) [.agg (eF x),.agg (eF y)] []=Δ (bv b,[])/\(b=U ↔ x=y):=by
 intro N
 induction N with
 |zero=>intro x y h;omega
 |succ N ih=>
  intro x y hN hb hx hy;obtain⟨ht,hkl,hks⟩:=hb;rename_i xk xt xe ks;obtain⟨h2,hxs⟩:=hx;obtain @⟨yk,yt,ye,js,h3,hys⟩:=hy
  by_cases h0:xk=yk
  .by_cases hl:ks.length=js.length
   .obtain⟨b,g,hgb⟩:=Aaz Kq ks js xk yk xt yt xe ye hl hkl (λx hx y hy=>ih x y (by have:=BW (k:=xk) (t:=xt) (e:=xe) hx;omega) (hks x hx) (hxs x hx) (hys y hy)) _ 0 rfl (by omega)
    rw[ι,ι]at hgb;unfold Zz at g;rw[eF,BI,eF,BI]at g
    by_cases hk2:xk=2
    .obtain⟨c,gc,hc⟩:=Ti Kt Kq F (u:=yt) ht hn hk xe ye
     refine⟨c&&b,?_,?_⟩
     .refine Az Kq SA (e38 ..) ?_
      rw[BI,BI,Ao,Ao];refine Ba ?_ h0;refine Ba ?_;refine Ba ?_ hk2;refine Ab gc ?_;simp only[Ai]
      cases c with
      |false=>rfl
      |true=>
       refine Af ?_;refine Ab g ?_
       cases b<;>rfl
     .rw[Atk,hc,hgb,Fm.mk.injEq]
      constructor
      .rintro⟨⟨rfl,rfl⟩,rfl⟩
       exact⟨h0,rfl,rfl,rfl⟩
      .rintro⟨_,rfl,rfl,rfl⟩
       exact⟨⟨rfl,rfl⟩,rfl⟩
    .refine⟨b,?_,?_⟩
     .refine Az Kq SA (e38 ..) ?_
      rw[BI,BI,Ao,Ao];refine Ba ?_ h0;refine Ba ?_;refine AO ?_ hk2;refine Ab g ?_
      cases b<;>rfl
     .obtain⟨rfl,rfl⟩:=h2 hk2
      obtain⟨rfl,rfl⟩:=h3 (by rw[←h0];exact hk2);rw[hgb,Fm.mk.injEq];exact⟨λh=>⟨h0,rfl,rfl,h⟩,λh=>h.2.2.2⟩
   .refine⟨Ξ,?_,by simp only[Auc,false_iff,Fm.mk.injEq];exact λh=>hl (by rw[h.2.2.2])⟩
    refine Az Kq SA (e38 ..) ?_;rw[BI,BI,Ao,Ao];refine Ba ?_ h0;exact BA (by omega)
  .refine⟨Ξ,?_,by simp only[Auc,false_iff,Fm.mk.injEq];exact λh=>h0 h.1⟩
   refine Az Kq SA (e38 ..) ?_;exact BA h0
omit Kt F in
theorem Lg(b:Bool):D.ask (.fn 109) [bv b] []=Δ (.agg (eF (C9 b)),[]):=by
 refine Az Kq Ajm (Aqg ..) ?_
 cases b<;>rfl
omit Kt F in
theorem Tf(x:Fm):D.ask (.fn 111) [.agg (eF x)] []=Δ (.ls ((Bq x).map eF),[]):=by
 obtain⟨k,t,e,ks⟩:=x;refine Az Kq AaH (An2 ..) ?_;rw[BI,Bq]
 by_cases h4:k=4
 .rw[Ac (.inl h4)]
  exact CO h4
 refine AO ?_ h4
 by_cases h5:k=5
 .rw[Ac (.inr h5)]
  exact CO h5
 refine AO ?_ h5;rw[Ad (by omega)]
 by_cases h3:k=3
 .rw[Ac h3]
  refine Ba ?_ h3;rw[Ao]
  cases ks with
  |nil=>rfl
  |cons y r=>
   refine Au ?_ (by rw[List.length_cons];omega);rw[show I4 0 1 (y::r).length=U by simp[I4],EJ (λx=>by obtain⟨k,t,e,ks⟩:=x;rfl),F5,FH];rfl
 .rw[Ad h3]
  exact BA h3
include Kh in
theorem S8{n k:Nat}{t:Tm}(ht:TmB n k t)(hn:n<=1000000)(hk:k+n<=400000000)(e:Bool):D.ask (.fn 110) [.agg (eT t++[bv e])] []=Δ (.agg (eF (B8 t.lf.pln e)),[]):=by
 have g:=FW Kt Kh F ht hn hk;obtain⟨ps,kz⟩:=t;refine Az Kq Ajn (Aqi ..) ?_;refine Ab g ?_;rfl
end
section
variable {D:Orc} (KL:KnowsL Aq Hz D)
include KL
theorem S9(ks:List Fm)(hl:ks.length<=1000000)(g:∀ x∈ks,D.ask (.fn 42) [.agg (eF x)] []=Δ (.agg (eF (As x)),[]))(r0:Int)(r1:Rw)(r2:Bool)(r3:Rw)(r4:Bool)(r5:Rw)(k0:Int)(k2 k4:Bool):∀(m i:Nat) (out:List Fm),ks.length-i=m->i<=ks.length->out.length<=i->
  D.ask (.lp 42 0) [.ptr 0 0,.ptr 1 0,.ls (ks.map eF),iv (i:Int)] [⟨[iv r0,.ls r1,bv r2,.ls r3,bv r4,.ls r5],U,Ξ⟩,⟨[iv k0,.v (.slice Θ 0 0),bv k2,.v (.slice Θ 0 0),bv k4,.sl 2 0 out.length 6],U,Ξ⟩,⟨Aj eF out,U,U⟩]
   = Δ (.tup [iv 1,.ptr 0 0,.ptr 1 0],[.set ⟨[iv r0,.ls r1,bv r2,.ls r3,bv r4,.ls r5],U,Ξ⟩,.set ⟨[iv k0,.v (.slice Θ 0 0),bv k2,.v (.slice Θ 0 0),bv k4,.sl 3 0 (out++(ks.drop i).map As).length 6],U,Ξ⟩,.del,.set ⟨Aj eF (out++(ks.drop i).map As),U,U⟩]):=by
 intro m
 induction m with
 |zero=>
  intro i out hm hi ho;rw[Atc (by omega),AtO,AtY];refine KL.lpL' AaO _ rfl (by kernel_rfl) ((Ai9 ..).trans ?_);rw[Ao];exact At rfl
 |succ m ih=>
  intro i out hm hi ho;have h1:i<ks.length:=by omega
  have hn1:∀ kk,Bh (ks.map eF) i kk=kk (eF ks[i]):=λkk=>AD (δ h1) kk
  have gx:=g ks[i] (Ats h1);rw[χ h1,Atu];revert hn1 gx;generalize ks[i]=x;intro hn1 gx;have ih:=ih (i+1) (out++[As x]) (by omega) (by omega) (by simp;omega);rw[Atp,AtU,show (out++[As x]).length=out.length+1 by simp]at ih;have hf:Bo (out.length+1) 96=U:=AZ (by omega) (by omega);have hb1:Atl (0+out.length*6) (Aj eF out).length=U:=AQ BJ out (by omega);have e3:Atg 0 (ε (0+out.length*6) (Aj eF out))++eF (As x)=Aj eF (out++[As x]):=by
   rw[ι,Br BJ out (by omega)];exact Bl eF out (As x)
  revert gx ih e3;generalize As x=y;intro gx ih e3;obtain⟨y0,⟨y1,y2⟩,y3,y4⟩:=y;obtain⟨x0,⟨x1,x2⟩,x3,x4⟩:=x;refine KL.lpL' AaO _ rfl (by kernel_rfl) ((Ai9 ..).trans ?_);rw[Ao];refine Au ?_;rw[AC,hn1];simp only[eF,eN,Ai]at gx e3 ⊢;refine Ab gx ?_;simp only[Ai];rw[hf];refine Af ?_;rw[hb1];refine Af ?_;rw[e3,BE (by omega)];refine Ab ih ?_;rfl
end
section
variable {D:Orc} (Kt:Knows Aq Mb D) (Kh:Knows Aq Ox D) (Kq:Knows Aq Hz D) (F:RF D)
include Kt Kh Kq F
theorem X8{n k:Nat}(hn:n<=1000000)(hk:k+n<=400000000):∀(N:Nat) (x:Fm),SizeOf.sizeOf x<N->FC n k x->D.ask (.fn 42) [.agg (eF x)] []=Δ (.agg (eF (As x)),[]):=by
 intro N
 induction N with
 |zero=>intro x h;omega
 |succ N ih=>
  intro x hN hb;obtain⟨ht,hkl,hks⟩:=hb;rename_i kd t e ks;have gk:=Tf Kq (.mk kd t e ks);have gl:∀(js:List Fm),(∀ y∈js,y∈Bq (.mk kd t e ks))->js.length<=1000000->D.ask (.lp 42 0) [.ptr 0 0,.ptr 1 0,.ls (js.map eF),iv ((0:Nat):Int)] [⟨[iv 0,.ls [],bv Ξ,.ls [],bv Ξ,.ls []],U,Ξ⟩,⟨[iv kd,.v (.slice Θ 0 0),bv Ξ,.v (.slice Θ 0 0),bv Ξ,.sl 2 0 0 6],U,Ξ⟩,⟨[],U,U⟩]
   = Δ (.tup [iv 1,.ptr 0 0,.ptr 1 0],[.set ⟨[iv 0,.ls [],bv Ξ,.ls [],bv Ξ,.ls []],U,Ξ⟩,.set ⟨[iv kd,.v (.slice Θ 0 0),bv Ξ,.v (.slice Θ 0 0),bv Ξ,.sl 3 0 (js.map As).length 6],U,Ξ⟩,.del,.set ⟨Aj eF (js.map As),U,U⟩]):=λjs hj hjl=>by
   have:=S9 Kq.l js hjl (λy hy=>ih y (by have:=BW (k:=kd) (t:=t) (e:=e) (CY (hj y hy));omega) (hks y (hj y hy))) 0 [] Ξ [] Ξ [] kd Ξ Ξ _ 0 [] rfl (by omega) (by simp);rw[ι,Atw]at this;exact this
  refine Az Kq AaO (e42 ..) ?_;rw[As]
  by_cases h0:kd=0
  .rw[Ac h0]
   refine Ba ?_ h0;exact Ab (Lg Kq U) rfl
  refine AO ?_ h0;rw[Ad h0]
  by_cases h2:kd=2
  .rw[Ac h2]
   refine Ba ?_ h2;have ga:=S8 Kt Kh Kq F (ht h2) hn hk e;obtain⟨ps,kz⟩:=t;exact Ab ga rfl
  refine AO ?_ h2;rw[Ad h2];rw[Bq,eF,BI]at gk;rw[Bq]at gl hkl;rw[BI]
  by_cases h3:kd=3
  .rw[Ac h3,CL]
   rw[Ad (by omega),Ac h3]at gk gl;have gl:=gl (ks.take 1) (λy hy=>hy) (by rw[List.length_take];omega);refine Ba ?_ h3;refine Ab gk ?_;simp only[Ai];refine Ab gl ?_;simp only[Ai,Ls];rw[AQ BJ _ (by omega)];refine Af ?_;rw[BF BJ _ rfl,h3,kF,eF,BI];rfl
  rw[Ad h3];refine AO ?_ h3
  by_cases h45:kd=4\/kd=5
  .rw[Ac h45,Cm]
   rw[Ac h45]at gk gl hkl;have gl:=gl ks (λy hy=>hy) hkl;have fin:Δ ((.agg [iv kd,.ls [],bv Ξ,.ls [],bv Ξ,.ls ((ks.map As).map eF)],[]):AV × List BO)=Δ (.agg (eF (kF kd (ks.map As))),[]):=by
    rw[kF,eF,BI];rfl
   rcases h45 with h4|h5
   .refine Ba ?_ h4
    refine Ab gk ?_;simp only[Ai];refine Ab gl ?_;simp only[Ai,Ls];rw[AQ BJ _ (by omega)];refine Af ?_;rw[BF BJ _ rfl];exact fin
   .refine AO ?_
    refine Ba ?_ h5;refine Ab gk ?_;simp only[Ai];refine Ab gl ?_;simp only[Ai,Ls];rw[AQ BJ _ (by omega)];refine Af ?_;rw[BF BJ _ rfl];exact fin
  .rw[Ad h45]
   refine AO ?_;refine AO ?_;exact Ab (Lg Kq Ξ) rfl
end
def Bt(n:Int):Int:=min (max n (-2147483648)) 2147483647
def K7(n:Int)(ps:List (Int × Int)):List (Int × Int):=(ps.filter λp=>decide (p.1<=2147483647-n)).map λp=>(p.1+n,p.2)
def EU(n:Int)(l:Lf):Lf:=Lf.pln ⟨K7 (Bt n) (Bu l.ps),l.k⟩
def JQ(n:Int)(vs:List Int):List Int:=vs.filter λv=>decide (v<=2147483647-n)&&decide (0-n<=v)
theorem X3(l:List (Int × Int)):Bu (l.filter λp=>decide (0<=p.1))=Bu l:=by
 refine JY (Dj _) λv hv=>?_
 rw[Gw,Ac hv,FG hv]
theorem AhH(n:Int)(c:Int->Int)(vs:List Int):Bu ((JQ n vs).map λv=>(v+n,c v))=Bu (K7 n (vs.map λv=>(v,c v))):=by
 rw[←X3 (K7 n (vs.map λv=>(v,c v)))]
 congr 1
 induction vs with
 |nil=>rfl
 |cons v r ih=>
  unfold JQ K7 at ih ⊢;rw[Atu,AuN,AuN]
  by_cases h1:v<=2147483647-n
  .rw[B3 h1]
   by_cases h2:0-n<=v
   .rw[B3 h2,Bool.and_self,Ac rfl,Ac rfl,Atu,Atu,AuN,Ac (by simp;omega),ih]
   .rw[Cn h2,Bool.and_false,Ad (by decide),Ac rfl,Atu,AuN,Ad (by simp;omega),ih]
  .rw[Cn h1,Bool.false_and,Ad (by decide),Ad (by decide),ih]
theorem Abu(n:Int)(l:Lf):EU n l=Lf.pln ⟨(JQ (Bt n) (CM l.ps)).map λv=>(v+Bt n,BS l.ps v),l.k⟩:=by
 unfold EU Lf.pln;rw[AhH,Ec]
theorem AhF{n:Int}{m k:Nat}{ps:List (Int × Int)}(hl:ps.length<=m)(h:∀ p∈ps,InB k p.2):(K7 n ps).length<=m/\∀ p∈K7 n ps,InB k p.2:=by
 refine⟨?_,λp hp=>?_⟩
 .unfold K7
  rw[Atm];exact AtA (AvL _ _) hl
 .obtain⟨q,hq,rfl⟩:=AtH.1 hp
  exact h q (Auk.1 hq).1
theorem AhE{n:Int}{m k:Nat}{l:Lf}(h:LB m k l)(hm:m<1000000):LB m (k+2) (EU n l):=by
 have h1:=Gx h (by omega);obtain⟨h2,h3⟩:=AhF (n:=Bt n) (AtA (Ii l.ps) h.len) h1;have hb:LB m (k+1) ⟨K7 (Bt n) (Bu l.ps),l.k⟩:=⟨h2,h3,h.k.mono (by omega)⟩;exact⟨hb.pln.len,Gx hb (by omega),h.k.mono (by omega)⟩
mutual
def CV(T:Lf->Lf):Fm->Fm
 |.mk k t e ks=>.mk k (if k=2 then(T t.lf).tm else t) e (Kr T ks)
def Kr(T:Lf->Lf):List Fm->List Fm
 |[]=>[]
 |x::r=>CV T x::Kr T r
end
theorem In(T:Lf->Lf):∀ l,Kr T l=l.map (CV T)
 |[]=>rfl
 |x::r=>by rw[Kr,In T r];rfl
mutual
theorem S7(s:Int->Lf):∀ x:Fm,Iu s x=CV (K9 s) x
 |.mk k t e ks=>by rw[Iu,CV,PO s ks]
theorem PO(s:Int->Lf):∀ l:List Fm,N9 s l=Kr (K9 s) l
 |[]=>rfl
 |x::r=>by rw[N9,Kr,S7 s x,PO s r]
end
theorem Rz(T:Lf->Lf){k:Int}(h:k≠2)(l:List Fm):CV T (kF k l)=kF k (l.map (CV T)):=by
 unfold kF;rw[CV,Ad h,In]
theorem AcY{T:Lf->Lf}{m j n k:Nat}(hT:∀ l,LB m j l->LB n k (T l))(h1:m<=n)(h2:j<=k):∀(N:Nat) (x:Fm),SizeOf.sizeOf x<N->FB m j x->FB n k (CV T x):=by
 intro N
 induction N with
 |zero=>intro x h;omega
 |succ N ih=>
  intro x hN hx
  cases hx with
  |@mk kd t e ks ht hl hk=>
   rw[CV,In];refine .mk ?_ (by rw[Atm];exact hl) λy hy=>?_
   .split
    .exact(hT _ ht.lb).tb
    .exact ht.mono h1 h2
   .obtain⟨z,hz,rfl⟩:=AtH.1 hy
    refine ih z ?_ (hk z hz);have:=BW (k:=kd) (t:=t) (e:=e) hz;omega
theorem AcX{T:Lf->Lf}:∀(N:Nat) (x:Fm),SizeOf.sizeOf x<N->CnF x->CnF (CV T x):=by
 intro N
 induction N with
 |zero=>intro x h;omega
 |succ N ih=>
  intro x hN hx
  cases hx with
  |@mk kd t e ks h hk=>
   rw[CV,In];refine .mk (λh2=>?_) λy hy=>?_
   .rw[Ad h2]
    exact h h2
   .obtain⟨z,hz,rfl⟩:=AtH.1 hy
    refine ih z ?_ (hk z hz);have:=BW (k:=kd) (t:=t) (e:=e) hz;omega
section
open Go.RowKit
def SV:MFn:=JP ζ Bn [⟨43,(mB 60),[(6000003,6)],[2],[(2,((mB 12),([],[])))]⟩] U Ξ 42
def AaP:Hnt:=⟨[(42,(.agg AL,[])),(109,(.agg AL,[])),(110,(.agg AL,[])),(111,(.ls,[]))],[(0,[(2,([.ptr 0 0,.ptr 1 0],[.box AL,.box [.int .i64,.cst (.slice Θ 0 0),.bool,.cst (.slice Θ 0 0),.bool,.sl 3 6],.del,.row U]))])],[(7,[.int .i64]),(14,Er),(21,[.int .i64]),(23,AL),(32,[.ls]),(35,AL),(36,AL),(41,AL)]⟩
def ApQ:List (Nat × MFn):=[(42,SV)]
variable (A:Ar) (D:Orc)
theorem Aof(x0_0:Int)(x0_1:Rw)(x0_2:Bool)(x0_3:Rw)(x0_4:Bool)(x0_5:Rw):BZ A D Aq AaP .n 42 SV [ξ [iv x0_0,Φ x0_1,bv x0_2,Φ x0_3,bv x0_4,Φ x0_5]] [] =
 br (A.eq x0_0 0)
 (Ag D (ω 109) [bv U] [] [.a,.I,.L,.B,.L,.B,.L,.N,.E] λn xs b xs1 b1 xs2=>
 Δ ((ξ [iv n,Φ xs,bv b,Φ xs1,bv b1,Φ xs2],[])))
 (br (A.eq x0_0 2)
 (Ag D (ω 110) [ξ [Φ x0_1,bv x0_2,Φ x0_3,bv x0_4]] [] [.a,.I,.L,.B,.L,.B,.L,.N,.E] λn xs b xs1 b1 xs2=>
 Δ ((ξ [iv n,Φ xs,bv b,Φ xs1,bv b1,Φ xs2],[])))
 (br (A.eq x0_0 3)
 (Ag D (ω 111) [ξ [iv x0_0,Φ x0_1,bv x0_2,Φ x0_3,bv x0_4,Φ x0_5]] [] [.l,.E] λxs=>
 Ag D (ο 42 0) [ψ 0 0,ψ 1 0,Φ xs,iv 0] [bk [iv 0,Φ [],bv Ξ,Φ [],bv Ξ,Φ []],bk [iv x0_0,Ati (Value.slice Θ 0 0),bv Ξ,Ati (Value.slice Θ 0 0),bv Ξ,π 2 0 0 6],Ψ [] U U] [.t,.C,.x,.X,.Y] λc l o1=>
 br (Bg 2 c)
 (dk [.P 0 0,.P 1 0,.N,.T,.I,.L,.B,.L,.B,.L,.N,.T,.I,.C,.c (Value.slice Θ 0 0),.B,.C,.c (Value.slice Θ 0 0),.B,.C,.q 3 6,.N,.D,.R,.X,.E] [.l l,.o o1] λ_ _ _ _ _ _ n1 b2 b3 n2 cs3=>
 Δ ((ξ [iv n1,Ati (Value.slice Θ 0 0),bv b2,Ati (Value.slice Θ 0 0),bv b3,π 0 0 n2 6],[Atb (Ψ cs3 U U)])))
 (Θ))
 (br (A.eq x0_0 4)
 (Ag D (ω 111) [ξ [iv x0_0,Φ x0_1,bv x0_2,Φ x0_3,bv x0_4,Φ x0_5]] [] [.l,.E] λxs=>
 Ag D (ο 42 0) [ψ 0 0,ψ 1 0,Φ xs,iv 0] [bk [iv 0,Φ [],bv Ξ,Φ [],bv Ξ,Φ []],bk [iv x0_0,Ati (Value.slice Θ 0 0),bv Ξ,Ati (Value.slice Θ 0 0),bv Ξ,π 2 0 0 6],Ψ [] U U] [.t,.C,.x,.X,.Y] λc l o1=>
 br (Bg 2 c)
 (dk [.P 0 0,.P 1 0,.N,.T,.I,.L,.B,.L,.B,.L,.N,.T,.I,.C,.c (Value.slice Θ 0 0),.B,.C,.c (Value.slice Θ 0 0),.B,.C,.q 3 6,.N,.D,.R,.X,.E] [.l l,.o o1] λ_ _ _ _ _ _ n1 b2 b3 n2 cs3=>
 Δ ((ξ [iv n1,Ati (Value.slice Θ 0 0),bv b2,Ati (Value.slice Θ 0 0),bv b3,π 0 0 n2 6],[Atb (Ψ cs3 U U)])))
 (Θ))
 (br (A.eq x0_0 5)
 (Ag D (ω 111) [ξ [iv x0_0,Φ x0_1,bv x0_2,Φ x0_3,bv x0_4,Φ x0_5]] [] [.l,.E] λxs=>
 Ag D (ο 42 0) [ψ 0 0,ψ 1 0,Φ xs,iv 0] [bk [iv 0,Φ [],bv Ξ,Φ [],bv Ξ,Φ []],bk [iv x0_0,Ati (Value.slice Θ 0 0),bv Ξ,Ati (Value.slice Θ 0 0),bv Ξ,π 2 0 0 6],Ψ [] U U] [.t,.C,.x,.X,.Y] λc l o1=>
 br (Bg 2 c)
 (dk [.P 0 0,.P 1 0,.N,.T,.I,.L,.B,.L,.B,.L,.N,.T,.I,.C,.c (Value.slice Θ 0 0),.B,.C,.c (Value.slice Θ 0 0),.B,.C,.q 3 6,.N,.D,.R,.X,.E] [.l l,.o o1] λ_ _ _ _ _ _ n1 b2 b3 n2 cs3=>
 Δ ((ξ [iv n1,Ati (Value.slice Θ 0 0),bv b2,Ati (Value.slice Θ 0 0),bv b3,π 0 0 n2 6],[Atb (Ψ cs3 U U)])))
 (Θ))
 (Ag D (ω 109) [bv Ξ] [] [.a,.I,.L,.B,.L,.B,.L,.N,.E] λn xs b xs1 b1 xs2=>
 Δ ((ξ [iv n,Φ xs,bv b,Φ xs1,bv b1,Φ xs2],[]))))))):=by kernel_rfl
end
section
open Go.RowKit
def NW:MFn:=AE [⟨42,(mB 454),[],[6],[(1,((mB 192),([],[])))]⟩] 44
def NC:Hnt:=⟨[(42,(.agg [.int .i64,.cst (.slice Θ 0 0),.bool,.cst (.slice Θ 0 0),.bool,.sl 0 6],[.row U])),(44,(.agg AL,[])),(114,(.agg Bx,[])),(116,(.agg Bx,[]))],[(0,[(1,([.ptr 0 0,.ptr 1 0],[.box AL,.box [.int .i64,.cst (.slice Θ 0 0),.bool,.cst (.slice Θ 0 0),.bool,.sl 3 6],.del,.row U]))])],[(9,AL),(12,[.int .i64]),(16,Bx),(24,[.ls]),(30,[.ls]),(33,[.ls]),(35,AL),(36,AL),(40,AL),(41,AL)]⟩
def I2:Hnt:=⟨[(42,(.agg AL,[])),(44,(.agg AL,[])),(114,(.agg Bx,[])),(116,(.agg Bx,[]))],[(0,[(1,([.ptr 0 0,.ptr 1 0],[.box AL,.box AL]))])],[(9,AL),(12,[.int .i64]),(16,Bx),(24,[.ls]),(30,[.ls]),(33,[.ls]),(35,AL),(36,AL),(40,AL),(41,AL)]⟩
def NX:MFn:=AE [⟨38,(mB 114),[],[4],[(1,((mB 48),([],[])))]⟩] 46
def NE:Hnt:=⟨[(42,(.agg [.int .i64,.cst (.slice Θ 0 0),.bool,.cst (.slice Θ 0 0),.bool,.sl 0 6],[.row U])),(46,(.agg AL,[])),(114,(.agg Bx,[])),(116,(.agg Bx,[]))],[(0,[(1,([.ptr 0 0,.ptr 1 0],[.box AL,.box [.int .i64,.cst (.slice Θ 0 0),.bool,.cst (.slice Θ 0 0),.bool,.sl 3 6],.del,.row U]))])],[(7,AL),(10,[.int .i64]),(14,Bx),(21,[.ls]),(27,[.ls]),(30,[.ls]),(32,AL),(33,AL),(36,AL),(37,AL)]⟩
def I3:Hnt:=⟨[(42,(.agg AL,[])),(46,(.agg AL,[])),(114,(.agg Bx,[])),(116,(.agg Bx,[]))],[(0,[(1,([.ptr 0 0,.ptr 1 0],[.box AL,.box AL]))])],[(7,AL),(10,[.int .i64]),(14,Bx),(21,[.ls]),(27,[.ls]),(30,[.ls]),(32,AL),(33,AL),(36,AL),(37,AL)]⟩
def Oy:List (Nat × MFn):=[(44,NW),(46,NX)]
variable (A:Ar) (D:Orc)
theorem Aog(x0_0:Int)(x0_1:Rw)(x0_2:Bool)(x0_3:Rw)(x0_4:Bool)(x0_5 x1 x2:Rw):BZ A D Aq NC .n 44 NW [ξ [iv x0_0,Φ x0_1,bv x0_2,Φ x0_3,bv x0_4,Φ x0_5],Φ x1,Φ x2] [] =
 Ag D (ω 42) [ξ [iv x0_0,Φ x0_1,bv x0_2,Φ x0_3,bv x0_4,Φ x0_5]] [] [.a,.I,.C,.c (Value.slice Θ 0 0),.B,.C,.c (Value.slice Θ 0 0),.B,.C,.q 0 6,.N,.R,.X,.E] λn b b1 n1 cs1=>
 br (A.eq n 2)
 (Ag D (ω 114) [ξ [Φ [],bv b,Φ []],Φ x1,Φ x2] [] [.a,.L,.B,.L,.N,.E] λxs b2 xs1=>
 Ag D (ο 44 0) [Φ x1,Φ x2,ψ 0 0,ψ 1 0,iv 0] [bk [iv 0,Φ [],bv Ξ,Φ [],bv Ξ,Φ []],bk [iv n,Φ xs,bv b2,Φ xs1,bv b1,π 2 0 n1 6],Ψ cs1 U U] [.t,.C,.x,.X,.Y] λc4 l10 o2=>
 br (Bg 1 c4)
 (dk [.P 0 0,.P 1 0,.N,.T,.I,.L,.B,.L,.B,.L,.N,.T,.I,.C,.c (Value.slice Θ 0 0),.B,.C,.c (Value.slice Θ 0 0),.B,.C,.q 3 6,.N,.D,.R,.X,.E] [.l l10,.o o2] λ_ _ _ _ _ _ n3 b5 b6 n4 cs6=>
 br ((0+n4*6).ble cs6.length) (Δ ((ξ [iv n3,Φ [],bv b5,Φ [],bv b6,Φ (Bk n4 6 (ε (n4*6) cs6))],[]))) Θ)
 (Θ))
 (Ag D (ο 44 0) [Φ x1,Φ x2,ψ 0 0,ψ 1 0,iv 0] [bk [iv 0,Φ [],bv Ξ,Φ [],bv Ξ,Φ []],bk [iv n,Ati (Value.slice Θ 0 0),bv b,Ati (Value.slice Θ 0 0),bv b1,π 2 0 n1 6],Ψ cs1 U U] [.t,.C,.x,.X,.Y] λc4 l7 o1=>
 br (Bg 1 c4)
 (dk [.P 0 0,.P 1 0,.N,.T,.I,.L,.B,.L,.B,.L,.N,.T,.I,.C,.c (Value.slice Θ 0 0),.B,.C,.c (Value.slice Θ 0 0),.B,.C,.q 3 6,.N,.D,.R,.X,.E] [.l l7,.o o1] λ_ _ _ _ _ _ n3 b4 b5 n4 cs5=>
 br ((0+n4*6).ble cs5.length) (Δ ((ξ [iv n3,Φ [],bv b4,Φ [],bv b5,Φ (Bk n4 6 (ε (n4*6) cs5))],[]))) Θ)
 (Θ)):=by kernel_rfl
theorem VY(t1 t2:Rw)(r0:Int)(r1:Rw)(r2:Bool)(r3:Rw)(r4:Bool)(r5:Rw)(k0:Int)(k2 k4:Bool)(n5:Nat)(c5:Aa)(t8:Int):C2 A D Aq NC .n 44 0 (AN NW 0).fst (AN NW 0).snd [Φ t1,Φ t2,ψ 0 0,ψ 1 0,iv t8] [bk [iv r0,Φ r1,bv r2,Φ r3,bv r4,Φ r5],bk [iv k0,Ati (Value.slice Θ 0 0),bv k2,Ati (Value.slice Θ 0 0),bv k4,π 2 0 n5 6],{ cells:=c5,st:=U,ex:=U }] =
 br (A.lt t8 ↑n5)
 (unI t8 λi=>
 br (i.blt n5) (EX c5 (0+i*6) 6 λcs=>
 dk [.I,.L,.B,.L,.B,.L,.N] [.l cs] λn xs b xs1 b1 xs2=>
 Ag D (ω 44) [ξ [iv n,Φ xs,bv b,Φ xs1,bv b1,Φ xs2],Φ t1,Φ t2] [] [.a,.I,.L,.B,.L,.B,.L,.N,.E] λn1 xs3 b2 xs4 b3 xs5=>
 unI t8 λi1=>
 br (i1.blt n5) (br ((0+i1*6+6).ble c5.length) (AT D (ο 44 0) [Φ t1,Φ t2,ψ 0 0,ψ 1 0,iv (A.add Ω t8 1)] [bk [iv r0,Φ r1,bv r2,Φ r3,bv r4,Φ r5],bk [iv k0,Ati (Value.slice Θ 0 0),bv k2,Ati (Value.slice Θ 0 0),bv k4,π 2 0 n5 6],Ψ (AG c5 (0+i1*6) [iv n1,Φ xs3,bv b2,Φ xs4,bv b3,Φ xs5]) U U] λr6 o1=>
 AI 3 [0,1,2] (AH.mk [(0,bk [iv r0,Φ r1,bv r2,Φ r3,bv r4,Φ r5]),(2,Ψ (AG c5 (0+i1*6) [iv n1,Φ xs3,bv b2,Φ xs4,bv b3,Φ xs5]) U U),(1,bk [iv k0,Ati (Value.slice Θ 0 0),bv k2,Ati (Value.slice Θ 0 0),bv k4,π 2 0 n5 6])] 3 Θ) [2,0] r6 o1) Θ) Θ) Θ)
 (Δ ((Ath [iv 0,ψ 0 0,ψ 1 0],[Atb (bk [iv r0,Φ r1,bv r2,Φ r3,bv r4,Φ r5]),Atb (bk [iv k0,Ati (Value.slice Θ 0 0),bv k2,Ati (Value.slice Θ 0 0),bv k4,π 3 0 n5 6]),BO.del,Atb (Ψ c5 U U)]))):=by kernel_rfl
theorem Aaj(x0_0:Int)(x0_1:Rw)(x0_2:Bool)(x0_3:Rw)(x0_4:Bool)(x0_5 x1 x2:Rw):BZ A D Aq I2 .n 44 NW [ξ [iv x0_0,Φ x0_1,bv x0_2,Φ x0_3,bv x0_4,Φ x0_5],Φ x1,Φ x2] [] =
 Ag D (ω 42) [ξ [iv x0_0,Φ x0_1,bv x0_2,Φ x0_3,bv x0_4,Φ x0_5]] [] [.a,.I,.L,.B,.L,.B,.L,.N,.E] λn xs b xs1 b1 xs2=>
 br (A.eq n 2)
 (Ag D (ω 114) [ξ [Φ xs,bv b,Φ xs1],Φ x1,Φ x2] [] [.a,.L,.B,.L,.N,.E] λxs3 b2 xs4=>
 Ag D (ο 44 0) [Φ x1,Φ x2,ψ 0 0,ψ 1 0,iv 0] [bk [iv 0,Φ [],bv Ξ,Φ [],bv Ξ,Φ []],bk [iv n,Φ xs3,bv b2,Φ xs4,bv b1,Φ xs2]] [.t,.C,.x,.X,.Y] λc l9 o2=>
 br (Bg 1 c)
 (dk [.P 0 0,.P 1 0,.N,.T,.I,.L,.B,.L,.B,.L,.N,.T,.I,.L,.B,.L,.B,.L,.N,.E] [.l l9,.o o2] λ_ _ _ _ _ _ n2 xs8 b5 xs9 b6 xs10=>
 Δ ((ξ [iv n2,Φ xs8,bv b5,Φ xs9,bv b6,Φ xs10],[])))
 (Θ))
 (Ag D (ο 44 0) [Φ x1,Φ x2,ψ 0 0,ψ 1 0,iv 0] [bk [iv 0,Φ [],bv Ξ,Φ [],bv Ξ,Φ []],bk [iv n,Φ xs,bv b,Φ xs1,bv b1,Φ xs2]] [.t,.C,.x,.X,.Y] λc l6 o1=>
 br (Bg 1 c)
 (dk [.P 0 0,.P 1 0,.N,.T,.I,.L,.B,.L,.B,.L,.N,.T,.I,.L,.B,.L,.B,.L,.N,.E] [.l l6,.o o1] λ_ _ _ _ _ _ n2 xs6 b4 xs7 b5 xs8=>
 Δ ((ξ [iv n2,Φ xs6,bv b4,Φ xs7,bv b5,Φ xs8],[])))
 (Θ)):=by kernel_rfl
theorem VZ(t1 t2:Rw)(r0:Int)(r1:Rw)(r2:Bool)(r3:Rw)(r4:Bool)(r5:Rw)(k0:Int)(k1:Rw)(k2:Bool)(k3:Rw)(k4:Bool)(k5:Rw)(t8:Int):C2 A D Aq I2 .n 44 0 (AN NW 0).fst (AN NW 0).snd [Φ t1,Φ t2,ψ 0 0,ψ 1 0,iv t8] [bk [iv r0,Φ r1,bv r2,Φ r3,bv r4,Φ r5],bk [iv k0,Φ k1,bv k2,Φ k3,bv k4,Φ k5]] =
 br (A.lt t8 ↑(Bb k5))
 (unI t8 λi=>
 Bh k5 i λcs=>
 dk [.I,.L,.B,.L,.B,.L,.N] [.l cs] λn xs b xs1 b1 xs2=>
 Ag D (ω 44) [ξ [iv n,Φ xs,bv b,Φ xs1,bv b1,Φ xs2],Φ t1,Φ t2] [] [.a,.I,.L,.B,.L,.B,.L,.N,.E] λ_ _ _ _ _ _=>
 unI t8 λi1=>
 Bh k5 i1 λcs2=>
 dk [.I,.L,.B,.L,.B,.L,.N] [.l cs2] λ_ _ _ _ _ _=>
 Θ)
 (Δ ((Ath [iv 0,ψ 0 0,ψ 1 0],[Atb (bk [iv r0,Φ r1,bv r2,Φ r3,bv r4,Φ r5]),Atb (bk [iv k0,Φ k1,bv k2,Φ k3,bv k4,Φ k5])]))):=by kernel_rfl
theorem Aoh(x0_0:Int)(x0_1:Rw)(x0_2:Bool)(x0_3:Rw)(x0_4:Bool)(x0_5:Rw)(x1:Int):BZ A D Aq NE .n 46 NX [ξ [iv x0_0,Φ x0_1,bv x0_2,Φ x0_3,bv x0_4,Φ x0_5],iv x1] [] =
 Ag D (ω 42) [ξ [iv x0_0,Φ x0_1,bv x0_2,Φ x0_3,bv x0_4,Φ x0_5]] [] [.a,.I,.C,.c (Value.slice Θ 0 0),.B,.C,.c (Value.slice Θ 0 0),.B,.C,.q 0 6,.N,.R,.X,.E] λn b b1 n1 cs1=>
 br (A.eq n 2)
 (Ag D (ω 116) [ξ [Φ [],bv b,Φ []],iv x1] [] [.a,.L,.B,.L,.N,.E] λxs b2 xs1=>
 Ag D (ο 46 0) [iv x1,ψ 0 0,ψ 1 0,iv 0] [bk [iv 0,Φ [],bv Ξ,Φ [],bv Ξ,Φ []],bk [iv n,Φ xs,bv b2,Φ xs1,bv b1,π 2 0 n1 6],Ψ cs1 U U] [.t,.C,.x,.X,.Y] λc4 l10 o2=>
 br (Bg 1 c4)
 (dk [.P 0 0,.P 1 0,.N,.T,.I,.L,.B,.L,.B,.L,.N,.T,.I,.C,.c (Value.slice Θ 0 0),.B,.C,.c (Value.slice Θ 0 0),.B,.C,.q 3 6,.N,.D,.R,.X,.E] [.l l10,.o o2] λ_ _ _ _ _ _ n3 b5 b6 n4 cs6=>
 br ((0+n4*6).ble cs6.length) (Δ ((ξ [iv n3,Φ [],bv b5,Φ [],bv b6,Φ (Bk n4 6 (ε (n4*6) cs6))],[]))) Θ)
 (Θ))
 (Ag D (ο 46 0) [iv x1,ψ 0 0,ψ 1 0,iv 0] [bk [iv 0,Φ [],bv Ξ,Φ [],bv Ξ,Φ []],bk [iv n,Ati (Value.slice Θ 0 0),bv b,Ati (Value.slice Θ 0 0),bv b1,π 2 0 n1 6],Ψ cs1 U U] [.t,.C,.x,.X,.Y] λc4 l7 o1=>
 br (Bg 1 c4)
 (dk [.P 0 0,.P 1 0,.N,.T,.I,.L,.B,.L,.B,.L,.N,.T,.I,.C,.c (Value.slice Θ 0 0),.B,.C,.c (Value.slice Θ 0 0),.B,.C,.q 3 6,.N,.D,.R,.X,.E] [.l l7,.o o1] λ_ _ _ _ _ _ n3 b4 b5 n4 cs5=>
 br ((0+n4*6).ble cs5.length) (Δ ((ξ [iv n3,Φ [],bv b4,Φ [],bv b5,Φ (Bk n4 6 (ε (n4*6) cs5))],[]))) Θ)
 (Θ)):=by kernel_rfl
theorem V0(t1 r0:Int)(r1:Rw)(r2:Bool)(r3:Rw)(r4:Bool)(r5:Rw)(k0:Int)(k2 k4:Bool)(n5:Nat)(c5:Aa)(t8:Int):C2 A D Aq NE .n 46 0 (AN NX 0).fst (AN NX 0).snd [iv t1,ψ 0 0,ψ 1 0,iv t8] [bk [iv r0,Φ r1,bv r2,Φ r3,bv r4,Φ r5],bk [iv k0,Ati (Value.slice Θ 0 0),bv k2,Ati (Value.slice Θ 0 0),bv k4,π 2 0 n5 6],{ cells:=c5,st:=U,ex:=U }] =
 br (A.lt t8 ↑n5)
 (unI t8 λi=>
 br (i.blt n5) (EX c5 (0+i*6) 6 λcs=>
 dk [.I,.L,.B,.L,.B,.L,.N] [.l cs] λn xs b xs1 b1 xs2=>
 Ag D (ω 46) [ξ [iv n,Φ xs,bv b,Φ xs1,bv b1,Φ xs2],iv t1] [] [.a,.I,.L,.B,.L,.B,.L,.N,.E] λn1 xs3 b2 xs4 b3 xs5=>
 unI t8 λi1=>
 br (i1.blt n5) (br ((0+i1*6+6).ble c5.length) (AT D (ο 46 0) [iv t1,ψ 0 0,ψ 1 0,iv (A.add Ω t8 1)] [bk [iv r0,Φ r1,bv r2,Φ r3,bv r4,Φ r5],bk [iv k0,Ati (Value.slice Θ 0 0),bv k2,Ati (Value.slice Θ 0 0),bv k4,π 2 0 n5 6],Ψ (AG c5 (0+i1*6) [iv n1,Φ xs3,bv b2,Φ xs4,bv b3,Φ xs5]) U U] λr6 o1=>
 AI 3 [0,1,2] (AH.mk [(0,bk [iv r0,Φ r1,bv r2,Φ r3,bv r4,Φ r5]),(2,Ψ (AG c5 (0+i1*6) [iv n1,Φ xs3,bv b2,Φ xs4,bv b3,Φ xs5]) U U),(1,bk [iv k0,Ati (Value.slice Θ 0 0),bv k2,Ati (Value.slice Θ 0 0),bv k4,π 2 0 n5 6])] 3 Θ) [2,0] r6 o1) Θ) Θ) Θ)
 (Δ ((Ath [iv 0,ψ 0 0,ψ 1 0],[Atb (bk [iv r0,Φ r1,bv r2,Φ r3,bv r4,Φ r5]),Atb (bk [iv k0,Ati (Value.slice Θ 0 0),bv k2,Ati (Value.slice Θ 0 0),bv k4,π 3 0 n5 6]),BO.del,Atb (Ψ c5 U U)]))):=by kernel_rfl
theorem Aak(x0_0:Int)(x0_1:Rw)(x0_2:Bool)(x0_3:Rw)(x0_4:Bool)(x0_5:Rw)(x1:Int):BZ A D Aq I3 .n 46 NX [ξ [iv x0_0,Φ x0_1,bv x0_2,Φ x0_3,bv x0_4,Φ x0_5],iv x1] [] =
 Ag D (ω 42) [ξ [iv x0_0,Φ x0_1,bv x0_2,Φ x0_3,bv x0_4,Φ x0_5]] [] [.a,.I,.L,.B,.L,.B,.L,.N,.E] λn xs b xs1 b1 xs2=>
 br (A.eq n 2)
 (Ag D (ω 116) [ξ [Φ xs,bv b,Φ xs1],iv x1] [] [.a,.L,.B,.L,.N,.E] λxs3 b2 xs4=>
 Ag D (ο 46 0) [iv x1,ψ 0 0,ψ 1 0,iv 0] [bk [iv 0,Φ [],bv Ξ,Φ [],bv Ξ,Φ []],bk [iv n,Φ xs3,bv b2,Φ xs4,bv b1,Φ xs2]] [.t,.C,.x,.X,.Y] λc l9 o2=>
 br (Bg 1 c)
 (dk [.P 0 0,.P 1 0,.N,.T,.I,.L,.B,.L,.B,.L,.N,.T,.I,.L,.B,.L,.B,.L,.N,.E] [.l l9,.o o2] λ_ _ _ _ _ _ n2 xs8 b5 xs9 b6 xs10=>
 Δ ((ξ [iv n2,Φ xs8,bv b5,Φ xs9,bv b6,Φ xs10],[])))
 (Θ))
 (Ag D (ο 46 0) [iv x1,ψ 0 0,ψ 1 0,iv 0] [bk [iv 0,Φ [],bv Ξ,Φ [],bv Ξ,Φ []],bk [iv n,Φ xs,bv b,Φ xs1,bv b1,Φ xs2]] [.t,.C,.x,.X,.Y] λc l6 o1=>
 br (Bg 1 c)
 (dk [.P 0 0,.P 1 0,.N,.T,.I,.L,.B,.L,.B,.L,.N,.T,.I,.L,.B,.L,.B,.L,.N,.E] [.l l6,.o o1] λ_ _ _ _ _ _ n2 xs6 b4 xs7 b5 xs8=>
 Δ ((ξ [iv n2,Φ xs6,bv b4,Φ xs7,bv b5,Φ xs8],[])))
 (Θ)):=by kernel_rfl
theorem V1(t1 r0:Int)(r1:Rw)(r2:Bool)(r3:Rw)(r4:Bool)(r5:Rw)(k0:Int)(k1:Rw)(k2:Bool)(k3:Rw)(k4:Bool)(k5:Rw)(t8:Int):C2 A D Aq I3 .n 46 0 (AN NX 0).fst (AN NX 0).snd [iv t1,ψ 0 0,ψ 1 0,iv t8] [bk [iv r0,Φ r1,bv r2,Φ r3,bv r4,Φ r5],bk [iv k0,Φ k1,bv k2,Φ k3,bv k4,Φ k5]] =
 br (A.lt t8 ↑(Bb k5))
 (unI t8 λi=>
 Bh k5 i λcs=>
 dk [.I,.L,.B,.L,.B,.L,.N] [.l cs] λn xs b xs1 b1 xs2=>
 Ag D (ω 46) [ξ [iv n,Φ xs,bv b,Φ xs1,bv b1,Φ xs2],iv t1] [] [.a,.I,.L,.B,.L,.B,.L,.N,.E] λ_ _ _ _ _ _=>
 unI t8 λi1=>
 Bh k5 i1 λcs2=>
 dk [.I,.L,.B,.L,.B,.L,.N] [.l cs2] λ_ _ _ _ _ _=>
 Θ)
 (Δ ((Ath [iv 0,ψ 0 0,ψ 1 0],[Atb (bk [iv r0,Φ r1,bv r2,Φ r3,bv r4,Φ r5]),Atb (bk [iv k0,Φ k1,bv k2,Φ k3,bv k4,Φ k5])]))):=by kernel_rfl
end
def JT:ABlk:=bk [iv 0,.ls [],bv Ξ,.ls [],bv Ξ,.ls []]
section
variable {D:Orc} (KL:KnowsL Aq Hz D)
include KL
theorem AmR{kd:Int}{t:Tm}{e:Bool}{ks:List Fm}(h:kd=3\/kd=4\/kd=5)(hk:D.ask (.fn 111) [.agg (eF (.mk kd t e ks))] []=Δ (.ls ((Bq (.mk kd t e ks)).map eF),[]))(hl:(Bq (.mk kd t e ks)).length<=1000000)
  (g:∀ x∈Bq (.mk kd t e ks),D.ask (.fn 42) [.agg (eF x)] []=Δ (.agg (eF (As x)),[])) :
  BZ Ah D Aq AaP .n 42 SV [.agg (eF (.mk kd t e ks))] []=Δ (.agg (NP kd ((Bq (.mk kd t e ks)).map As).length),[.set (Ψ (Aj eF ((Bq (.mk kd t e ks)).map As)) U U)]):=by
 have gl:=S9 KL (Bq (.mk kd t e ks)) hl g 0 [] Ξ [] Ξ [] kd Ξ Ξ _ 0 [] rfl (by omega) (by simp);rw[ι,Atw]at gl;generalize (Bq (.mk kd t e ks)).map As=L at *;generalize Bq (.mk kd t e ks)=js at *;rw[eF]at hk ⊢;refine(Aof ..).trans ?_;rcases h with rfl|rfl|rfl
 .refine(BA (by decide)).trans ((BA (by decide)).trans ((CO rfl).trans ?_))
  refine Ab hk ?_;simp only[Ai];refine Ab gl ?_;simp only[bk,DC,Ai];rfl
 .refine(BA (by decide)).trans ((BA (by decide)).trans ((BA (by decide)).trans ((CO rfl).trans ?_)))
  refine Ab hk ?_;simp only[Ai];refine Ab gl ?_;simp only[bk,DC,Ai];rfl
 .refine(BA (by decide)).trans ((BA (by decide)).trans ((BA (by decide)).trans ((BA (by decide)).trans ((CO rfl).trans ?_))))
  refine Ab hk ?_;simp only[Ai];refine Ab gl ?_;simp only[bk,DC,Ai];rfl
omit KL
theorem AmQ{kd:Int}{t:Tm}{e:Bool}{ks:List Fm}(h3:kd≠3)(h4:kd≠4)(h5:kd≠5)(gt:∀ b,D.ask (.fn 109) [bv b] []=Δ (.agg (eF (C9 b)),[]))
  (ga:kd=2->D.ask (.fn 110) [.agg (Hb (t,e))] []=Δ (.agg (eF (B8 t.lf.pln e)),[])) :
  BZ Ah D Aq AaP .n 42 SV [.agg (eF (.mk kd t e ks))] []=Δ (.agg (eF (As (.mk kd t e ks))),[]):=by
 rw[eF,As];refine(Aof ..).trans ?_
 by_cases h0:kd=0
 .rw[Ac h0]
  exact(CO h0).trans ((CN (gt U) _).trans rfl)
 rw[Ad h0];refine AO ?_ h0
 by_cases h2:kd=2
 .rw[Ac h2]
  exact(CO h2).trans ((CN (ga h2) _).trans rfl)
 rw[Ad h2,Ad h3,Ad (by omega)];exact(BA h2).trans ((BA h3).trans ((BA h4).trans ((BA h5).trans ((CN (gt Ξ) _).trans rfl))))
end
section
variable {D:Orc} (Kw:Knows Aq Oy D) (V W:Rw)
include Kw
theorem Ya(kd:Int)(F:Fm->Fm)(L:List Fm)(hl:L.length<=1000000)(g:∀ x∈L,D.ask (.fn 44) [.agg (eF x),.ls V,.ls W] []=Δ (.agg (eF (F x)),[])):∀(m i:Nat) (R:List Fm),L.length-i=m->i<=L.length->R.length=i->
  D.ask (.lp 44 0) [.ls V,.ls W,.ptr 0 0,.ptr 1 0,iv (i:Int)] [JT,bk [iv kd,.v (.slice Θ 0 0),bv Ξ,.v (.slice Θ 0 0),bv Ξ,.sl 2 0 L.length 6],Ψ (Aj eF (R++L.drop i)) U U]
   = Δ (.tup [iv 0,.ptr 0 0,.ptr 1 0],[.set JT,.set (bk [iv kd,.v (.slice Θ 0 0),bv Ξ,.v (.slice Θ 0 0),bv Ξ,.sl 3 0 L.length 6]),.del,.set (Ψ (Aj eF (R++(L.drop i).map F)) U U)]):=by
 intro m
 induction m with
 |zero=>
  intro i R hm hi hR;rw[Atc (by omega),AtO];refine Ax Kw NC (VY ..) ?_;exact At rfl
 |succ m ih=>
  intro i R hm hi hR;have h1:i<L.length:=by omega
  have gx:=g L[i] (Ats h1);have ed:L.drop i=L[i]::L.drop (i+1):=χ h1;have ih:=ih (i+1) (R++[F L[i]]) (by omega) (by omega) (by simp;omega);rw[Atp,AtU,Atp,AtU]at ih;have hlt:i<(R++L.drop i).length:=by rw[ed];simp;omega
  have hget:(R++L.drop i)[i]=L[i]:=by
   rw[AuV (by omega)];simp[hR]
  have hset:(R++L.drop i).set i (F L[i])=R++F L[i]::L.drop (i+1):=by
   rw[AvN _ _ (by omega),ed,hR,Awk];rfl
  have rd:=λk=>By BJ (R++L.drop i) i hlt k
  have sp:=BX BJ (R++L.drop i) i hlt (F L[i]);rw[hget]at rd;rw[hset]at sp;have hble:Atl (0+i*6+6) (Aj eF (R++L.drop i)).length=U:=by rw[AR BJ];simp;omega
  refine Ax Kw NC (VY ..) ?_;refine Au ?_;rw[AC,AJ h1];refine Af ?_;refine(rd _).trans ?_;have e2:(L.drop i).map F=F L[i]::(L.drop (i+1)).map F:=by rw[ed];rfl
  rw[e2];generalize F L[i]=y at *;generalize L[i]=x at *;obtain⟨xk,xt,xe,xs⟩:=x;obtain⟨yk,yt,ye,ys⟩:=y;simp only[eF,eN,Ai]at gx sp ⊢;refine Ab gx ?_;simp only[Ai];rw[AC,AJ h1];refine Af ?_;rw[hble];refine Af ?_;rw[sp,BE (by omega)];refine Ab ih ?_;rfl
theorem Td{kd:Int}{t:Tm}{e:Bool}{ks:List Fm}(h2:kd≠2)(F:Fm->Fm)(L:List Fm)(hl:L.length<=1000000)(hc:D.ask (.fn 42) [.agg (eF (.mk kd t e ks))] []=Δ (.agg (NP kd L.length),[.set (Ψ (Aj eF L) U U)]))
  (g:∀ x∈L,D.ask (.fn 44) [.agg (eF x),.ls V,.ls W] []=Δ (.agg (eF (F x)),[])) :
  D.ask (.fn 44) [.agg (eF (.mk kd t e ks)),.ls V,.ls W] []=Δ (.agg (eF (kF kd (L.map F))),[]):=by
 have gl:=Ya Kw V W kd F L hl g _ 0 [] rfl (by omega) rfl;rw[ι,Atw,Atw]at gl;have hbl:Atl (0+L.length*6) (Aj eF (L.map F)).length=U:=AQ BJ (L.map F) (by simp);have hch:Bk L.length 6 ((Aj eF (L.map F)).take (L.length*6))=(L.map F).map eF:=BF BJ (L.map F) (by simp);rw[eF]at hc ⊢;refine Az Kw NC (Aog ..) ?_;refine Ab hc ?_;simp only[Ai];refine AO ?_ h2;refine Ab gl ?_;simp only[JT,bk,DC,Ai];rw[hbl];refine Af ?_;rw[hch];unfold kF;rw[eF,BI];rfl
theorem Vc{x:Fm}{b:Bool}(hc:D.ask (.fn 42) [.agg (eF x)] []=Δ (.agg (eF (C9 b)),[])):D.ask (.fn 44) [.agg (eF x),.ls V,.ls W] []=Δ (.agg (eF (C9 b)),[]):=by
 have gl:∀(k0:Int) (k1:Rw) (k2:Bool) (k3:Rw) (k4:Bool),D.ask (.lp 44 0) [.ls V,.ls W,.ptr 0 0,.ptr 1 0,iv 0] [JT,bk [iv k0,.ls k1,bv k2,.ls k3,bv k4,.ls []]]=Δ (.tup [iv 0,.ptr 0 0,.ptr 1 0],[.set JT,.set (bk [iv k0,.ls k1,bv k2,.ls k3,bv k4,.ls []])]):=λk0 k1 k2 k3 k4=>
  Kw.lp' I2 _ rfl (by kernel_rfl) ((VZ ..).trans ((DO (by decide)).trans rfl))
 obtain⟨xk,xt,xe,xs⟩:=x
 cases b with
 |true=>
  unfold C9 kF Zd at hc ⊢;simp only[eF,TS,eN,AtO,if_true]at hc ⊢;refine Az Kw I2 (Aaj ..) ?_;refine Ab hc ?_;simp only[Ai];exact(BA (by decide)).trans ((CN (gl ..) _).trans rfl)
 |false=>
  unfold C9 kF Zd at hc ⊢;simp only[eF,TS,eN,AtO]at hc ⊢;refine Az Kw I2 (Aaj ..) ?_;refine Ab hc ?_;simp only[Ai];exact(BA (by decide)).trans ((CN (gl ..) _).trans rfl)
theorem Tb{x:Fm}{l m:Lf}{e:Bool}(hc:D.ask (.fn 42) [.agg (eF x)] []=Δ (.agg (eF (B8 l e)),[]))
  (g:D.ask (.fn 114) [.agg (eT l.tm),.ls V,.ls W] []=Δ (.agg (eT m.tm),[])):D.ask (.fn 44) [.agg (eF x),.ls V,.ls W] []=Δ (.agg (eF (B8 m e)),[]):=by
 have g1:=g;have gl:∀(k0:Int) (k1:Rw) (k2:Bool) (k3:Rw) (k4:Bool),D.ask (.lp 44 0) [.ls V,.ls W,.ptr 0 0,.ptr 1 0,iv 0] [JT,bk [iv k0,.ls k1,bv k2,.ls k3,bv k4,.ls []]]=Δ (.tup [iv 0,.ptr 0 0,.ptr 1 0],[.set JT,.set (bk [iv k0,.ls k1,bv k2,.ls k3,bv k4,.ls []])]):=λk0 k1 k2 k3 k4=>
  Kw.lp' I2 _ rfl (by kernel_rfl) ((VZ ..).trans ((DO (by decide)).trans rfl))
 obtain⟨xk,xt,xe,xs⟩:=x;unfold B8 at hc ⊢;simp only[eF,TS,eN]at hc ⊢;simp only[eT,eN]at g1;refine Az Kw I2 (Aaj ..) ?_;refine Ab hc ?_;simp only[Ai];refine Ba ?_ rfl;refine Ab g1 ?_;simp only[Ai];refine Ab (gl ..) ?_;rfl
end
structure RwF (D:Orc) (V W:Rw) (T:Lf->Lf):Prop where
 own:∀{kd:Int} {t:Tm} {e:Bool} {ks:List Fm},kd=3\/kd=4\/kd=5->FC 20 9 (.mk kd t e ks)->D.ask (.fn 42) [.agg (eF (.mk kd t e ks))] []=Δ (.agg (NP kd ((Bq (.mk kd t e ks)).map As).length),[.set (Ψ (Aj eF ((Bq (.mk kd t e ks)).map As)) U U)])
 oth:∀{kd:Int} {t:Tm} {e:Bool} {ks:List Fm},kd≠3->kd≠4->kd≠5->FC 20 9 (.mk kd t e ks)->D.ask (.fn 42) [.agg (eF (.mk kd t e ks))] []=Δ (.agg (eF (As (.mk kd t e ks))),[])
 put:∀{l:Lf},TmB 20 9 l.tm->D.ask (.fn 114) [.agg (eT l.tm),.ls V,.ls W] []=Δ (.agg (eT (T l).tm),[])
section
variable {D:Orc} (Kw:Knows Aq Oy D) (V W:Rw) (T:Lf->Lf) (E:RwF D V W T)
include Kw E
theorem L6{x:Fm}(h1:FC 20 9 x)(h2:FC 20 9 (As x))(g:∀ y∈(Bq x).map As,D.ask (.fn 44) [.agg (eF y),.ls V,.ls W] []=Δ (.agg (eF (CV T y)),[])) :
  D.ask (.fn 44) [.agg (eF x),.ls V,.ls W] []=Δ (.agg (eF (CV T (As x))),[]):=by
 have hn:=h1.num;obtain⟨k,t,e,ks⟩:=x
 by_cases h3:k=3\/k=4\/k=5
 .have k2:k≠2:=by omega
  have:=Td Kw V W k2 (CV T) _ (by rw[Atm];exact hn) (E.own h3 h1) g;have ec:As (.mk k t e ks)=kF k ((Bq (.mk k t e ks)).map As):=by
   rw[As,Ad (by omega),Ad k2,Cc]
   by_cases g3:k=3
   .rw[Ac g3,Ad (by omega),Ac g3,CL,g3]
   .rw[Ad g3,Ac (by omega),Ac (by omega),Cm]
  rw[ec,Rz T k2];exact this
 .have hc:=E.oth (by omega) (by omega) (by omega) h1
  by_cases k2:k=2
  .have ec:As (.mk k t e ks)=B8 t.lf.pln e:=by rw[As,Ad (by omega),Ac k2]
   rw[ec]at hc h2 ⊢;have b:TmB 20 9 t.lf.pln.tm:=by
    cases h2 with
    |mk ht hl h=>exact ht rfl
   have:=Tb Kw V W hc (E.put b);have ep:CV T (B8 t.lf.pln e)=B8 (T t.lf.pln) e:=by
    unfold B8;rw[CV,Ac rfl,Ey,Kr]
   rw[ep];exact this
  .obtain⟨b,ec⟩:∃ b,As (.mk k t e ks)=C9 b:=by
    rw[As]
    by_cases h0:k=0
    .exact⟨U,by rw[Ac h0]⟩
    .exact⟨Ξ,by rw[Ad h0,Ad k2,Ad (by omega),Ad (by omega)]⟩
   rw[ec]at hc ⊢;have ep:CV T (C9 b)=C9 b:=by cases b<;>rfl
   rw[ep];exact Vc Kw V W hc
theorem Va:∀(N:Nat) (c:Fm),SizeOf.sizeOf c<N->CanF c->FC 20 9 c->D.ask (.fn 44) [.agg (eF c),.ls V,.ls W] []=Δ (.agg (eF (CV T c)),[]):=by
 intro N
 induction N with
 |zero=>intro x h;omega
 |succ N ih=>
  intro c hN hc hf;have ec:=hc.clone;have:=L6 Kw V W T E hf (by rw[ec];exact hf) (λy hy=>by
   obtain⟨z,hz,rfl⟩:=AtH.1 hy;have cz:=hc.kid z hz;rw[cz.clone];refine ih z ?_ cz (hf.kid z hz);obtain⟨k,t,e,ks⟩:=c;have:=BW (k:=k) (t:=t) (e:=e) (CY hz);omega)
  rw[ec]at this;exact this
end
section
variable {D:Orc} (Kw:Knows Aq Oy D) (nn:Int)
include Kw
theorem X9(kd:Int)(F:Fm->Fm)(L:List Fm)(hl:L.length<=1000000)(g:∀ x∈L,D.ask (.fn 46) [.agg (eF x),iv nn] []=Δ (.agg (eF (F x)),[])):∀(m i:Nat) (R:List Fm),L.length-i=m->i<=L.length->R.length=i->
  D.ask (.lp 46 0) [iv nn,.ptr 0 0,.ptr 1 0,iv (i:Int)] [JT,bk [iv kd,.v (.slice Θ 0 0),bv Ξ,.v (.slice Θ 0 0),bv Ξ,.sl 2 0 L.length 6],Ψ (Aj eF (R++L.drop i)) U U]
   = Δ (.tup [iv 0,.ptr 0 0,.ptr 1 0],[.set JT,.set (bk [iv kd,.v (.slice Θ 0 0),bv Ξ,.v (.slice Θ 0 0),bv Ξ,.sl 3 0 L.length 6]),.del,.set (Ψ (Aj eF (R++(L.drop i).map F)) U U)]):=by
 intro m
 induction m with
 |zero=>
  intro i R hm hi hR;rw[Atc (by omega),AtO];refine Ax Kw NE (V0 ..) ?_;exact At rfl
 |succ m ih=>
  intro i R hm hi hR;have h1:i<L.length:=by omega
  have gx:=g L[i] (Ats h1);have ed:L.drop i=L[i]::L.drop (i+1):=χ h1;have ih:=ih (i+1) (R++[F L[i]]) (by omega) (by omega) (by simp;omega);rw[Atp,AtU,Atp,AtU]at ih;have hlt:i<(R++L.drop i).length:=by rw[ed];simp;omega
  have hget:(R++L.drop i)[i]=L[i]:=by
   rw[AuV (by omega)];simp[hR]
  have hset:(R++L.drop i).set i (F L[i])=R++F L[i]::L.drop (i+1):=by
   rw[AvN _ _ (by omega),ed,hR,Awk];rfl
  have rd:=λk=>By BJ (R++L.drop i) i hlt k
  have sp:=BX BJ (R++L.drop i) i hlt (F L[i]);rw[hget]at rd;rw[hset]at sp;have hble:Atl (0+i*6+6) (Aj eF (R++L.drop i)).length=U:=by rw[AR BJ];simp;omega
  refine Ax Kw NE (V0 ..) ?_;refine Au ?_;rw[AC,AJ h1];refine Af ?_;refine(rd _).trans ?_;have e2:(L.drop i).map F=F L[i]::(L.drop (i+1)).map F:=by rw[ed];rfl
  rw[e2];generalize F L[i]=y at *;generalize L[i]=x at *;obtain⟨xk,xt,xe,xs⟩:=x;obtain⟨yk,yt,ye,ys⟩:=y;simp only[eF,eN,Ai]at gx sp ⊢;refine Ab gx ?_;simp only[Ai];rw[AC,AJ h1];refine Af ?_;rw[hble];refine Af ?_;rw[sp,BE (by omega)];refine Ab ih ?_;rfl
theorem Tc{kd:Int}{t:Tm}{e:Bool}{ks:List Fm}(h2:kd≠2)(F:Fm->Fm)(L:List Fm)(hl:L.length<=1000000)(hc:D.ask (.fn 42) [.agg (eF (.mk kd t e ks))] []=Δ (.agg (NP kd L.length),[.set (Ψ (Aj eF L) U U)]))
  (g:∀ x∈L,D.ask (.fn 46) [.agg (eF x),iv nn] []=Δ (.agg (eF (F x)),[])) :
  D.ask (.fn 46) [.agg (eF (.mk kd t e ks)),iv nn] []=Δ (.agg (eF (kF kd (L.map F))),[]):=by
 have gl:=X9 Kw nn kd F L hl g _ 0 [] rfl (by omega) rfl;rw[ι,Atw,Atw]at gl;have hbl:Atl (0+L.length*6) (Aj eF (L.map F)).length=U:=AQ BJ (L.map F) (by simp);have hch:Bk L.length 6 ((Aj eF (L.map F)).take (L.length*6))=(L.map F).map eF:=BF BJ (L.map F) (by simp);rw[eF]at hc ⊢;refine Az Kw NE (Aoh ..) ?_;refine Ab hc ?_;simp only[Ai];refine AO ?_ h2;refine Ab gl ?_;simp only[JT,bk,DC,Ai];rw[hbl];refine Af ?_;rw[hch];unfold kF;rw[eF,BI];rfl
theorem Vb{x:Fm}{b:Bool}(hc:D.ask (.fn 42) [.agg (eF x)] []=Δ (.agg (eF (C9 b)),[])):D.ask (.fn 46) [.agg (eF x),iv nn] []=Δ (.agg (eF (C9 b)),[]):=by
 have gl:∀(k0:Int) (k1:Rw) (k2:Bool) (k3:Rw) (k4:Bool),D.ask (.lp 46 0) [iv nn,.ptr 0 0,.ptr 1 0,iv 0] [JT,bk [iv k0,.ls k1,bv k2,.ls k3,bv k4,.ls []]]=Δ (.tup [iv 0,.ptr 0 0,.ptr 1 0],[.set JT,.set (bk [iv k0,.ls k1,bv k2,.ls k3,bv k4,.ls []])]):=λk0 k1 k2 k3 k4=>
  Kw.lp' I3 _ rfl (by kernel_rfl) ((V1 ..).trans ((DO (by decide)).trans rfl))
 obtain⟨xk,xt,xe,xs⟩:=x
 cases b with
 |true=>
  unfold C9 kF Zd at hc ⊢;simp only[eF,TS,eN,AtO,if_true]at hc ⊢;refine Az Kw I3 (Aak ..) ?_;refine Ab hc ?_;simp only[Ai];exact(BA (by decide)).trans ((CN (gl ..) _).trans rfl)
 |false=>
  unfold C9 kF Zd at hc ⊢;simp only[eF,TS,eN,AtO]at hc ⊢;refine Az Kw I3 (Aak ..) ?_;refine Ab hc ?_;simp only[Ai];exact(BA (by decide)).trans ((CN (gl ..) _).trans rfl)
theorem Ta{x:Fm}{l m:Lf}{e:Bool}(hc:D.ask (.fn 42) [.agg (eF x)] []=Δ (.agg (eF (B8 l e)),[]))
  (g:D.ask (.fn 116) [.agg (eT l.tm),iv nn] []=Δ (.agg (eT m.tm),[])):D.ask (.fn 46) [.agg (eF x),iv nn] []=Δ (.agg (eF (B8 m e)),[]):=by
 have g1:=g;have gl:∀(k0:Int) (k1:Rw) (k2:Bool) (k3:Rw) (k4:Bool),D.ask (.lp 46 0) [iv nn,.ptr 0 0,.ptr 1 0,iv 0] [JT,bk [iv k0,.ls k1,bv k2,.ls k3,bv k4,.ls []]]=Δ (.tup [iv 0,.ptr 0 0,.ptr 1 0],[.set JT,.set (bk [iv k0,.ls k1,bv k2,.ls k3,bv k4,.ls []])]):=λk0 k1 k2 k3 k4=>
  Kw.lp' I3 _ rfl (by kernel_rfl) ((V1 ..).trans ((DO (by decide)).trans rfl))
 obtain⟨xk,xt,xe,xs⟩:=x;unfold B8 at hc ⊢;simp only[eF,TS,eN]at hc ⊢;simp only[eT,eN]at g1;refine Az Kw I3 (Aak ..) ?_;refine Ab hc ?_;simp only[Ai];refine Ba ?_ rfl;refine Ab g1 ?_;simp only[Ai];refine Ab (gl ..) ?_;rfl
end
structure RmF (D:Orc) (nn:Int) (T:Lf->Lf):Prop where
 own:∀{kd:Int} {t:Tm} {e:Bool} {ks:List Fm},kd=3\/kd=4\/kd=5->FC 20 9 (.mk kd t e ks)->D.ask (.fn 42) [.agg (eF (.mk kd t e ks))] []=Δ (.agg (NP kd ((Bq (.mk kd t e ks)).map As).length),[.set (Ψ (Aj eF ((Bq (.mk kd t e ks)).map As)) U U)])
 oth:∀{kd:Int} {t:Tm} {e:Bool} {ks:List Fm},kd≠3->kd≠4->kd≠5->FC 20 9 (.mk kd t e ks)->D.ask (.fn 42) [.agg (eF (.mk kd t e ks))] []=Δ (.agg (eF (As (.mk kd t e ks))),[])
 put:∀{l:Lf},TmB 20 9 l.tm->D.ask (.fn 116) [.agg (eT l.tm),iv nn] []=Δ (.agg (eT (T l).tm),[])
section
variable {D:Orc} (Kw:Knows Aq Oy D) (nn:Int) (T:Lf->Lf) (E:RmF D nn T)
include Kw E
theorem LZ{x:Fm}(h1:FC 20 9 x)(h2:FC 20 9 (As x))(g:∀ y∈(Bq x).map As,D.ask (.fn 46) [.agg (eF y),iv nn] []=Δ (.agg (eF (CV T y)),[])) :
  D.ask (.fn 46) [.agg (eF x),iv nn] []=Δ (.agg (eF (CV T (As x))),[]):=by
 have hn:=h1.num;obtain⟨k,t,e,ks⟩:=x
 by_cases h3:k=3\/k=4\/k=5
 .have k2:k≠2:=by omega
  have:=Tc Kw nn k2 (CV T) _ (by rw[Atm];exact hn) (E.own h3 h1) g;have ec:As (.mk k t e ks)=kF k ((Bq (.mk k t e ks)).map As):=by
   rw[As,Ad (by omega),Ad k2,Cc]
   by_cases g3:k=3
   .rw[Ac g3,Ad (by omega),Ac g3,CL,g3]
   .rw[Ad g3,Ac (by omega),Ac (by omega),Cm]
  rw[ec,Rz T k2];exact this
 .have hc:=E.oth (by omega) (by omega) (by omega) h1
  by_cases k2:k=2
  .have ec:As (.mk k t e ks)=B8 t.lf.pln e:=by rw[As,Ad (by omega),Ac k2]
   rw[ec]at hc h2 ⊢;have b:TmB 20 9 t.lf.pln.tm:=by
    cases h2 with
    |mk ht hl h=>exact ht rfl
   have:=Ta Kw nn hc (E.put b);have ep:CV T (B8 t.lf.pln e)=B8 (T t.lf.pln) e:=by
    unfold B8;rw[CV,Ac rfl,Ey,Kr]
   rw[ep];exact this
  .obtain⟨b,ec⟩:∃ b,As (.mk k t e ks)=C9 b:=by
    rw[As]
    by_cases h0:k=0
    .exact⟨U,by rw[Ac h0]⟩
    .exact⟨Ξ,by rw[Ad h0,Ad k2,Ad (by omega),Ad (by omega)]⟩
   rw[ec]at hc ⊢;have ep:CV T (C9 b)=C9 b:=by cases b<;>rfl
   rw[ep];exact Vb Kw nn hc
theorem U9:∀(N:Nat) (c:Fm),SizeOf.sizeOf c<N->CanF c->FC 20 9 c->D.ask (.fn 46) [.agg (eF c),iv nn] []=Δ (.agg (eF (CV T c)),[]):=by
 intro N
 induction N with
 |zero=>intro x h;omega
 |succ N ih=>
  intro c hN hc hf;have ec:=hc.clone;have:=LZ Kw nn T E hf (by rw[ec];exact hf) (λy hy=>by
   obtain⟨z,hz,rfl⟩:=AtH.1 hy;have cz:=hc.kid z hz;rw[cz.clone];refine ih z ?_ cz (hf.kid z hz);obtain⟨k,t,e,ks⟩:=c;have:=BW (k:=k) (t:=t) (e:=e) (CY hz);omega)
  rw[ec]at this;exact this
end
def VQ(bys:List Tm)(v:Int)(i:Nat):Tm:=match bys[i]? with
 |some t=>t
 |none=>(G0 v).tm
theorem Ak0{bys:List Tm}(h:∀ t∈bys,TmB 20 8 t)(v:Int)(i:Nat):TmB 20 8 (VQ bys v i):=by
 unfold VQ;split
 .rename_i t ht
  exact h t (List.mem_of_getElem? ht)
 .exact(KA v).tb
theorem Am1(vs:List Int)(bys:List Tm)(v:Int):(if Dd v vs<vs.length then VQ bys v (Dd v vs) else(G0 v).tm).lf=GR vs bys v:=by
 unfold GR VQ;split
 .cases bys[Dd v vs]? with
  |none=>exact Ey _
  |some t=>rfl
 .exact Ey _
theorem AdY{vs:List Int}{v:Int}{j:Nat}(h:j<vs.length)(e:vs[j]=v):Dd v vs<=j:=by
 rcases Nat.lt_or_ge j (Dd v vs) with h1|h1
 .have:=List.not_of_lt_findIdx h1
  simp[e]at this
 .exact h1
theorem AaW{vs:List Int}{v:Int}{j:Nat}(h:j<vs.length)(e:vs[j]≠v):Dd v vs≠j:=λh1=>by
 subst h1;have:=List.findIdx_getElem (w:=h);simp at this;exact e this.symm
section
variable {D:Orc} (Kt:Knows Aq Mb D) (Kh:Knows Aq Ox D) (F:RF D) (Kx:Knows Aq AcM D)
include Kt Kh F Kx
theorem WO(v:Int):D.ask (.fn 175) [iv v] []=Δ (.agg (eT (G0 v).tm),[]):=by
 have g1:=F.of_ 1 (by omega) (by omega);have hb:TmB 1 1 ⟨[⟨v,AY 1⟩],⟨Ξ,[]⟩⟩:=⟨η _,λp hp=>by rw[List.mem_singleton]at hp;rw[hp];exact(InB.one (η 1)).lz,⟨CH,AtI _⟩⟩;have g2:=FW Kt Kh F hb (by omega) (by omega);have e:(Tm.lf ⟨[⟨v,AY 1⟩],⟨Ξ,[]⟩⟩).pln=G0 v:=by
  unfold Tm.lf G0;rw[Atu,AtO]
  show Lf.pln ⟨[(v,zv (AY 1))],_⟩=_
  rw[BY];rfl
 rw[e]at g2;refine Az Kx AaL (Aob ..) ?_;refine Ab g1 ?_;simp only[eZ,eN,Ai];refine Ab g2 ?_;rfl
theorem Aig(vs:List Int)(bys:List Tm)(hvs:vs.length<=1000)(ms:List Int)(v:Int)(i:Nat)(hi:ms[i]? = Δ v)(t o:Tm)(x0:Rw)(x1:Bool)(x2:Rw):∀(j:Nat) (P:Tm),j<=vs.length->
  D.ask (.lp 114 1) [.ls (vs.map eI),.ls (bys.map eT),.ptr 0 0,.ptr 1 0,.ptr 2 0,.ls (ms.map eI),iv (i:Int),.ptr 3 0,iv ((j:Int)-1)] [bk (eT t),bk [.ls x0,bv x1,.ls x2],bk (eT o),bk (eT P)]
   = Δ (.tup [iv 2,.ls (vs.map eI),.ls (bys.map eT),.ptr 0 0,.ptr 1 0,.ptr 2 0,.ls (ms.map eI),iv (i:Int),.ptr 3 0],[.set (bk (eT t)),.set (bk [.ls x0,bv x1,.ls x2]),.set (bk (eT o)),.set (bk (eT (if Dd v vs<j then VQ bys v (Dd v vs) else P)))]):=by
 intro j
 induction j with
 |zero=>
  intro P hj;rw[Ad (by omega)];refine Ax Kx Hc (VU ..) ?_;exact CQ rfl
 |succ j ih=>
  intro P hj;have h1:j<vs.length:=by omega
  have hn1:∀ kk,Bh (vs.map eI) j kk=kk (eI vs[j]):=λkk=>AD (δ h1) kk
  have hn2:∀ kk,Bh (ms.map eI) i kk=kk (eI v):=λkk=>AD hi kk
  have gv:=WO Kt Kh F Kx v;have ej:((j+1:Nat):Int)-1=(j:Int):=by omega
  rw[ej];refine Ax Kx Hc (VU ..) ?_;refine Cz ?_;simp only[AC,hn1,hn2,eI,Ao,Ai]
  by_cases h:vs[j]=v
  .have hx:=AdY h1 h
   have eR:(if Dd v vs<j+1 then VQ bys v (Dd v vs) else P)=if Dd v vs<j then VQ bys v (Dd v vs) else VQ bys v j:=by
    rw[Ac (by omega)];split
    .rfl
    .rw[show Dd v vs=j by omega]
   rw[eR];have ih:=ih (VQ bys v j) (by omega);unfold VQ at ih ⊢;refine Ba ?_ h
   cases hg:bys[j]? with
   |some u=>
    rw[hg]at ih;obtain⟨hlt,_⟩:=List.getElem?_eq_some_iff.1 hg;refine Au ?_;rw[AD hg];simp only[eT,eN,Ai]at ih ⊢;refine Ba ?_ h;refine CQ ?_;rw[DL (by omega) (by omega)];refine Ab ih ?_;rfl
   |none=>
    rw[hg]at ih;have:=List.getElem?_eq_none_iff.1 hg;refine At ?_;refine Ba ?_ h;refine Cz ?_;simp only[eT,eN]at gv ih ⊢;refine Ab gv ?_;simp only[Ai];rw[DL (by omega) (by omega)];refine Ab ih ?_;rfl
  .have hx:=AaW h1 h
   have eR:(if Dd v vs<j+1 then VQ bys v (Dd v vs) else P)=if Dd v vs<j then VQ bys v (Dd v vs) else P:=by
    by_cases h2:Dd v vs<j
    .rw[Ac h2,Ac (by omega)]
    .rw[Ad h2,Ad (by omega)]
   rw[eR];have ih:=ih P (by omega);simp only[eT,eN]at ih ⊢;refine AO ?_ h;refine AO ?_ h;rw[DL (by omega) (by omega)];refine Ab ih ?_;rfl
theorem Vj(vs:List Int)(bys:List Tm)(hvs:vs.length<=1000)(hb:∀ t∈bys,TmB 20 8 t){t:Tm}(ht:TmB 20 9 t)(ms:List Int)(hml:ms.length<=20)(hm:∀ v∈ms,InB 10 (BS t.lf.ps v))(x0:Rw)(x1:Bool)(x2:Rw) :
  ∀(m i:Nat) (acc:Lf),ms.length-i=m->i<=ms.length->LB (20*i) (100+1000*i) acc->
  D.ask (.lp 114 0) [.ls (vs.map eI),.ls (bys.map eT),.ptr 0 0,.ptr 1 0,.ptr 2 0,.ls (ms.map eI),iv (i:Int)] [bk (eT t),bk [.ls x0,bv x1,.ls x2],bk (eT acc.tm)]
   = Δ (.tup [iv 0,.ptr 1 0,.ptr 2 0],[.del,.set (bk [.ls x0,bv x1,.ls x2]),.set (bk (eT (Mq (GR vs bys) acc ((ms.drop i).map λv=>(v,BS t.lf.ps v))).tm))]):=by
 intro m
 induction m with
 |zero=>
  intro i acc hmm hi ha;rw[Atc (by omega)];refine Ax Kx Hc (VT ..) ?_;rw[Ao];exact At rfl
 |succ m ih=>
  intro i acc hmm hi ha;have h1:i<ms.length:=by omega
  have hn1:∀ kk,Bh (ms.map eI) i kk=kk (eI ms[i]):=λkk=>AD (δ h1) kk
  have hq:=hm ms[i] (Ats h1);have gl:=Aig Kt Kh F Kx vs bys hvs ms ms[i] i (δ h1) t acc.tm x0 x1 x2 vs.length (G0 ms[i]).tm (η _);rw[χ h1,Atu];generalize ms[i]=v at *;have eG:Mq (GR vs bys) acc ((v,BS t.lf.ps v)::(ms.drop (i+1)).map λv=>(v,BS t.lf.ps v))=Mq (GR vs bys) (acc.add ((GR vs bys v).scale (BS t.lf.ps v))) ((ms.drop (i+1)).map λv=>(v,BS t.lf.ps v)):=rfl;rw[eG];have hs:=Vl (vs:=vs) hb v;have hsc:LB 20 38 ((GR vs bys v).scale (BS t.lf.ps v)):=hs.scale hq;have had:=ha.add hsc;have ih:=ih (i+1) (acc.add ((GR vs bys v).scale (BS t.lf.ps v))) (by omega) (by omega) (had.mono (by omega) (by omega));have gv:=WO Kt Kh F Kx v;have gc:=My Kh F ht (by omega) (by omega) v;have ec:(if 0<=v then Bj v t.lf.ps else 0)=BS t.lf.ps v:=rfl;rw[ec]at gc;have gad:=Ah4 Kt Kh F (ha.tb.mono (η _) (show 100+1000*i<=100+1000*i+100 by omega)) (hsc.tb.mono (η _) (show 38<=100+1000*i+100 by omega)) (by omega) (by omega);rw[Ey,Ey]at gad;have hP:TmB 20 8 (if Dd v vs<vs.length then VQ bys v (Dd v vs) else(G0 v).tm):=by
   split
   .exact Ak0 hb v _
   .exact(KA v).tb
  have eP':=Am1 vs bys v;have gsc:=Yj Kt Kh F hP (x:=AY (BS t.lf.ps v)) (hq.lz) (by omega) (by omega) (by omega);rw[BY,eP']at gsc;generalize (if Dd v vs<vs.length then VQ bys v (Dd v vs) else(G0 v).tm)=P at *;generalize (G0 v).tm=V at *;generalize ((GR vs bys v).scale (BS t.lf.ps v)).tm=S at *;generalize (Mq (GR vs bys) (acc.add ((GR vs bys v).scale (BS t.lf.ps v))) ((ms.drop (i+1)).map λv=>(v,BS t.lf.ps v))).tm=E at *;generalize (acc.add ((GR vs bys v).scale (BS t.lf.ps v))).tm=A2 at *;generalize AY (BS t.lf.ps v)=c at *;refine Ax Kx Hc (VT ..) ?_;rw[Ao];refine Au ?_;rw[AC,hn1];simp only[eI,eT,eN,eZ,Ao,Ai]at gl gv gc gad gsc ih ⊢;refine Ab gv ?_;simp only[Ai];rw[DL (by omega) (by omega)];refine Ab gl ?_;simp only[bk,AC,hn1,eI,Ai];refine Af ?_;refine Ab gc ?_;simp only[Ai];refine Ab gsc ?_;simp only[Ai];refine Ab gad ?_;simp only[Ai];rw[BE (by omega)];refine Ab ih ?_;rfl
theorem Vk(vs:List Int)(bys:List Tm)(hvs:vs.length<=1000)(hb:∀ t∈bys,TmB 20 8 t){t:Tm}(ht:TmB 20 9 t):D.ask (.fn 114) [.agg (eT t),.ls (vs.map eI),.ls (bys.map eT)] []=Δ (.agg (eT (K9 (GR vs bys) t.lf).tm),[]):=by
 have g1:=Vf Kt F (z:=t.k) (ht.k.mono (by omega));have g2:=Oh Kt Kh F ht (by omega) (by omega);have hl:(CM t.lf.ps).length<=20:=AtA (LA _) ht.lb.len;have hm:∀ v∈CM t.lf.ps,InB 10 (BS t.lf.ps v):=λv hv=>Gx ht.lb (by omega) (v,BS t.lf.ps v) (by rw[←Ec];exact AtH.2 ⟨v,hv,rfl⟩)
 have g3:=Vj Kt Kh F Kx vs bys hvs hb ht (CM t.lf.ps) hl hm [] Ξ [] _ 0 (Lf.num (zv t.k)) rfl (by omega) ⟨AtI _,(λp hp=>nomatch hp),ht.k.inb.mono (by omega)⟩;rw[ι,Ec]at g3;have e2:K9 (GR vs bys) t.lf=Mq (GR vs bys) (Lf.num (zv t.k)) (Bu t.lf.ps):=rfl;rw[e2];generalize (Mq (GR vs bys) (Lf.num (zv t.k)) (Bu t.lf.ps)).tm=E at *;generalize (Lf.num (zv t.k)).tm=A at *;generalize CM t.lf.ps=ms at *;obtain⟨ps,kz⟩:=t;refine Az Kx Hc (An4 ..) ?_;simp only[eT,eN,eZ]at g1 g2 g3 ⊢;refine Ab g1 ?_;simp only[Ai];refine Ab g2 ?_;simp only[Ai];refine Ab g3 ?_;rfl
def mvV(l:List (Int × Int))(n v:Int):Pt:=⟨v+n,AY (BS l v)⟩
omit Kt in
theorem Ab0(n:Int)(hc1:-2147483648<=n)(hc2:n<=2147483647){m k:Nat}{ps:List Pt}{kz:Zi}(ht:TmB m k ⟨ps,kz⟩)(hn:m<=1000000)(hk:k+m<=400000000)(ms:List Int)(hml:ms.length<=m)(hm:∀ v∈ms,0<=v)(r0:Rw)(r1:Bool)(r2:Rw)(k1:Bool)(k2:Rw):∀(q i:Nat) (out:List Pt),ms.length-i=q->i<=ms.length->out.length<=i->
  D.ask (.lp 116 0) [iv n,.ptr 0 0,.ptr 1 0,.ptr 2 0,.ls (ms.map eI),iv (i:Int)] [⟨[.ls (ps.map eP),bv kz.neg,eN kz.abs],U,Ξ⟩,⟨[.ls r0,bv r1,.ls r2],U,Ξ⟩,⟨[.sl 3 0 out.length 3,bv k1,.ls k2],U,Ξ⟩,Eh out]
   = Δ (.tup [iv 0,.ptr 1 0,.ptr 2 0],[.del,.set ⟨[.ls r0,bv r1,.ls r2],U,Ξ⟩,.set ⟨[.sl 4 0 (out++(JQ n (ms.drop i)).map (mvV (ps.map pv) n)).length 3,bv k1,.ls k2],U,Ξ⟩,.del,.set (Eh (out++(JQ n (ms.drop i)).map (mvV (ps.map pv) n)))]):=by
 intro q
 induction q with
 |zero=>
  intro i out hq hi ho;rw[Atc (by omega),show JQ n []=[] from rfl,AtO,AtY];refine Ax Kx Nw (VV ..) ?_;rw[Ao];exact At rfl
 |succ q ih=>
  intro i out hq hi ho;have h1:i<ms.length:=by omega
  have hn1:∀ kk,Bh (ms.map eI) i kk=kk (eI ms[i]):=λkk=>AD (δ h1) kk
  have h0:=hm ms[i] (Ats h1);rw[χ h1];have eM:∀ v,JQ n (v::ms.drop (i+1))=if v<=2147483647-n/\0-n<=v then v::JQ n (ms.drop (i+1)) else JQ n (ms.drop (i+1)):=λv=>by
   unfold JQ;rw[AuN]
   by_cases ha:v<=2147483647-n/\0-n<=v
   .rw[Ac ha,B3 ha.1,B3 ha.2]
    rfl
   .rw[Ad ha]
    by_cases hb:v<=2147483647-n
    .rw[B3 hb,Cn (λh=>ha ⟨hb,h⟩)]
     rfl
    .rw[Cn hb]
     rfl
  rw[eM];revert hn1 h0;generalize ms[i]=v;intro hn1 h0;refine Ax Kx Nw (VV ..) ?_;rw[Ao];refine Au ?_;simp only[AC,hn1,eI,Ai];rw[DL (by omega) (by omega)]
  by_cases ha:v<=2147483647-n
  .refine Cz ?_ ha
   rw[DL (by omega) (by omega)]
   by_cases hb:0-n<=v
   .rw[Ac ⟨ha,hb⟩,Atu]
    have gc:=My Kh F ht hn hk v;have e1:(if 0<=v then Bj v (Tm.mk ps kz).lf.ps else 0)=BS (ps.map pv) v:=rfl;rw[e1]at gc;have ih:=ih (i+1) (out++[mvV (ps.map pv) n v]) (by omega) (by omega) (by simp;omega);rw[Atp,AtU,show (out++[mvV (ps.map pv) n v]).length=out.length+1 by simp]at ih;have hf:Bo (out.length+1) 40=U:=AZ (by omega) (by omega);have hb1:Atl (0+out.length*3) (Aj eP out).length=U:=AQ Av out (by omega);have e3:Atg 0 (ε (0+out.length*3) (Aj eP out))++[iv (v+n),bv (AY (BS (ps.map pv) v)).neg,eN (AY (BS (ps.map pv) v)).abs]=Aj eP (out++[mvV (ps.map pv) n v]):=by
     rw[ι,Br Av out (by omega)];exact Bl eP out (mvV (ps.map pv) n v)
    refine Cz ?_ hb;refine Ab gc ?_;simp only[eZ,eN,Ai]at e3 ⊢;rw[hf];refine Af ?_;rw[hb1];refine Af ?_;rw[BE (by omega),Fo (a:=v) (b:=n) (by omega) (by omega),e3];refine Ab ih ?_;rfl
   .rw[Ad (λh=>hb h.2)]
    have ih:=ih (i+1) out (by omega) (by omega) (by omega);refine CQ ?_ hb;rw[BE (by omega)];refine Ab ih ?_;rfl
  .rw[Ad (λh=>ha h.1)]
   have ih:=ih (i+1) out (by omega) (by omega) (by omega);refine CQ ?_ ha;rw[BE (by omega)];refine Ab ih ?_;rfl
theorem Ab1{n k:Nat}{t:Tm}(ht:TmB n k t)(hn:n<=100000)(hk:k+n<=100000000)(m:Int):D.ask (.fn 116) [.agg (eT t),iv m] []=Δ (.agg (eT (EU m t.lf).tm),[]):=by
 have gv:=Oh Kt Kh F ht (by omega) (by omega);have hl:(CM t.lf.ps).length<=n:=AtA (LA _) ht.lb.len;have h0:∀ v∈CM t.lf.ps,0<=v:=λv hv=>by
  rw[Y3]at hv;obtain⟨q,hq,rfl⟩:=AtH.1 hv;exact(Dj t.lf.ps).pos q hq
 have hc:∀ v∈CM t.lf.ps,InB (k+1) (BS t.lf.ps v):=λv hv=>Gx ht.lb (by omega) (v,BS t.lf.ps v) (by rw[←Ec];exact AtH.2 ⟨v,hv,rfl⟩)
 have hc1:-2147483648<=Bt m:=by unfold Bt;omega
 have hc2:Bt m<=2147483647:=by unfold Bt;omega
 have eMv:=Abu m t.lf;have hsub:∀ v∈JQ (Bt m) (CM t.lf.ps),v∈CM t.lf.ps:=λv hv=>(Auk.1 hv).1
 have hT:TmB n (k+1) ⟨(JQ (Bt m) (CM t.lf.ps)).map (mvV t.lf.ps (Bt m)),t.k⟩:=by
  refine⟨?_,λp hp=>?_,ht.k.mono (by omega)⟩
  .show (List.map _ _).length<=n
   rw[Atm];exact AtA (AvL _ _) hl
  .obtain⟨v,hv,rfl⟩:=AtH.1 hp
   exact(hc v (hsub v hv)).lz
 have gp:=FW Kt Kh F hT (by omega) (by omega);have eT':(Tm.lf ⟨(JQ (Bt m) (CM t.lf.ps)).map (mvV t.lf.ps (Bt m)),t.k⟩).pln=EU m t.lf:=by
  rw[eMv];unfold Tm.lf;simp only[List.map_map]
  congr 2
  refine List.map_congr_left λv _=>?_
  show (v+Bt m,zv (AY (BS _ v)))=_
  rw[BY]
 rw[eT']at gp;obtain⟨ps,kz⟩:=t;have gl:=Ab0 Kh F Kx (Bt m) hc1 hc2 ht (by omega) (by omega) (CM (Tm.lf ⟨ps,kz⟩).ps) hl h0 [] Ξ [] kz.neg (kz.abs.map eL) _ 0 [] rfl (by omega) (by simp);rw[ι,Atw,show ps.map pv=(Tm.lf ⟨ps,kz⟩).ps from rfl]at gl;generalize (JQ (Bt m) (CM (Tm.lf ⟨ps,kz⟩).ps)).map (mvV (Tm.lf ⟨ps,kz⟩).ps (Bt m))=L at *;generalize (EU m (Tm.lf ⟨ps,kz⟩)).tm=E at *;generalize CM (Tm.lf ⟨ps,kz⟩).ps=ms at *;refine Az Kx Nw (An6 ..) ?_;simp only[eT,eN]at gv gp gl ⊢
 by_cases h1:m < -2147483648
 .have ec:Bt m=-2147483648:=by unfold Bt;omega
  rw[ec]at gl;refine Au ?_ h1;refine At ?_ (by decide);refine Ab gv ?_;simp only[Ai];refine Ab gl ?_;simp only[Ai];rw[show Atl (0+L.length*3) (Aj eP L).length=U from AQ Av L (by omega)];refine Af ?_;rw[BF Av _ rfl];refine Ab gp ?_;rfl
 .refine At ?_ h1
  by_cases h2:2147483647<m
  .have ec:Bt m=2147483647:=by unfold Bt;omega
   rw[ec]at gl;refine Au ?_ h2;refine Ab gv ?_;simp only[Ai];refine Ab gl ?_;simp only[Ai];rw[show Atl (0+L.length*3) (Aj eP L).length=U from AQ Av L (by omega)];refine Af ?_;rw[BF Av _ rfl];refine Ab gp ?_;rfl
  .have ec:Bt m=m:=by unfold Bt;omega
   rw[ec]at gl;refine At ?_ h2;refine Ab gv ?_;simp only[Ai];refine Ab gl ?_;simp only[Ai];rw[show Atl (0+L.length*3) (Aj eP L).length=U from AQ Av L (by omega)];refine Af ?_;rw[BF Av _ rfl];refine Ab gp ?_;rfl
end
theorem gR1(f:Nat):A1 (Bi ζ f) ((AB Ah CE).ask (.fn f)):=Cq (YB trivial) f
theorem AbY:RF DR1:=ApB AoQ AoR
def Rl:List (List (Nat × MFn)):=[Hz]
def Ale:List (Nat × DF):=[(42,(AB Ah CE).ask (.fn 42)),(109,(AB Ah CE).ask (.fn 109)),(110,(AB Ah CE).ask (.fn 110)),(111,(AB Ah CE).ask (.fn 111))]
def Vq:Seat:=CU Aq Rl.flatten Ale
def DR2:Orc:=AB Ah Vq
set_option maxRecDepth 100000 in
theorem AnH:Dp ζ Bn Rl:=by
 repeat' first|exact trivial|refine⟨⟨_,_,_,rfl⟩,by kernel_rfl,?_⟩|refine⟨?_,?_⟩
set_option maxRecDepth 100000 in
theorem AnJ:Dp ζ Bn [ApQ]:=by
 repeat' first|exact trivial|refine⟨⟨_,_,_,rfl⟩,by kernel_rfl,?_⟩|refine⟨?_,?_⟩
theorem Tr:SeatOk ζ Bn Vq:=Cx GW Cv AnH ⟨gR1 _,gR1 _,gR1 _,gR1 _,trivial⟩
theorem Arl:KnowsL Aq Hz DR2:=XK (L:=Rl) (by kernel_rfl) (i:=0) rfl
section
variable {args:Aa} {bs:List ABlk} {r:AV × List BO}
theorem AiF(h:(AB Ah CE).ask (.fn 42) args bs=Δ r):DR2.ask (.fn 42) args bs=Δ r:=AF rfl h
theorem Adi(h:(AB Ah CE).ask (.fn 109) args bs=Δ r):DR2.ask (.fn 109) args bs=Δ r:=AF rfl h
theorem AiE(h:(AB Ah CE).ask (.fn 110) args bs=Δ r):DR2.ask (.fn 110) args bs=Δ r:=AF rfl h
theorem AiJ(h:(AB Ah CE).ask (.fn 111) args bs=Δ r):DR2.ask (.fn 111) args bs=Δ r:=AF rfl h
end
def RW:DF:=Acu Vq 42 SV
theorem Aoq:A1 (Bi ζ 42) RW:=YM Tr (mf0:=XU) (by show BG 42 Rl.flatten=Δ XU;kernel_rfl) (KD (MU AnJ) _ _ (List.mem_cons_self ..)) (by kernel_rfl)
theorem Ak5{x:Fm}(h:FC 20 9 x):DR1.ask (.fn 42) [.agg (eF x)] []=Δ (.agg (eF (As x)),[]):=X8 SH Wa Pw AbY (by omega) (by omega) _ x (AtT _) h
theorem ZM{kd:Int}{t:Tm}{e:Bool}{ks:List Fm}(h:kd=3\/kd=4\/kd=5)(hx:FC 20 9 (.mk kd t e ks)):RW [.agg (eF (.mk kd t e ks))] []=Δ (.agg (NP kd ((Bq (.mk kd t e ks)).map As).length),[.set (Ψ (Aj eF ((Bq (.mk kd t e ks)).map As)) U U)]):=
 Tx _ _ (AmR (D:=DR2) Arl h (AiJ (Tf Pw _)) hx.num λy hy=>AiF (Ak5 (hx.kid y hy)))
theorem ZL{kd:Int}{t:Tm}{e:Bool}{ks:List Fm}(h3:kd≠3)(h4:kd≠4)(h5:kd≠5)(hx:FC 20 9 (.mk kd t e ks)):RW [.agg (eF (.mk kd t e ks))] []=Δ (.agg (eF (As (.mk kd t e ks))),[]):=
 Tx _ _ (AmQ (D:=DR2) h3 h4 h5 (λb=>Adi (Lg Pw b)) (λh2=>AiE (S8 SH Wa Pw AbY (by
  cases hx with
  |mk ht hl h=>exact ht h2) (by omega) (by omega) _)))
