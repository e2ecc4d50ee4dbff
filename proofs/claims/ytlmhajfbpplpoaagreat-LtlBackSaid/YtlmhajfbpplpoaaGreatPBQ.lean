/- What logic's functions c -/
import Derived.Test.YtlmhajfbpplpoaaGreatPBP
import Derived.Test.YtlmhajfbpplpoaaGreatPBD
set_option linter.all false
open Bool renaming false_ne_true->As9,false_or->As1,true_and->Arq,true_or->AuG
open List renaming append_assoc->Ari,append_nil->Asa,cons_append->ArR,drop->ο,drop_eq_getElem_cons->Arf,drop_eq_nil_of_le->Ark,drop_zero->υ,findIdx?_eq_some_iff_getElem->ArT,getElem?_eq_getElem->Ψ,getElem_mem->Ars,length_cons->ν,length_map->ArA,length_nil->ArI,map_append->Atr,map_cons->Arz,mem_append->ArN,mem_cons->Arl,mem_cons_of_mem->Arw,mem_singleton->ArL,nil_append->Arx,singleton_append->Asq,sizeOf_lt_of_mem->At7,take->ι
open Nat renaming ble->Arm,ble_eq_true_of_le->Asr,le_refl->ω,le_trans->Ar9,lt_succ_self->ArB,zero_le->ArX
open Option renaming getD_some->Atm,isSome->Auf,map_some->Arp
namespace Go.Proofs.YtlmhajfbpplpoaaGreat
open ABlk renaming mk->U
open Go.RowKit
theorem G5(k:Int)(t:Tm)(e:Bool)(ks:List Fm):JX (.mk k t e ks)=if k=4\/k=5 then ks else if k=3 then ks.take 1 else []:=rfl
theorem MS{k:Int}{t:Tm}{e:Bool}{ks:List Fm}{x:Fm}(hx:x∈JX (.mk k t e ks)):x∈ks:=by
 rw[G5]at hx;split at hx
 .exact hx
 .split at hx
  .exact List.mem_of_mem_take hx
  .cases hx
theorem MR(k:Int)(t:Tm)(e:Bool)(ks:List Fm):(JX (.mk k t e ks)).length<=ks.length:=by
 rw[G5];split
 .exact ω _
 .split
  .simp;omega
  .simp
theorem FQ(x:Fm):(eF x).length=6:=by
 obtain⟨k,t,e,ks⟩:=x;rw[eF];rfl
inductive FB (n k:Nat):Fm->Prop
 |mk {kind:Int} {t:Tm} {e:Bool} {ks:List Fm} (ht:TmB n k t) (hl:ks.length<=1000000) (h:∀ x∈ks,FB n k x):FB n k (.mk kind t e ks)
theorem LB.sub{n m k:Nat}{a b:Lf}(ha:LB n k a)(hb:LB m k b):LB (n+m) (2*k+2+2*(n+m)) (a.sub b):=by
 have h1:LB m (k+1+m) (b.scale (-1)):=hb.scale (by unfold InB;decide);exact(ha.add h1).mono (ω _) (by omega)
theorem Ln{k:Int}{t:Tm}{e:Bool}{ks:List Fm}{x:Fm}(h:x∈ks):SizeOf.sizeOf x<SizeOf.sizeOf (Fm.mk k t e ks):=by
 have:=At7 h;simp only[Fm.mk.sizeOf_spec];omega
section
variable {D:Orc} (Kt:Knows Ag J4 D) (Kf:Knows Ag Nx D) (Ks:Knows Ag Ga D) (Z:ZF D) (C:PartF D) (Ko:Knows Ag Nw D)
include Ko
theorem Hj(b:Bool):D.ask (.fn 64) [bv b] []=some (.agg (eF (PO b)),[]):=by
 refine Ko.fn' AmH _ rfl ((e64 ..).trans ?_)
 cases b<;>rfl
include Kt Ks Z C in
theorem Ms{n k:Nat}{t:Tm}(h:TmB n k t)(hn:n<=1000000)(hk:k+n<=900000000)(e:Bool):D.ask (.fn 171) [.agg [.ls (t.ps.map eP),bv t.k.neg,eN t.k.abs,bv e]] []=some (.agg (eF (Fe t.lf.pln e)),[]):=by
 have g:=E3 Kt Ks Z C h hn hk;obtain⟨ps,kz⟩:=t;have g2:D.ask (.fn 222) [.agg [.ls (ps.map eP),bv kz.neg,eN kz.abs,bv e]] []=some (.agg (eT (Tm.lf ⟨ps,kz⟩).pln.tm++[bv e]),[]):=by
  refine Ko.fn' Aiq _ rfl ((Apu ..).trans ?_);refine Ab g ?_;rfl
 refine Ko.fn' Aic _ rfl ((Ao9 ..).trans ?_);refine Ab g2 ?_;rfl
theorem Sb(x:Fm)(hl:x.kids.length<=1000000):D.ask (.fn 225) [.agg (eF x)] []=some (.ls ((JX x).map eF),[]):=by
 obtain⟨k,t,e,ks⟩:=x;have hl:ks.length<=1000000:=hl;refine Ko.fn' Ait _ rfl ((Apx ..).trans ?_);rw[Gl];rw[G5]
 by_cases h4:k=4
 .rw[if_pos (.inl h4)]
  exact RN h4
 refine Ap h4 ?_
 by_cases h5:k=5
 .rw[if_pos (.inr h5)]
  exact RN h5
 refine Ap h5 ?_;rw[if_neg (by omega)]
 by_cases h3:k=3
 .rw[if_pos h3]
  refine As h3 ?_;rw[Aw,Aj5,show min (ks.length:Int) 1=((min ks.length 1:Nat):Int) by omega,Ax];rw[show OS 0 (min ks.length 1) ks.length=true by unfold OS;rw[Asr (ArX _),Asr (Nat.min_le_left ..)]];refine Ad ?_;rw[JJ FQ];refine Ad ?_;rw[Mh,K9,υ,←List.map_take];have:ks.take (min ks.length 1)=ks.take 1:=by
   rw[List.take_eq_take_iff];omega
  rw[this]
 .rw[if_neg h3]
  exact Ap h3 rfl
theorem YT(ks:List Fm)(hl:ks.length<=1000000)(g:∀ x∈ks,D.ask (.fn 175) [.agg (eF x)] []=some (.agg (eF (BV x)),[])):∀(m i:Nat) (out:List Fm),ks.length-i=m->i<=ks.length->out.length<=i->
  D.ask (.lp 176 0) [.sl 0 0 out.length 6,.ls (ks.map eF),iv (ks.length:Int),iv (i:Int)] [U (Ao eF out) true true]=some (.tup [iv 0,.sl 1 0 (out++(ks.drop i).map BV).length 6],[.del,.set (U (Ao eF (out++(ks.drop i).map BV)) true true)]):=by
 intro m
 induction m with
 |zero=>
  intro i out hm hi ho;rw[Ark (by omega),List.map_nil,Asa];refine Ko.lp' Ty _ rfl (by kernel_rfl) ((Abk ..).trans ?_);exact Ak (by omega) rfl
 |succ m ih=>
  intro i out hm hi ho;have h1:i<ks.length:=by omega
  have gx:=g ks[i] (Ars h1);rw[Arf h1,Arz];have ih:=ih (i+1) (out++[BV ks[i]]) (by omega) (by omega) (by simp;omega);rw[Ari,Asq,show (out++[BV ks[i]]).length=out.length+1 by simp]at ih;have hf:Bc (out.length+1) 96=true:=AN (by omega) (by omega);have hb1:Arm (0+out.length*6) (Ao eF out).length=true:=AT FQ out (by omega);have e3:ο 0 (ι (0+out.length*6) (Ao eF out))++eF (BV ks[i])=Ao eF (out++[BV ks[i]]):=by
   rw[υ,Bf FQ out (by omega)];exact A9 eF out _
  refine Ko.lp' Ty _ rfl (by kernel_rfl) ((Abk ..).trans ?_);refine Al (by omega) ?_;rw[Ax,AF (Ψ h1)];revert gx ih e3;generalize BV ks[i]=y;generalize ks[i]=x;obtain⟨xk,xt,xe,xs⟩:=x;obtain⟨yk,yt,ye,ys⟩:=y;intro gx ih e3;simp only[eF,eN,ND,DK,Aa]at gx e3 ⊢;refine Ab gx ?_;simp only[ND,DK,Aa];rw[hf];refine Ad ?_;rw[hb1];refine Ad ?_;rw[e3,Bo (by omega)];refine Ab ih ?_;rfl
theorem GQ{ks:List Fm}(hl:ks.length<=1000000)(g:∀ x∈ks,D.ask (.fn 175) [.agg (eF x)] []=some (.agg (eF (BV x)),[])):D.ask (.fn 176) [.ls (ks.map eF)] []=some (.ls ((ks.map BV).map eF),[]):=by
 have gl:=YT Ko ks hl g _ 0 [] rfl (by omega) (by simp);rw[υ,Arx]at gl;refine Ko.fn' Ty _ rfl ((Ape ..).trans ?_);rw[Aw];refine Ab gl ?_;simp only[ND,DK,Aa];rw[show Arm (0+(ks.map BV).length*6) (Ao eF (ks.map BV)).length=true from AT FQ _ (by omega)];refine Ad ?_;rw[Cz FQ _ rfl]
include Kt Ks Z C in
theorem IR{n k:Nat}(hn:n<=1000000)(hk:k+n<=900000000):∀(N:Nat) (x:Fm),SizeOf.sizeOf x<N->FB n k x->D.ask (.fn 175) [.agg (eF x)] []=some (.agg (eF (BV x)),[]):=by
 intro N
 induction N with
 |zero=>intro x h;omega
 |succ N ih=>
  intro x hN hx;obtain⟨ht,hl,h⟩:=hx;rename_i kd t e ks;refine Ko.fn' Aig _ rfl ((Apd ..).trans ?_);rw[BV]
  by_cases h0:kd=0
  .rw[if_pos h0]
   refine As h0 ?_;refine Ab (Hj Ko true) ?_;rfl
  rw[if_neg h0];refine Ap h0 ?_
  by_cases h2:kd=2
  .rw[if_pos h2]
   refine As h2 ?_;refine Ab (Ms Kt Ks Z C Ko ht hn hk e) ?_;rfl
  rw[if_neg h2];refine Ap h2 ?_
  by_cases h3:kd=3
  .rw[if_pos h3,S3]
   refine As h3 ?_;have hk:=Sb Ko (.mk kd t e ks) hl;have hks:∀ x∈JX (.mk kd t e ks),x∈ks:=λx hx=>MS hx
   have hkl:(JX (.mk kd t e ks)).length<=1000000:=Ar9 (MR kd t e ks) hl;have gc:=GQ Ko hkl λx hx=>ih x (by have:=Ln (k:=kd) (t:=t) (e:=e) (hks x hx);omega) (h x (hks x hx))
   simp only[eF,eN,ND,DK,Aa]at hk ⊢;refine Ab hk ?_;simp only[ND,DK,Aa];refine Ab gc ?_;rw[G5];rw[if_neg (by omega),if_pos h3,h3];unfold kF;rw[eF,Gl];rfl
  rw[if_neg h3];refine Ap h3 ?_
  by_cases h4:kd=4
  .rw[if_pos (.inl h4),IQ]
   refine As h4 ?_;have hk:=Sb Ko (.mk kd t e ks) hl;have hks:∀ x∈JX (.mk kd t e ks),x∈ks:=λx hx=>MS hx
   have hkl:(JX (.mk kd t e ks)).length<=1000000:=Ar9 (MR kd t e ks) hl;have gc:=GQ Ko hkl λx hx=>ih x (by have:=Ln (k:=kd) (t:=t) (e:=e) (hks x hx);omega) (h x (hks x hx))
   simp only[eF,eN,ND,DK,Aa]at hk ⊢;refine Ab hk ?_;simp only[ND,DK,Aa];refine Ab gc ?_;rw[G5];rw[if_pos (.inl h4)];unfold kF;rw[eF,Gl];rfl
  refine Ap h4 ?_
  by_cases h5:kd=5
  .rw[if_pos (.inr h5),IQ]
   refine As h5 ?_;have hk:=Sb Ko (.mk kd t e ks) hl;have hks:∀ x∈JX (.mk kd t e ks),x∈ks:=λx hx=>MS hx
   have hkl:(JX (.mk kd t e ks)).length<=1000000:=Ar9 (MR kd t e ks) hl;have gc:=GQ Ko hkl λx hx=>ih x (by have:=Ln (k:=kd) (t:=t) (e:=e) (hks x hx);omega) (h x (hks x hx))
   simp only[eF,eN,ND,DK,Aa]at hk ⊢;refine Ab hk ?_;simp only[ND,DK,Aa];refine Ab gc ?_;rw[G5];rw[if_pos (.inr h5)];unfold kF;rw[eF,Gl];rfl
  rw[if_neg (by omega)];refine Ap h5 ?_;refine Ab (Hj Ko false) ?_;rfl
include Kt Ks Z C in
theorem Xg{n k:Nat}(hn:n<=1000000)(hk:k+n<=900000000){x:Fm}(h:FB n k x):D.ask (.fn 113) [.agg (eF x)] []=some (.agg (eF (kF 3 [BV x])),[]):=by
 have g:=IR Kt Ks Z C Ko hn hk _ x (ArB _) h;obtain⟨xk,xt,xe,xs⟩:=x;refine Ko.fn' AhR _ rfl ((AoL ..).trans ?_);generalize BV (.mk xk xt xe xs)=y at g ⊢;obtain⟨yk,yt,ye,ys⟩:=y;simp only[eF,eN]at g;refine Ab g ?_;unfold kF;rw[eF,eFs,eFs,eF];rfl
include Kt Ks Z C in
theorem AeW{n k:Nat}(hn:n<=1000000)(hk:k+n<=900000000){l:List Fm}(hl:l.length<=1000000)(h:∀ x∈l,FB n k x):D.ask (.fn 114) [.ls (l.map eF)] []=some (.agg (eF (kF 4 (l.map BV))),[]):=by
 have g:=GQ Ko hl λx hx=>IR Kt Ks Z C Ko hn hk _ x (ArB _) (h x hx)
 refine Ko.fn' AhS _ rfl ((AoM ..).trans ?_);refine Ab g ?_;unfold kF;rw[eF,Gl];rfl
include Kt Ks Z C in
theorem Afj{n k:Nat}(hn:n<=1000000)(hk:k+n<=900000000){l:List Fm}(hl:l.length<=1000000)(h:∀ x∈l,FB n k x):D.ask (.fn 115) [.ls (l.map eF)] []=some (.agg (eF (kF 5 (l.map BV))),[]):=by
 have g:=GQ Ko hl λx hx=>IR Kt Ks Z C Ko hn hk _ x (ArB _) (h x hx)
 refine Ko.fn' AhT _ rfl ((AoN ..).trans ?_);refine Ab g ?_;unfold kF;rw[eF,Gl];rfl
omit Ko in
theorem FJ{n k:Nat}{l:Lf}(h:LB n k l)(e:Bool):FB n k (Fe l e):=.mk h.tb (by simp) (by simp)
omit Ko in
theorem Sm:LB 0 1 (Lf.num 1):=⟨by simp[Lf.num],by simp[Lf.num],by unfold InB Lf.num;decide⟩
omit Ko in
theorem Afu{l r:Lf}(hl:LB 64 5000 l)(hr:LB 64 5000 r)(op:Int):FB 128 30000 (S4 op l r):=by
 have h1:=(hl.sub hr).mono (show 64+64<=128 by omega) (show _<=11000 by omega);have h2:=(hr.sub hl).mono (show 64+64<=128 by omega) (show _<=11000 by omega);have n1:=Sm.mono (ω 0) (show 1<=11000 by omega);have h3:=(h1.sub n1).mono (show 128+0<=128 by omega) (show _<=30000 by omega);have h4:=(h2.sub n1).mono (show 128+0<=128 by omega) (show _<=30000 by omega);have a0:TmB 128 30000 Tm0:=by rw[←Wg];exact LB.tb ⟨by simp[Oc],by simp[Oc],InB.zero _⟩
 have w1:=h1.mono (ω 128) (show 11000<=30000 by omega);have w2:=h2.mono (ω 128) (show 11000<=30000 by omega);unfold S4
 repeat' split
 .exact FJ w1 _
 .exact .mk a0 (by simp) (λx hx=>by rw[ArL.1 hx];exact FJ w1 _)
 .exact FJ h4 _
 .exact FJ w2 _
 .exact FJ h3 _
 .exact FJ w1 _
 .exact .mk a0 (by simp) (by simp)
include Kt Kf Ks Z C
theorem Afv{l r:Tm}(hl:TmB 64 5000 l)(hr:TmB 64 5000 r)(op:Int):D.ask (.fn 112) [iv op,.agg (eT l),.agg (eT r)] []=some (.agg (eF (S4 op l.lf r.lf)),[]):=by
 have g1:=Z.of_ 1 (by omega) (by omega);have g2:=ZN Kt Kf Z (z:=Br 1) ((InB.lz (k:=1) (by unfold InB;decide)).mono (by omega));rw[Cj]at g2;have s1:∀{a b:Tm},TmB 64 5000 a->TmB 64 5000 b->D.ask (.fn 173) [.agg (eT a),.agg (eT b)] []=some (.agg (eT (a.lf.sub b.lf).tm),[]):=λha hb=>Ad6 Kt Kf Ks Z C ha hb (by omega) (by omega)
 have b1:∀{a b:Tm},TmB 64 5000 a->TmB 64 5000 b->LB 128 11000 (a.lf.sub b.lf):=λha hb=>(ha.lb.sub hb.lb).mono (by omega) (by omega)
 have z1:∀{a b:Tm},TmB 64 5000 a->TmB 64 5000 b->∀ e:Bool,D.ask (.fn 171) [.agg [.ls ((a.lf.sub b.lf).tm.ps.map eP),bv (a.lf.sub b.lf).tm.k.neg,eN (a.lf.sub b.lf).tm.k.abs,bv e]] []=some (.agg (eF (Fe (a.lf.sub b.lf) e)),[]):=λha hb e=>by
  have:=Ms Kt Ks Z C Ko (b1 ha hb).tb (by omega) (by omega) e
  rwa [Fk,DZ]at this
 have q0:∀{l r:Tm},TmB 64 5000 l->TmB 64 5000 r->D.ask (.fn 112) [iv 0,.agg (eT l),.agg (eT r)] []=some (.agg (eF (Fe (l.lf.sub r.lf) true)),[]):=λ{l r} hl hr=>by
  have gs:=s1 hl hr;have gz:=Aho Kt Kf Ks Z C (b1 hl hr).tb (by omega) (by omega);rw[Fk,DZ]at gz;have go:=z1 hl hr true;obtain⟨lp,lk⟩:=l;obtain⟨rp,rk⟩:=r;refine Ko.fn' Nf _ rfl ((VB ..).trans ?_);refine Ab g1 ?_;simp only[eZ,eN,ND,DK,Aa];refine Ab g2 ?_;simp only[eT,eN,ND,DK,Aa];refine As rfl ?_;refine Ab gs ?_;simp only[eT,eN,ND,DK,Aa,ArR,Arx]at gz ⊢;refine Ab gz ?_;simp only[ND,DK,Aa];refine Ab go ?_;rfl
 have q3:∀{l r:Tm},TmB 64 5000 l->TmB 64 5000 r->D.ask (.fn 112) [iv 3,.agg (eT l),.agg (eT r)] []=some (.agg (eF (Fe (r.lf.sub l.lf) false)),[]):=λ{l r} hl hr=>by
  have gs:=s1 hr hl;have gz:=T6 Kt Kf Ks Z C (b1 hr hl).tb (by omega) (by omega);rw[Fk,DZ]at gz;have go:=z1 hr hl false;obtain⟨lp,lk⟩:=l;obtain⟨rp,rk⟩:=r;refine Ko.fn' Nf _ rfl ((VB ..).trans ?_);refine Ab g1 ?_;simp only[eZ,eN,ND,DK,Aa];refine Ab g2 ?_;simp only[eT,eN,ND,DK,Aa];refine Ap (by decide) ?_;refine Ap (by decide) ?_;refine Ap (by decide) ?_;refine As rfl ?_;refine Ab gs ?_;simp only[eT,eN,ND,DK,Aa,ArR,Arx]at gz ⊢;refine Ab gz ?_;simp only[ND,DK,Aa];refine Ab go ?_;rfl
 have q2:∀{l r:Tm},TmB 64 5000 l->TmB 64 5000 r->D.ask (.fn 112) [iv 2,.agg (eT l),.agg (eT r)] []=some (.agg (eF (Fe ((r.lf.sub l.lf).sub (.num 1)) false)),[]):=λ{l r} hl hr=>by
  have gs:=s1 hr hl;have n1:=(Sm.mono (ω 0) (show 1<=11000 by omega)).tb;have gs2:=Ad6 Kt Kf Ks Z C (b1 hr hl).tb n1 (by omega) (by omega);have b2:LB 128 30000 ((r.lf.sub l.lf).sub (.num 1)):=((b1 hr hl).sub (Sm.mono (ω 0) (show 1<=11000 by omega))).mono (by omega) (by omega);rw[Fk,Fk]at gs2;have gz:=T6 Kt Kf Ks Z C b2.tb (by omega) (by omega);rw[Fk,DZ]at gz;have go:=Ms Kt Ks Z C Ko b2.tb (by omega) (by omega) false;rw[Fk,DZ]at go;obtain⟨lp,lk⟩:=l;obtain⟨rp,rk⟩:=r;refine Ko.fn' Nf _ rfl ((VB ..).trans ?_);refine Ab g1 ?_;simp only[eZ,eN,ND,DK,Aa];refine Ab g2 ?_;simp only[eT,eN,ND,DK,Aa];refine Ap (by decide) ?_;refine Ap (by decide) ?_;refine As rfl ?_;refine Ab gs ?_;simp only[eT,eN,ND,DK,Aa,ArR,Arx]at gz gs2 ⊢;refine Ab gs2 ?_;simp only[ND,DK,Aa];refine Ab gz ?_;simp only[ND,DK,Aa];refine Ab go ?_;rfl
 unfold S4
 by_cases h0:op=0
 .rw[if_pos h0,h0]
  exact q0 hl hr
 rw[if_neg h0]
 by_cases h1:op=1
 .rw[if_pos h1,h1]
  have g:=q0 hl hr;have gd:=Xg Kt Ks Z C Ko (n:=128) (k:=11000) (by omega) (by omega) (FJ (b1 hl hr) true);rw[(CanF.atom _ _ (DZ _ _)).clone]at gd;obtain⟨lp,lk⟩:=l;obtain⟨rp,rk⟩:=r;refine Ko.fn' Nf _ rfl ((VB ..).trans ?_);refine Ab g1 ?_;simp only[eZ,eN,ND,DK,Aa];refine Ab g2 ?_;simp only[eT,eN,ND,DK,Aa];refine Ap (by decide) ?_;refine As rfl ?_;refine Ab g ?_;unfold Fe at gd ⊢;simp only[eF,eN,ND,DK,Aa]at gd ⊢;refine Ab gd ?_;unfold kF;rw[eF,eFs,eFs,eF];rfl
 rw[if_neg h1]
 by_cases h2:op=2
 .rw[if_pos h2,h2]
  exact q2 hl hr
 rw[if_neg h2]
 by_cases h3:op=3
 .rw[if_pos h3,h3]
  exact q3 hl hr
 rw[if_neg h3]
 by_cases h4:op=4
 .rw[if_pos h4,h4]
  have g:=q2 hr hl;obtain⟨lp,lk⟩:=l;obtain⟨rp,rk⟩:=r;refine Ko.fn' Nf _ rfl ((VB ..).trans ?_);refine Ab g1 ?_;simp only[eZ,eN,ND,DK,Aa];refine Ab g2 ?_;simp only[eT,eN,ND,DK,Aa];refine Ap (by decide) ?_;refine Ap (by decide) ?_;refine Ap (by decide) ?_;refine Ap (by decide) ?_;refine As rfl ?_;refine Ab g ?_;rfl
 rw[if_neg h4]
 by_cases h5:op=5
 .rw[if_pos h5,h5]
  have g:=q3 hr hl;obtain⟨lp,lk⟩:=l;obtain⟨rp,rk⟩:=r;refine Ko.fn' Nf _ rfl ((VB ..).trans ?_);refine Ab g1 ?_;simp only[eZ,eN,ND,DK,Aa];refine Ab g2 ?_;simp only[eT,eN,ND,DK,Aa];refine Ap (by decide) ?_;refine Ap (by decide) ?_;refine Ap (by decide) ?_;refine Ap (by decide) ?_;refine Ap (by decide) ?_;refine As rfl ?_;refine Ab g ?_;rfl
 rw[if_neg h5];obtain⟨lp,lk⟩:=l;obtain⟨rp,rk⟩:=r;refine Ko.fn' Nf _ rfl ((VB ..).trans ?_);refine Ab g1 ?_;simp only[eZ,eN,ND,DK,Aa];refine Ab g2 ?_;simp only[eT,eN,ND,DK,Aa];refine Ap h0 ?_;refine Ap h1 ?_;refine Ap h2 ?_;refine Ap h3 ?_;refine Ap h4 ?_;refine Ap h5 ?_;refine Ab (Hj Ko false) ?_;rfl
end
section
variable {D:Orc} (Kt:Knows Ag J4 D) (Kf:Knows Ag Nx D) (Ks:Knows Ag Ga D) (Z:ZF D) (C:PartF D) (Ko:Knows Ag Nw D) (Kl:Knows Ag UX D)
include Kl
theorem Agt(a b:Int):D.ask (.lp 277 0) [iv 0,.ls [[iv a],[iv b]],iv 2,iv 2] []=some (.tup [iv 0,iv 0],[]):=by
 refine Kl.lp' QC _ rfl (by kernel_rfl) ((VK ..).trans ?_);exact Ak (by omega) rfl
theorem Agu(a b:Int):D.ask (.lp 277 0) [iv 0,.ls [[iv a],[iv b]],iv 2,iv 1] []=some (if b=0 then .tup [iv 0,iv 0] else .tup [bv true,iv b],[]):=by
 refine Kl.lp' QC _ rfl (by kernel_rfl) ((VK ..).trans ?_);refine Al (by omega) ?_
 show br (Ah.eq b 0) _ _=_
 by_cases h:b=0
 .refine As h ?_
  rw[if_pos h];refine Ab (Agt Kl a b) ?_;rfl
 .rw[if_neg h]
  exact Ap h rfl
theorem Ww(a b:Int):D.ask (.fn 277) [.ls [[iv a],[iv b]]] []=some (iv (or2 a b),[]):=by
 have g:D.ask (.lp 277 0) [iv 0,.ls [[iv a],[iv b]],iv 2,iv 0] []=some (if or2 a b=0 then .tup [iv 0,iv 0] else .tup [bv true,iv (or2 a b)],[]):=by
  refine Kl.lp' QC _ rfl (by kernel_rfl) ((VK ..).trans ?_);refine Al (by omega) ?_
  show br (Ah.eq a 0) _ _=_
  unfold or2
  by_cases h:a=0
  .refine As h ?_
   rw[if_pos h];refine Ab (Agu Kl a b) ?_
   by_cases h2:b=0
   .rw[if_pos h2];rfl
   .rw[if_neg h2];rfl
  .rw[if_neg h,if_neg h]
   exact Ap h rfl
 refine Kl.fn' QC _ rfl ((ApQ ..).trans ?_);refine Ab g ?_
 by_cases h:or2 a b=0
 .rw[if_pos h,h];rfl
 .rw[if_neg h];rfl
include Ks Z
theorem Aft{p q:Pt}(hp:Lz 1000000000 p.z)(hq:Lz 1000000000 q.z):D.ask (.fn 284) [.agg (eP p),.agg (eP q)] []=some (iv (Xe (pv p) (pv q)),[]):=by
 have g1:=RW Ks p.v q.v;have g2:=Z.cmp p.z q.z hp hq;obtain⟨a,n,x⟩:=p;obtain⟨b,m,y⟩:=q;refine Kl.fn' AiI _ rfl ((ApU ..).trans ?_);refine Ab g1 ?_;simp only[ND,DK,Aa];refine Ab g2 ?_;simp only[ND,DK,Aa];refine Ab (Ww Kl _ _) ?_;rfl
theorem Afz{a b:List Pt}(la:a.length<=1000000)(lb:b.length<=1000000)(ha:∀ p∈a,Lz 1000000000 p.z)(hb:∀ p∈b,Lz 1000000000 p.z):∀(m i:Nat),a.length-i=m->i<=a.length->D.ask (.lp 286 0) [.ls (a.map eP),.ls (b.map eP),.fn (.func 284) [] [],.ls (a.map eP),iv (a.length:Int),iv (i:Int)] []=some (match YU ((a.drop i).map pv) ((b.drop i).map pv) with|some n=>.tup [bv true,iv n] | none=>.tup [iv 0,.ls (a.map eP),.ls (b.map eP)],[]):=by
 intro m
 induction m with
 |zero=>
  intro i hm hi;rw[Ark (by omega)];refine Kl.lp' TI _ rfl (by kernel_rfl) ((AbB ..).trans ?_);exact Ak (by omega) rfl
 |succ m ih=>
  intro i hm hi;have h1:i<a.length:=by omega
  have ih:=ih (i+1) (by omega) (by omega);rw[Arf h1,Arz];refine Kl.lp' TI _ rfl (by kernel_rfl) ((AbB ..).trans ?_);refine Al (by omega) ?_;rw[Ax,AF (Ψ h1)];simp only[eP,eN,ND,DK,Aa];rw[Aw]
  by_cases h2:b.length<=i
  .refine Dp (by omega) ?_
   rw[Ark h2];rfl
  .have h2:i<b.length:=by omega
   refine DP (by omega) ?_;rw[Ax,AF (Ψ h2)];simp only[eP,eN,ND,DK,Aa];have gc:=Aft Ks Z Kl (ha _ (Ars h1)) (hb _ (Ars h2));refine Ab gc ?_;simp only[ND,DK,Aa];rw[Arf h2,Arz,YU]
   by_cases h3:Xe (pv a[i]) (pv b[i])=0
   .refine As h3 ?_
    rw[if_pos h3,Bo (by omega)];refine Ab ih ?_
    cases YU ((a.drop (i+1)).map pv) ((b.drop (i+1)).map pv)<;>rfl
   .rw[if_neg h3]
    exact Ap h3 rfl
theorem Aa7{a b:List Pt}(la:a.length<=1000000)(lb:b.length<=1000000)(ha:∀ p∈a,Lz 1000000000 p.z)(hb:∀ p∈b,Lz 1000000000 p.z):D.ask (.fn 286) [.ls (a.map eP),.ls (b.map eP),.fn (.func 284) [] []] []=some (iv (Aa6 (a.map pv) (b.map pv)),[]):=by
 refine Kl.fn' TI _ rfl ((ApW ..).trans ?_);rw[Aw];refine Ab (Afz Ks Z Kl la lb ha hb _ 0 rfl (by omega)) ?_;rw[υ,υ];unfold Aa6
 cases YU (a.map pv) (b.map pv) with
 |some n=>rfl
 |none=>
  simp only[ND,DK,Aa]
  show br (Ah.lt _ _) _ _=_
  rw[Aw,Aw];simp only[ArA]
  by_cases h:a.length<b.length
  .refine Al (by omega) ?_
   rw[if_pos h]
  .refine Ak (by omega) ?_
   rw[if_neg h]
include Kt C
theorem Afx{n k:Nat}{t u:Tm}(ht:TmB n k t)(hu:TmB n k u)(hn:n<=1000000)(hk:k+n<=900000000):D.ask (.fn 278) [.agg (eT t),.agg (eT u)] []=some (iv (Afw t.lf.pln u.lf.pln),[]):=by
 have g1:=E3 Kt Ks Z C ht hn hk;have g2:=E3 Kt Ks Z C hu hn hk;have b1:=ht.lb.pln.tb;have b2:=hu.lb.pln.tb;have e1:(t.lf.pln.tm.ps).map pv=t.lf.pln.ps:=congrArg Lf.ps (Fk t.lf.pln);have e2:(u.lf.pln.tm.ps).map pv=u.lf.pln.ps:=congrArg Lf.ps (Fk u.lf.pln);have k1:zv t.lf.pln.tm.k=t.lf.pln.k:=congrArg Lf.k (Fk t.lf.pln);have k2:zv u.lf.pln.tm.k=u.lf.pln.k:=congrArg Lf.k (Fk u.lf.pln);have g3:=Aa7 Ks Z Kl (a:=t.lf.pln.tm.ps) (b:=u.lf.pln.tm.ps) (Ar9 b1.len hn) (Ar9 b2.len hn) (λp hp=>(b1.ps p hp).mono (by omega)) (λp hp=>(b2.ps p hp).mono (by omega));have g4:=Z.cmp t.lf.pln.tm.k u.lf.pln.tm.k (b1.k.mono (by omega)) (b2.k.mono (by omega));rw[e1,e2]at g3;rw[k1,k2]at g4;unfold Afw;revert g1 g2 g3 g4;generalize t.lf.pln.tm=x;generalize u.lf.pln.tm=y;intro g1 g2 g3 g4;obtain⟨tp,tz⟩:=t;obtain⟨up,uz⟩:=u;obtain⟨xp,xn,xa⟩:=x;obtain⟨yp,yn,ya⟩:=y;refine Kl.fn' AiG _ rfl ((ApR ..).trans ?_);refine Ab g1 ?_;simp only[eT,eN,ND,DK,Aa];refine Ab g2 ?_;simp only[eT,eN,ND,DK,Aa];refine Ab g3 ?_;simp only[ND,DK,Aa];refine Ab g4 ?_;simp only[ND,DK,Aa];refine Ab (Ww Kl _ _) ?_;rfl
theorem WD{n k:Nat}{t u:Tm}(ht:TmB n k t)(hu:TmB n k u)(hn:n<=1000000)(hk:k+n<=900000000)(e f:Bool):D.ask (.fn 254) [.agg (eT t++[bv e]),.agg (eT u++[bv f])] []=some (bv (decide (Vv t.lf.pln u.lf.pln e f=0)),[]):=by
 have g1:=Afx Kt Ks Z C Kl ht hu hn hk;have gr:∀(t:Tm) (e:Bool),D.ask (.fn 279) [.agg (eT t++[bv e])] []=some (iv (AdE e),[]):=by
  rintro⟨p,z⟩ e;refine Kl.fn' AiH _ rfl ((ApS ..).trans ?_)
  cases e<;>rfl
 have g2:D.ask (.fn 270) [.agg (eT t++[bv e]),.agg (eT u++[bv f])] []=some (iv (Vv t.lf.pln u.lf.pln e f),[]):=by
  unfold Vv;revert g1;generalize Afw t.lf.pln u.lf.pln=c;intro g1;have r1:=gr t e;have r2:=gr u f;obtain⟨tp,tz⟩:=t;obtain⟨up,uz⟩:=u;refine Kl.fn' AiD _ rfl ((ApM ..).trans ?_);refine Ab g1 ?_;simp only[ND,DK,Aa];refine Ab r1 ?_;simp only[ND,DK,Aa];refine Ab r2 ?_;simp only[ND,DK,Aa];refine Ab (RW Ks _ _) ?_;simp only[ND,DK,Aa];refine Ab (Ww Kl _ _) ?_;rfl
 revert g2;generalize Vv t.lf.pln u.lf.pln e f=c;intro g2;obtain⟨tp,tz⟩:=t;obtain⟨up,uz⟩:=u;refine Kl.fn' Aiy _ rfl ((ApE ..).trans ?_);refine Ab g2 ?_;simp only[ND,DK,Aa]
 by_cases h:c=0
 .refine As h ?_
  rw[decide_eq_true h]
 .refine Ap h ?_
  rw[decide_eq_false h]
end
theorem FB.kids{n k:Nat}{x:Fm}(h:FB n k x):x.kids.length<=1000000/\(∀ y∈x.kids,FB n k y)/\TmB n k x.tm:=by
 cases h with
 |mk ht hl h=>exact⟨hl,h,ht⟩
section
variable {D:Orc} (Kt:Knows Ag J4 D) (Ks:Knows Ag Ga D) (Z:ZF D) (C:PartF D) (Ko:Knows Ag Nw D) (Kl:Knows Ag UX D)
include Kl
theorem AfI{ks js:List Fm}(hl:ks.length=js.length)(hs:ks.length<=1000000)(g:∀ x∈ks,∀ y∈js,D.ask (.fn 233) [.agg (eF x),.agg (eF y)] []=some (bv (eqF x y),[])):∀(m i:Nat),ks.length-i=m->i<=ks.length->D.ask (.lp 255 0) [.ls (js.map eF),.fn (.func 233) [] [],.ls (ks.map eF),iv (ks.length:Int),iv (i:Int)] []=some (if MG (ks.drop i) (js.drop i) then .tup [iv 0] else .tup [bv true,bv false],[]):=by
 intro m
 induction m with
 |zero=>
  intro i hm hi;rw[Ark (by omega),MG];refine Kl.lp' TF _ rfl (by kernel_rfl) ((Abw ..).trans ?_);exact Ak (by omega) rfl
 |succ m ih=>
  intro i hm hi;have h1:i<ks.length:=by omega
  have h2:i<js.length:=by omega
  have ih:=ih (i+1) (by omega) (by omega);have gx:=g ks[i] (Ars h1) js[i] (Ars h2);rw[Arf h1,Arf h2,YZ];refine Kl.lp' TF _ rfl (by kernel_rfl) ((Abw ..).trans ?_);refine Al (by omega) ?_;rw[Ax,AF (Ψ h1)];revert gx;generalize ks[i]=x;intro gx;obtain⟨xk,xt,xe,xs⟩:=x;simp only[eF,eN,ND,DK,Aa]at gx ⊢;rw[Ax,AF (Ψ h2)];revert gx;generalize js[i]=y;intro gx;obtain⟨yk,yt,ye,ys⟩:=y;simp only[eF,eN,ND,DK,Aa]at gx ⊢;refine Ab gx ?_;simp only[ND,DK,Aa]
  cases eqF (.mk xk xt xe xs) (.mk yk yt ye ys) with
  |false=>exact Bi rfl
  |true=>
   refine Ad ?_;rw[Bo (by omega)];refine Ab ih ?_;rw[Arq]
   cases MG (ks.drop (i+1)) (js.drop (i+1))<;>rfl
theorem AfJ{ks js:List Fm}(hs:ks.length<=1000000)(ht:js.length<=1000000)(g:∀ x∈ks,∀ y∈js,D.ask (.fn 233) [.agg (eF x),.agg (eF y)] []=some (bv (eqF x y),[])):D.ask (.fn 255) [.ls (ks.map eF),.ls (js.map eF),.fn (.func 233) [] []] []=some (bv (decide (ks.length=js.length)&&MG ks js),[]):=by
 refine Kl.fn' TF _ rfl ((ApF ..).trans ?_);rw[Aw,Aw]
 by_cases hl:ks.length=js.length
 .refine As (by omega) ?_
  have gl:=AfI Kl hl hs g _ 0 rfl (by omega);rw[υ,υ]at gl;refine Ab gl ?_;rw[decide_eq_true hl,Arq]
  cases MG ks js<;>rfl
 .refine Ap (by omega) ?_
  rw[decide_eq_false hl,Bool.false_and]
include Kt Ks Z C Ko
theorem AbV{n k:Nat}(hn:n<=1000000)(hk:k+n<=900000000):∀(N:Nat) (x y:Fm),SizeOf.sizeOf x<N->FB n k x->FB n k y->CanF x->CanF y->D.ask (.fn 233) [.agg (eF x),.agg (eF y)] []=some (bv (eqF x y),[]):=by
 intro N
 induction N with
 |zero=>intro x y h;omega
 |succ N ih=>
  intro x y hN fx fy cx cy;have g1:=IR Kt Ks Z C Ko hn hk _ x (ArB _) fx;have g2:=IR Kt Ks Z C Ko hn hk _ y (ArB _) fy;rw[cx.clone]at g1;rw[cy.clone]at g2;have bx:=fx.kids;have bY:=fy.kids;have kx:=cx.kids;have ky:=cy.kids;obtain⟨xk,xt,xe,xs⟩:=x;obtain⟨yk,yt,ye,ys⟩:=y;simp only[Fm.kids,Fm.tm]at bx bY kx ky;have g3:=WD Kt Ks Z C Kl bx.2.2 bY.2.2 hn hk xe ye;have g4:=AfJ Kl bx.1 bY.1 λa ha b hb=>ih a b (by have:=Ln (k:=xk) (t:=xt) (e:=xe) ha;omega) (bx.2.1 a ha) (bY.2.1 b hb) (kx a ha) (ky b hb)
  rw[AkK];simp only[eF,eN,Gl]at g1 g2 ⊢;refine Kl.fn' Aiu _ rfl ((Apy ..).trans ?_);refine Ab g1 ?_;simp only[ND,DK,Aa];refine Ab g2 ?_;simp only[ND,DK,Aa]
  by_cases h1:xk=yk
  .refine As h1 ?_
   rw[decide_eq_true h1,Arq]
   by_cases h2:xk=2
   .refine As h2 ?_
    refine Ab g3 ?_;simp only[ND,DK,Aa];rw[decide_eq_true h2,Bool.not_true,As1]
    cases decide (Vv xt.lf.pln yt.lf.pln xe ye=0) with
    |false=>exact Bi rfl
    |true=>
     refine Ad ?_;refine Ab g4 ?_;simp only[ND,DK,Aa];rw[Arq]
     cases (decide (xs.length=ys.length)&&MG xs ys)<;>rfl
   .refine Ap h2 ?_
    refine Ab g4 ?_;simp only[ND,DK,Aa];rw[decide_eq_false h2,Bool.not_false,AuG,Arq]
    cases (decide (xs.length=ys.length)&&MG xs ys)<;>rfl
  .refine Ap h1 ?_
   rw[decide_eq_false h1];simp
end
def Us(m:Mo):Int:=if m.num=Af [] then 1 else zv (KI m.num).1
def L9(m:Mo):Int:=if m.neg then -Us m else Us m
section
variable (vars:List ByteArray)
def Ew:List Mo->Lf->Option Lf
 |[],out=>some out
 |m::r,out=>if m.var=Af [] then Ew r ⟨out.ps,out.k+L9 m⟩ else match vars.findIdx? (m.var = ·) with
  |none=>none
  |some v=>Ew r ⟨out.ps++[((v:Int),L9 m)],out.k⟩
def E7(ms:List Mo):Lf × Bool:=if JE ms then(match Ew vars ms Oc with
 |some l=>(l.pln,true)
 |none=>(Oc,false)) else(Oc,false)
mutual
def Dd:Tr->Fm × Bool
 |.mk k l r op _ _ ks=>if k=2 then(S4 op (E7 vars l).1 (E7 vars r).1,(E7 vars l).2&&(E7 vars r).2) else match CH ks with
  |none=>(kF 0 [],false)
  |some fs=>(if k=0 then PO true else if k=3\/k=4\/k=5 then kF k fs else PO false,true)
def CH:List Tr->Option (List Fm)
 |[]=>some []
 |x::r=>if(Dd x).2 then(match CH r with
  |none=>none
  |some fs=>some ((Dd x).1::fs)) else none
end
end
theorem Adu(s:ByteArray):(KI s).1=Br (zv (KI s).1):=by
 unfold KI;split
 .simp only[Cj]
 .show (⟨false,[]⟩:Zi)=Br (zv ⟨false,[]⟩)
  rw[show zv (⟨false,[]⟩:Zi)=0 from rfl,WY]
theorem Ut(m:Mo):InB 4000 (Us m):=by
 unfold Us;split
 .exact InB.one (by omega)
 .exact(X7 _).inb
theorem PC(m:Mo):InB 4000 (L9 m):=by
 unfold L9;split
 .exact(Ut m).neg
 .exact Ut m
structure OutB (i:Nat) (out:Lf):Prop where
 len:out.ps.length<=i
 ps:∀ p∈out.ps,InB 4000 p.2
 k:InB (4000+i) out.k
theorem Adq:OutB 0 Oc:=⟨by simp[Oc],by simp[Oc],InB.zero _⟩
theorem OutB.addK{i:Nat}{out:Lf}(h:OutB i out)(m:Mo):OutB (i+1) ⟨out.ps,out.k+L9 m⟩:=⟨by have:=h.len;simp only;omega,h.ps,by
 show InB (4000+i+1) _
 exact InB.add h.k ((PC m).mono (by omega))⟩
theorem OutB.addP{i:Nat}{out:Lf}(h:OutB i out)(m:Mo)(v:Int):OutB (i+1) ⟨out.ps++[(v,L9 m)],out.k⟩:=⟨by have:=h.len;simp;omega,λp hp=>by
 rcases ArN.1 hp with hp|hp
 .exact h.ps p hp
 .rw[ArL.1 hp];exact PC m,h.k.mono (by omega)⟩
theorem Il(vars:List ByteArray):∀(ms:List Mo) (i:Nat) (out l:Lf),OutB i out->Ew vars ms out=some l->OutB (i+ms.length) l
 |[],i,out,l,h,e=>by
  rw[Ew]at e
  cases e
  exact h
 |m::r,i,out,l,h,e=>by
  rw[Ew]at e;rw[ν,show i+(r.length+1)=i+1+r.length by omega];split at e
  .exact Il vars r (i+1) _ l (h.addK m) e
  .split at e
   .cases e
   .exact Il vars r (i+1) _ l (h.addP m _) e
theorem Mi(vars:List ByteArray)(ms:List Mo):LB 64 5000 (E7 vars ms).1:=by
 have h0:LB 64 5000 Oc:=⟨by simp[Oc],by simp[Oc],InB.zero _⟩;unfold E7;split
 .rename_i h
  split
  .rename_i l e
   have hl:=(DH h).2.1;have g:=Il vars ms 0 Oc l Adq e;have g2:LB 64 4064 l:=⟨by have:=g.len;omega,λp hp=>(g.ps p hp).mono (by omega),g.k.mono (by omega)⟩;exact g2.pln.mono (by omega) (by omega)
  .exact h0
 .exact h0
def Al1(r0:List (List AV))(r1:Bool)(r2:List (List AV)):Option Lf->AV × List BO
 |none=>(.tup [bv true,.ptr 0 0,bv false],[.set ⟨[.ls [],bv false,.ls []],true,false⟩,.del,.del])
 |some l=>(.tup [iv 0,.ptr 0 0,.ptr 1 0],[.set ⟨[.ls r0,bv r1,.ls r2],true,false⟩,.set ⟨[.sl 3 0 (l.ps.map A4).length 3,bv (Br l.k).neg,eN (Br l.k).abs],true,false⟩,.del,.set (IA (l.ps.map A4))])
section
variable {D:Orc} (Kt:Knows Ag J4 D) (Kf:Knows Ag Nx D) (Ks:Knows Ag Ga D) (Z:ZF D) (C:PartF D) (Ko:Knows Ag Nw D) (Kfe:Knows Ag UW D) (Ka:Knows Ag PH D) (Kta:Knows Ag D9 D) (N:LexN D)
include Kfe Z Ka
theorem Ag5(vars:List ByteArray)(hvl:vars.length<4611686018427387904)(ms:List Mo)(hl:ms.length<=64)(r0:List (List AV))(r1:Bool)(r2:List (List AV)):∀(k i:Nat) (out:Lf),ms.length-i=k->i<=ms.length->OutB i out->
  D.ask (.lp 44 0) [.ls (vars.map eS),.ptr 0 0,.ptr 1 0,.ls (ms.map E9),iv (ms.length:Int),iv (i:Int)] [⟨[.ls r0,bv r1,.ls r2],true,false⟩,⟨[.sl 2 0 (out.ps.map A4).length 3,bv (Br out.k).neg,eN (Br out.k).abs],true,false⟩,IA (out.ps.map A4)]=some (Al1 r0 r1 r2 (Ew vars (ms.drop i) out)):=by
 intro k
 induction k with
 |zero=>
  intro i out hm hi ho;rw[Ark (by omega),Ew];refine Kfe.lp' Acd _ rfl (by kernel_rfl) ((AhB ..).trans ?_);exact Ak (by omega) rfl
 |succ k ih=>
  intro i out hm hi ho;have h1:i<ms.length:=by omega
  have hol:(out.ps.map A4).length<=i:=by have:=ho.len;simpa using this
  obtain⟨T,hT⟩:∃ T,T=Ew vars (ms.drop i) out:=⟨_,rfl⟩;rw[←hT];have hsg:=PC ms[i];have hoK:=ho.addK ms[i];have hoP:=λv=>ho.addP ms[i] v
  rw[Arf h1,Ew]at hT;refine Kfe.lp' Acd _ rfl (by kernel_rfl) ((AhB ..).trans ?_);refine Al (by omega) ?_;rw[Ax,AF (Ψ h1)];revert hT hsg hoK hoP;generalize ms[i]=m;obtain⟨mn,mu,mv⟩:=m;intro hT hsg hoK hoP;simp only[E9,ND,DK,Aa];simp only at hT;refine Ab (Z.of_ 1 (by omega) (by omega)) ?_;simp only[eZ,eN,ND,DK,Aa]
  by_cases hn:mu=Af []
  .refine DI hn ?_
   have en:Us ⟨mn,mu,mv⟩=1:=by unfold Us;rw[if_pos hn]
   cases mn with
   |true=>
    have es:L9 ⟨true,mu,mv⟩=-1:=by unfold L9;rw[en];rfl
    rw[es]at hT hsg hoK hoP;have gn:=Z.neg (Br 1) ((InB.lz (k:=1) (by unfold InB;decide)).mono (by omega));rw[Cj]at gn;refine Ad ?_;refine Ab gn ?_;simp only[eZ,eN,ND,DK,Aa]
    by_cases hv:mv=Af []
    .rw[if_pos hv]at hT
     have ga:=Z.add (Br out.k) (Br (-1)) (ho.k.lz.mono (by omega)) (hsg.lz.mono (by omega));rw[Cj,Cj]at ga;refine DI hv ?_;refine Ab ga ?_;simp only[eZ,eN,ND,DK,Aa];rw[Bo (by omega)];refine Ab (ih (i+1) _ (by omega) (by omega) hoK) ?_;rw[←hT];clear hT
     cases T<;>rfl
    .rw[if_neg hv]at hT
     refine(EQ hv).trans ?_;refine Ab (G4 Ka vars hvl mv) ?_;simp only[ND,DK,Aa]
     cases ev:vars.findIdx? (mv = ·) with
     |none=>
      rw[ev]at hT;have hT:T=none:=hT;rw[hT];refine Al (show (-1:Int)<0 by omega) ?_;rfl
     |some v=>
      rw[ev]at hT;have hT:T=Ew vars (ms.drop (i+1)) ⟨out.ps++[((v:Int),(-1))],out.k⟩:=hT;have hlt:=(ArT.1 ev).1;refine Ak (show ¬ ((v:Nat):Int)<0 by omega) ?_;have hf:Bc ((out.ps.map A4).length+1) 40=true:=AN (by omega) (by omega);have hb1:Arm (0+(out.ps.map A4).length*3) (Ao eP (out.ps.map A4)).length=true:=AT Av _ (by omega);have e3:ο 0 (ι (0+(out.ps.map A4).length*3) (Ao eP (out.ps.map A4)))++[iv (v:Int),bv (Br (-1)).neg,eN (Br (-1)).abs]=Ao eP ((out.ps++[((v:Int),((-1):Int))]).map A4):=by
       rw[υ,Bf Av _ (by omega),Atr];exact A9 eP (out.ps.map A4) (A4 ((v:Int),(-1)))
      simp only[eN]at e3;rw[hf];refine Ad ?_;rw[hb1];refine Ad ?_;simp only[CC];rw[e3,Bo (by omega)];have ih2:=ih (i+1) _ (by omega) (by omega) (hoP (v:Int));rw[show ((out.ps++[((v:Int),((-1):Int))]).map A4).length=(out.ps.map A4).length+1 by simp]at ih2;refine Ab ih2 ?_;rw[←hT];clear hT
      cases T<;>rfl
   |false=>
    have es:L9 ⟨false,mu,mv⟩=1:=by unfold L9;rw[en];rfl
    rw[es]at hT hsg hoK hoP;refine Bi ?_
    by_cases hv:mv=Af []
    .rw[if_pos hv]at hT
     have ga:=Z.add (Br out.k) (Br 1) (ho.k.lz.mono (by omega)) (hsg.lz.mono (by omega));rw[Cj,Cj]at ga;refine DI hv ?_;refine Ab ga ?_;simp only[eZ,eN,ND,DK,Aa];rw[Bo (by omega)];refine Ab (ih (i+1) _ (by omega) (by omega) hoK) ?_;rw[←hT];clear hT
     cases T<;>rfl
    .rw[if_neg hv]at hT
     refine(EQ hv).trans ?_;refine Ab (G4 Ka vars hvl mv) ?_;simp only[ND,DK,Aa]
     cases ev:vars.findIdx? (mv = ·) with
     |none=>
      rw[ev]at hT;have hT:T=none:=hT;rw[hT];refine Al (show (-1:Int)<0 by omega) ?_;rfl
     |some v=>
      rw[ev]at hT;have hT:T=Ew vars (ms.drop (i+1)) ⟨out.ps++[((v:Int),1)],out.k⟩:=hT;have hlt:=(ArT.1 ev).1;refine Ak (show ¬ ((v:Nat):Int)<0 by omega) ?_;have hf:Bc ((out.ps.map A4).length+1) 40=true:=AN (by omega) (by omega);have hb1:Arm (0+(out.ps.map A4).length*3) (Ao eP (out.ps.map A4)).length=true:=AT Av _ (by omega);have e3:ο 0 (ι (0+(out.ps.map A4).length*3) (Ao eP (out.ps.map A4)))++[iv (v:Int),bv (Br 1).neg,eN (Br 1).abs]=Ao eP ((out.ps++[((v:Int),(1:Int))]).map A4):=by
       rw[υ,Bf Av _ (by omega),Atr];exact A9 eP (out.ps.map A4) (A4 ((v:Int),1))
      simp only[eN]at e3;rw[hf];refine Ad ?_;rw[hb1];refine Ad ?_;simp only[CC];rw[e3,Bo (by omega)];have ih2:=ih (i+1) _ (by omega) (by omega) (hoP (v:Int));rw[show ((out.ps++[((v:Int),(1:Int))]).map A4).length=(out.ps.map A4).length+1 by simp]at ih2;refine Ab ih2 ?_;rw[←hT];clear hT
      cases T<;>rfl
  .refine(EQ hn).trans ?_
   have en:Us ⟨mn,mu,mv⟩=zv (KI mu).1:=by unfold Us;rw[if_neg hn]
   have gp:=Z.parse mu;have hz:=X7 mu;rw[Adu mu]at gp hz;generalize zv (KI mu).1=u at en gp hz;refine Ab gp ?_;simp only[eZ,eN,ND,DK,Aa]
   cases mn with
   |true=>
    have es:L9 ⟨true,mu,mv⟩=-u:=by unfold L9;rw[en];rfl
    rw[es]at hT hsg hoK hoP;have gn:=Z.neg (Br u) (hz.mono (by omega));rw[Cj]at gn;refine Ad ?_;refine Ab gn ?_;simp only[eZ,eN,ND,DK,Aa]
    by_cases hv:mv=Af []
    .rw[if_pos hv]at hT
     have ga:=Z.add (Br out.k) (Br (-u)) (ho.k.lz.mono (by omega)) (hsg.lz.mono (by omega));rw[Cj,Cj]at ga;refine DI hv ?_;refine Ab ga ?_;simp only[eZ,eN,ND,DK,Aa];rw[Bo (by omega)];refine Ab (ih (i+1) _ (by omega) (by omega) hoK) ?_;rw[←hT];clear hT
     cases T<;>rfl
    .rw[if_neg hv]at hT
     refine(EQ hv).trans ?_;refine Ab (G4 Ka vars hvl mv) ?_;simp only[ND,DK,Aa]
     cases ev:vars.findIdx? (mv = ·) with
     |none=>
      rw[ev]at hT;have hT:T=none:=hT;rw[hT];refine Al (show (-1:Int)<0 by omega) ?_;rfl
     |some v=>
      rw[ev]at hT;have hT:T=Ew vars (ms.drop (i+1)) ⟨out.ps++[((v:Int),(-u))],out.k⟩:=hT;have hlt:=(ArT.1 ev).1;refine Ak (show ¬ ((v:Nat):Int)<0 by omega) ?_;have hf:Bc ((out.ps.map A4).length+1) 40=true:=AN (by omega) (by omega);have hb1:Arm (0+(out.ps.map A4).length*3) (Ao eP (out.ps.map A4)).length=true:=AT Av _ (by omega);have e3:ο 0 (ι (0+(out.ps.map A4).length*3) (Ao eP (out.ps.map A4)))++[iv (v:Int),bv (Br (-u)).neg,eN (Br (-u)).abs]=Ao eP ((out.ps++[((v:Int),((-u):Int))]).map A4):=by
       rw[υ,Bf Av _ (by omega),Atr];exact A9 eP (out.ps.map A4) (A4 ((v:Int),(-u)))
      simp only[eN]at e3;rw[hf];refine Ad ?_;rw[hb1];refine Ad ?_;simp only[CC];rw[e3,Bo (by omega)];have ih2:=ih (i+1) _ (by omega) (by omega) (hoP (v:Int));rw[show ((out.ps++[((v:Int),((-u):Int))]).map A4).length=(out.ps.map A4).length+1 by simp]at ih2;refine Ab ih2 ?_;rw[←hT];clear hT
      cases T<;>rfl
   |false=>
    have es:L9 ⟨false,mu,mv⟩=u:=by unfold L9;rw[en];rfl
    rw[es]at hT hsg hoK hoP;refine Bi ?_
    by_cases hv:mv=Af []
    .rw[if_pos hv]at hT
     have ga:=Z.add (Br out.k) (Br u) (ho.k.lz.mono (by omega)) (hsg.lz.mono (by omega));rw[Cj,Cj]at ga;refine DI hv ?_;refine Ab ga ?_;simp only[eZ,eN,ND,DK,Aa];rw[Bo (by omega)];refine Ab (ih (i+1) _ (by omega) (by omega) hoK) ?_;rw[←hT];clear hT
     cases T<;>rfl
    .rw[if_neg hv]at hT
     refine(EQ hv).trans ?_;refine Ab (G4 Ka vars hvl mv) ?_;simp only[ND,DK,Aa]
     cases ev:vars.findIdx? (mv = ·) with
     |none=>
      rw[ev]at hT;have hT:T=none:=hT;rw[hT];refine Al (show (-1:Int)<0 by omega) ?_;rfl
     |some v=>
      rw[ev]at hT;have hT:T=Ew vars (ms.drop (i+1)) ⟨out.ps++[((v:Int),u)],out.k⟩:=hT;have hlt:=(ArT.1 ev).1;refine Ak (show ¬ ((v:Nat):Int)<0 by omega) ?_;have hf:Bc ((out.ps.map A4).length+1) 40=true:=AN (by omega) (by omega);have hb1:Arm (0+(out.ps.map A4).length*3) (Ao eP (out.ps.map A4)).length=true:=AT Av _ (by omega);have e3:ο 0 (ι (0+(out.ps.map A4).length*3) (Ao eP (out.ps.map A4)))++[iv (v:Int),bv (Br u).neg,eN (Br u).abs]=Ao eP ((out.ps++[((v:Int),(u:Int))]).map A4):=by
       rw[υ,Bf Av _ (by omega),Atr];exact A9 eP (out.ps.map A4) (A4 ((v:Int),u))
      simp only[eN]at e3;rw[hf];refine Ad ?_;rw[hb1];refine Ad ?_;simp only[CC];rw[e3,Bo (by omega)];have ih2:=ih (i+1) _ (by omega) (by omega) (hoP (v:Int));rw[show ((out.ps++[((v:Int),(u:Int))]).map A4).length=(out.ps.map A4).length+1 by simp]at ih2;refine Ab ih2 ?_;rw[←hT];clear hT
      cases T<;>rfl
include Kt Ks C Kta N in
theorem Yp(vars:List ByteArray)(hvl:vars.length<4611686018427387904)(ms:List Mo)(hm:∀ m∈ms,WzM m)(hl:ms.length<4611686018427387904) :
  D.ask (.fn 44) [.ls (ms.map E9),.ls (vars.map eS)] []=some (.tup [.agg (eT (E7 vars ms).1.tm),bv (E7 vars ms).2],[]):=by
 have gr:=GB Kta N ms hm hl;have e0:eT Oc.tm=[.ls [],bv false,.ls []]:=by rw[Wg];rfl
 refine Kfe.fn' Acd _ rfl ((e44 ..).trans ?_);refine Ab gr ?_;simp only[ND,DK,Aa];unfold E7
 cases hr:JE ms with
 |false=>
  refine Bi ?_;rw[if_neg (by simp),e0]
 |true=>
  have hlen:=(DH hr).2.1;have gl:=Ag5 Z Kfe Ka vars hvl ms hlen [] false [] _ 0 Oc rfl (by omega) Adq;rw[υ,show Br Oc.k=⟨false,[]⟩ from WY]at gl;refine Ad ?_;rw[if_pos rfl,Aw];refine Ab gl ?_
  cases e:Ew vars ms Oc with
  |none=>
   simp only;rw[e0];rfl
  |some l=>
   have ob:=Il vars ms 0 Oc l Adq e;have hT:TmB 64 4064 l.tm:=LB.tb ⟨by have:=ob.len;omega,λp hp=>(ob.ps p hp).mono (by omega),ob.k.mono (by omega)⟩;have gp:=E3 Kt Ks Z C hT (by omega) (by omega);rw[Fk]at gp;simp only[Al1,ND,DK,Aa]
   change br _ _ _=_
   rw[show Arm (0+(l.ps.map A4).length*3) (Ao eP (l.ps.map A4)).length=true from AT Av _ (by omega)];refine Ad ?_;rw[Cz Av _ rfl];refine Ab gp ?_;rfl
end
theorem PM:TmB 128 30000 Tm0:=by
 rw[←Wg];exact LB.tb ⟨by simp[Oc],by simp[Oc],InB.zero _⟩
theorem Qu(vars:List ByteArray):∀(n:Nat) (t:Tr) (d:Nat),SizeOf.sizeOf t<n->BS t d=true->CanF (Dd vars t).1/\FB 128 30000 (Dd vars t).1:=by
 intro n
 induction n with
 |zero=>intro t d h;omega
 |succ n ih=>
  intro t d hn h;have z0:CanF (kF 0 [])/\FB 128 30000 (kF 0 []):=⟨.tru true,.mk PM (by simp) (by simp)⟩;have z1:CanF (PO false)/\FB 128 30000 (PO false):=⟨.tru false,.mk PM (by simp) (by simp)⟩
  cases Ma h with
  |tt=>rw[Dd,if_neg (by decide),CH];exact z0
  |ff=>rw[Dd,if_neg (by decide),CH];exact z1
  |@cmp _ l r op hl hr h1 h2=>
   rw[Dd,if_pos rfl];exact⟨Aa4 _ _ _,Afu (Mi vars l) (Mi vars r) op⟩
  |@no _ x hd hx=>
   have g:=ih x _ (by simp only[Tr.mk.sizeOf_spec,List.cons.sizeOf_spec]at hn;omega) hx;rw[Dd,if_neg (by decide),CH,CH];split
   .exact z0
   .rename_i fs e
    split at e
    .cases e
     rw[if_neg (by decide),if_pos (.inl rfl)];exact⟨.no _ g.1,.mk PM (by simp) λy hy=>by rw[ArL.1 hy];exact g.2⟩
    .cases e
  |@bin _ k x y hk hd hx gd hy=>
   have g:=ih x _ (by simp only[Tr.mk.sizeOf_spec,List.cons.sizeOf_spec]at hn;omega) hx;have g2:=ih y _ (by simp only[Tr.mk.sizeOf_spec,List.cons.sizeOf_spec]at hn;omega) hy;rw[Dd,if_neg (by omega),CH,CH,CH];split
   .exact z0
   .rename_i fs e
    split at e
    .split at e
     .cases e
     .rename_i gs e2
      split at e2
      .cases e2
       cases e
       rw[if_neg (by omega),if_pos (by omega)];have fb:∀ z∈[(Dd vars x).1,(Dd vars y).1],FB 128 30000 z:=λz hz=>by
        rcases Arl.1 hz with rfl|hz
        .exact g.2
        .rw[ArL.1 hz];exact g2.2
       rcases hk with rfl|rfl
       .exact⟨.and _ (.cons g.1 (.cons g2.1 .nil)),.mk PM (by simp) fb⟩
       .exact⟨.or _ (.cons g.1 (.cons g2.1 .nil)),.mk PM (by simp) fb⟩
      .cases e2
    .cases e
def Qf(t:Tr)(y0:Int)(y1:List (List AV))(y2:Bool)(y3:List (List AV))(y4:Bool)(y5:List (List AV))(out:List Fm):Option (List Fm)->AV × List BO
 |none=>(.tup [bv true,.ptr 1 0,bv false],[.del,.set ⟨eF (kF 0 []),true,false⟩,.del])
 |some fs=>(.tup [iv 0,.ptr 0 0,.ptr 1 0,.sl 3 0 (out++fs).length 6],[.set (IB t),.set ⟨[iv y0,.ls y1,bv y2,.ls y3,bv y4,.ls y5],true,false⟩,.del,.set (U (Ao eF (out++fs)) true true)])
section
variable {D:Orc} (Kt:Knows Ag J4 D) (Kf:Knows Ag Nx D) (Ks:Knows Ag Ga D) (Z:ZF D) (C:PartF D) (Ko:Knows Ag Nw D) (Kfe:Knows Ag UW D) (Ka:Knows Ag PH D) (Kta:Knows Ag D9 D) (N:LexN D)
include Kfe
theorem AfP(vars:List ByteArray)(t:Tr)(ks:List Tr)(hl:ks.length<=2)(g:∀ x∈ks,D.ask (.fn 65) [.agg (Bq x),.ls (vars.map eS)] []=some (.tup [.agg (eF (Dd vars x).1),bv (Dd vars x).2],[]))(y0:Int)(y1:List (List AV))(y2:Bool)(y3:List (List AV))(y4:Bool)(y5:List (List AV)):∀(k i:Nat) (out:List Fm),ks.length-i=k->i<=ks.length->out.length<=i->
  D.ask (.lp 65 0) [.ls (vars.map eS),.ptr 0 0,.ptr 1 0,.sl 2 0 out.length 6,.ls (ks.map Bq),iv (ks.length:Int),iv (i:Int)] [IB t,⟨[iv y0,.ls y1,bv y2,.ls y3,bv y4,.ls y5],true,false⟩,U (Ao eF out) true true]=some (Qf t y0 y1 y2 y3 y4 y5 out (CH vars (ks.drop i))):=by
 intro k
 induction k with
 |zero=>
  intro i out hm hi ho;rw[Ark (by omega),CH];obtain⟨a1,a2,a3,a4,a5,a6,a7⟩:=t;refine Kfe.lp' Zc _ rfl (by kernel_rfl) ((AhE ..).trans ?_);refine Ak (by omega) ?_;simp only[Qf,Asa];rfl
 |succ k ih=>
  intro i out hm hi ho;have h1:i<ks.length:=by omega
  have gx:=g ks[i] (Ars h1);have ih:=λy=>ih (i+1) (out++[y]) (by omega) (by omega) (by simp;omega)
  have e3:∀ y,ο 0 (ι (0+out.length*6) (Ao eF out))++eF y=Ao eF (out++[y]):=λy=>by
   rw[υ,Bf FQ out (by omega)];exact A9 eF out _
  obtain⟨T,hT⟩:∃ T,T=CH vars (ks.drop i):=⟨_,rfl⟩;rw[←hT];rw[Arf h1,CH]at hT;obtain⟨a1,a2,a3,a4,a5,a6,a7⟩:=t;refine Kfe.lp' Zc _ rfl (by kernel_rfl) ((AhE ..).trans ?_);refine Al (by omega) ?_;rw[Ax,AF (Ψ h1)];revert gx hT;generalize ks[i]=x;intro gx hT;generalize Dd vars x=q at gx hT;obtain⟨y,b⟩:=q;have ih:=ih y;have e3:=e3 y;obtain⟨xk,xl,xr,xo,xp,xq,xs⟩:=x;obtain⟨yk,yt,ye,ys⟩:=y;simp only[Bq,eF,eN,ND,DK,Aa]at gx e3 ⊢;refine Ab gx ?_;simp only[ND,DK,Aa]
  cases b with
  |false=>
   have hT:T=none:=hT;rw[hT];refine Ad ?_;simp only[Qf,kF,eF];rfl
  |true=>
   have hT:T=(match CH vars (ks.drop (i+1)) with
    |none=>none
    |some fs=>some (Fm.mk yk yt ye ys::fs)):=hT
   refine Bi ?_;rw[show Bc (out.length+1) 96=true from AN (by omega) (by omega)];refine Ad ?_;rw[show Arm (0+out.length*6) (Ao eF out).length=true from AT FQ out (by omega)];refine Ad ?_;rw[e3,Bo (by omega)];rw[show (out++[Fm.mk yk yt ye ys]).length=out.length+1 by simp]at ih;unfold IB at ih;rw[Bq]at ih;refine Ab ih ?_
   cases e:CH vars (ks.drop (i+1)) with
   |none=>
    rw[e]at hT;rw[hT];rfl
   |some fs=>
    rw[e]at hT;rw[hT];simp only[Qf,Ari,Asq,IB,Bq];rfl
include Kt Kf Ks Z C Ko Ka Kta N in
theorem AfQ(vars:List ByteArray)(hvl:vars.length<4611686018427387904):∀(n:Nat) (t:Tr) (d:Nat),SizeOf.sizeOf t<n->BS t d=true->D.ask (.fn 65) [.agg (Bq t),.ls (vars.map eS)] []=some (.tup [.agg (eF (Dd vars t).1),bv (Dd vars t).2],[]):=by
 intro n
 induction n with
 |zero=>intro t d h;omega
 |succ n ih=>
  intro t d hn h
  have fin:∀(k:Int) (ks:List Tr),ks.length<=2->t=.mk k [] [] 0 (Af []) (Af []) ks->(∀ x∈ks,∃ d,SizeOf.sizeOf x<n/\BS x d=true)->(k=0/\ks=[]\/k=1/\ks=[]\/(k=3/\ks.length=1)\/k=4\/k=5)->D.ask (.fn 65) [.agg (Bq t),.ls (vars.map eS)] []=some (.tup [.agg (eF (Dd vars t).1),bv (Dd vars t).2],[]):=by
   intro k ks hl ht hx hk;have gl:=AfP Kfe vars t ks hl (λx hm=>by
    obtain⟨d,h1,h2⟩:=hx x hm;exact ih x d h1 h2) 0 [] false [] false [] _ 0 [] rfl (by omega) (by simp)
   rw[υ]at gl;have hgood:∀ fs,CH vars ks=some fs->fs.map BV=fs/\∀ y∈fs,FB 128 30000 y:=by
    clear gl ht hk hl;intro fs
    induction ks generalizing fs with
    |nil=>intro e;rw[CH]at e;cases e;exact⟨rfl,by simp⟩
    |cons x r ihr=>
     intro e;rw[CH]at e;split at e
     .split at e
      .cases e
      .rename_i gs e2
       cases e
       obtain⟨d,h1,h2⟩:=hx x (List.mem_cons_self ..);have g:=Qu vars _ x d (ArB _) h2;obtain⟨g1,g2⟩:=ihr (λy hy=>hx y (Arw _ hy)) gs e2;refine⟨by rw[Arz,g.1.clone,g1],λy hy=>?_⟩;rcases Arl.1 hy with rfl|hy
       .exact g.2
       .exact g2 y hy
     .cases e
   have hfl:∀ fs,CH vars ks=some fs->fs.length=ks.length:=by
    clear gl ht hk hl hgood;intro fs
    induction ks generalizing fs with
    |nil=>intro e;rw[CH]at e;cases e;rfl
    |cons x r ihr=>
     intro e;rw[CH]at e;split at e
     .split at e
      .cases e
      .rename_i gs e2
       cases e
       rw[ν,ν,ihr (λy hy=>hx y (Arw _ hy)) gs e2]
     .cases e
   subst ht;have hk2:k≠2:=by omega
   unfold IB at gl;rw[Bq,BW]at gl;refine Kfe.fn' Zc _ rfl ((e65 ..).trans ?_);refine Ap hk2 ?_;rw[BW,Aw];rw[Dd,if_neg hk2];refine Ab gl ?_
   cases e:CH vars ks with
   |none=>
    simp only[Qf,kF,eF];rfl
   |some fs=>
    obtain⟨g1,g2⟩:=hgood fs e;have g3:=hfl fs e;have hch:BC ([]++fs).length 6 (ι (([]++fs).length*6) (Ao eF ([]++fs)))=fs.map eF:=by
     rw[Arx];exact Cz FQ fs rfl
    have hble:Arm (0+([]++fs).length*6) (Ao eF ([]++fs)).length=true:=by
     rw[Arx];exact AT FQ fs (by omega)
    have hb:IB (.mk k [] [] 0 (Af []) (Af []) ks)=U [iv k,.ls ([]:List (List AV)),.ls ([]:List (List AV)),iv 0,sv (Af []),sv (Af []),.ls (ks.map Bq)] true false:=by
     unfold IB;rw[Bq,BW];rfl
    simp only[Qf];rw[hb];simp only[ND,DK,Aa]
    by_cases h0:k=0
    .rw[if_pos h0]
     refine As h0 ?_;refine Ab (Hj Ko true) ?_;rfl
    rw[if_neg h0];refine Ap h0 ?_
    by_cases h3:k=3
    .rw[if_pos (.inl h3)]
     refine As h3 ?_;have hl1:fs.length=1:=by
      rw[g3];rcases hk with h|h|h|h|h
      .omega
      .omega
      .exact h.2
      .omega
      .omega
     match fs,hl1,g1,g2 with
     |[y],_,g1,g2=>
      have gd:=Xg Kt Ks Z C Ko (n:=128) (k:=30000) (by omega) (by omega) (g2 y (List.mem_singleton_self _));have g1:BV y=y:=by simpa using g1
      rw[g1]at gd;refine Ad ?_;refine(Bn FQ [y] 0 (by simp) _).trans ?_;rw[h3]
      show _=some (AV.tup [AV.agg (eF (kF 3 [y])),bv true],[])
      have e0:([y]:List Fm)[0]=y:=rfl;rw[e0];obtain⟨yk,yt,ye,ys⟩:=y;simp only[eF,eN,ND,DK,Aa]at gd ⊢;refine Ab gd ?_;unfold kF;rw[eF,eFs,eFs,eF];rfl
    refine Ap h3 ?_
    by_cases h4:k=4
    .rw[if_pos (.inr (.inl h4)),h4]
     have ga:=AeW Kt Ks Z C Ko (n:=128) (k:=30000) (by omega) (by omega) (l:=fs) (by omega) g2;rw[g1]at ga;refine As rfl ?_;rw[hble];refine Ad ?_;rw[hch];refine Ab ga ?_;unfold kF;rw[eF];rfl
    refine Ap h4 ?_
    by_cases h5:k=5
    .rw[if_pos (.inr (.inr h5)),h5]
     have ga:=Afj Kt Ks Z C Ko (n:=128) (k:=30000) (by omega) (by omega) (l:=fs) (by omega) g2;rw[g1]at ga;refine As rfl ?_;rw[hble];refine Ad ?_;rw[hch];refine Ab ga ?_;unfold kF;rw[eF];rfl
    rw[if_neg (by omega)];refine Ap h5 ?_;refine Ab (Hj Ko false) ?_;rfl
  cases Ma h with
  |tt=>exact fin 0 [] (by simp) rfl (by simp) (.inl ⟨rfl,rfl⟩)
  |ff=>exact fin 1 [] (by simp) rfl (by simp) (.inr (.inl ⟨rfl,rfl⟩))
  |@no _ x hd hx=>
   exact fin 3 [x] (by simp) rfl (λy hy=>by
    rw[ArL.1 hy];exact⟨_,by simp only[Tr.mk.sizeOf_spec,List.cons.sizeOf_spec]at hn;omega,hx⟩) (.inr (.inr (.inl ⟨rfl,rfl⟩)))
  |@bin _ k x y hk hd hx gd hy=>
   exact fin k [x,y] (by simp) rfl (λz hz=>by
    simp only[Tr.mk.sizeOf_spec,List.cons.sizeOf_spec]at hn;rcases Arl.1 hz with rfl|hz
    .exact⟨_,by omega,hx⟩
    .rw[ArL.1 hz]
     exact⟨_,by omega,hy⟩) (by omega)
  |@cmp _ l r op hl hr h1 h2=>
   have gl:=Yp Kt Ks Z C Kfe Ka Kta N vars hvl l (J1 hl).2 (J1 hl).1;have gr:=Yp Kt Ks Z C Kfe Ka Kta N vars hvl r (J1 hr).2 (J1 hr).1;have gc:=Afv Kt Kf Ks Z C Ko (Mi vars l).tb (Mi vars r).tb op;rw[Fk,Fk]at gc;rw[Dd,if_pos rfl];refine Kfe.fn' Zc _ rfl ((e65 ..).trans ?_);refine As rfl ?_;refine Ab gl ?_;simp only[eT,eN,ND,DK,Aa];refine Ab gr ?_;simp only[eT,eN,ND,DK,Aa];refine Ab gc ?_;generalize S4 op (E7 vars l).1 (E7 vars r).1=y;obtain⟨yk,yt,ye,ys⟩:=y;rw[eF]
   cases (E7 vars l).2<;>cases (E7 vars r).2<;>rfl
def Gr(vars:List ByteArray)(t:Tr):Fm × Bool:=if BS t 0&&(Dd vars t).2 then((Dd vars t).1,true) else(PO false,false)
include Kt Kf Ks Z C Ko Ka Kta N in
theorem AeN(vars:List ByteArray)(hvl:vars.length<4611686018427387904)(t:Tr)(hz:WzT t):D.ask (.fn 27) [.agg (Bq t),.ls (vars.map eS)] []=some (.tup [.agg (eF (Gr vars t).1),bv (Gr vars t).2],[]):=by
 have gr:=AaI Kta N t hz;have gf:=λh=>AfQ Kt Kf Ks Z C Ko Kfe Ka Kta N vars hvl _ t 0 (ArB _) h
 have gt:=Hj Ko false;unfold Gr;obtain⟨q,hq⟩:∃ q,q=Dd vars t:=⟨_,rfl⟩;rw[←hq]at gf ⊢;obtain⟨f,b⟩:=q;obtain⟨fk,ft,fe,fs⟩:=f;obtain⟨tk,tl,tr,to,tp,tq,ts⟩:=t;refine Kfe.fn' Amu _ rfl ((e27 ..).trans ?_)
 cases hr:BS (.mk tk tl tr to tp tq ts) 0 with
 |false=>
  rw[hr]at gr;simp only[Bq,eN,ND,DK,Aa]at gr ⊢;refine Ab gr ?_;simp only[ND,DK,Aa];refine Ab gt ?_;rfl
 |true=>
  rw[hr]at gr;have gf:=gf hr;simp only[Bq,eF,eN,ND,DK,Aa]at gr gf ⊢;refine Ab gr ?_;simp only[ND,DK,Aa];refine Ab gf ?_;simp only[ND,DK,Aa]
  cases b with
  |true=>
   refine Bi ?_;simp only[Bool.and_self,if_true];rw[eF];rfl
  |false=>
   refine Ad ?_;refine Ab gt ?_;rfl
end
structure Pp where
 here:Bool
 proc:Int
 loc:Int
 f:Fm
def ME(p:Pp):List AV:=bv p.here::iv p.proc::iv p.loc::eF p.f
theorem La(p:Pp):(ME p).length=9:=by
 unfold ME;rw[ν,ν,ν,FQ]
inductive Rf where
 |mk (kind num:Int) (kids:List Rf)
mutual
def eG:Rf->List AV
 |.mk k n ks=>[iv k,iv n,.ls (eGs ks)]
def eGs:List Rf->List (List AV)
 |[]=>[]
 |x::r=>eG x::eGs r
end
theorem R0:∀ l,eGs l=l.map eG
 |[]=>rfl
 |x::r=>by simp[eGs,R0 r]
theorem MD(x:Rf):(eG x).length=3:=by
 obtain⟨k,n,ks⟩:=x;rw[eG];rfl
structure PpOk (p:Pp):Prop where
 can:CanF p.f
 fb:FB 128 30000 p.f
def Iy(p q:Pp):Bool:=p.here == q.here&&decide (p.proc=q.proc)&&decide (p.loc=q.loc)&&eqF p.f q.f
def F0:Fm:=PO true
def P0:Pp:=⟨false,0,0,F0⟩
theorem AlW:FB 128 30000 F0:=by
 refine .mk ?_ (by simp) (by simp);refine⟨by simp[Tm0],by simp[Tm0],?_⟩;exact⟨C0,by simp[Tm0]⟩
theorem Ahq{h:Bool}{a b:Int}:PpOk ⟨h,a,b,F0⟩:=⟨CanF.tru true,AlW⟩
def Fb(y:Sy)(p q:ByteArray):Pp × Bool:=match (y.ps.map (·.name)).findIdx? (p = ·) with
 |none=>(P0,false)
 |some i=>(⟨true,(i:Int),CC (((y.ps[i]?.map (·.locs)).getD []).findIdx? (q = ·)),F0⟩,decide (0<=CC (((y.ps[i]?.map (·.locs)).getD []).findIdx? (q = ·))))
def Ds(y:Sy):Tr->Pp × Bool
 |.mk k l r op p q ks=>if k=6 then Fb y p q else(⟨false,0,0,(Gr y.vars (.mk k l r op p q ks)).1⟩,(Gr y.vars (.mk k l r op p q ks)).2)
theorem VS(vars:List ByteArray)(t:Tr):CanF (Gr vars t).1/\FB 128 30000 (Gr vars t).1:=by
 unfold Gr;split
 .rename_i h
  exact Qu vars _ t 0 (ArB _) (by simp only[Bool.and_eq_true]at h;exact h.1)
 .refine⟨.tru false,.mk ?_ (by simp) (by simp)⟩
  exact⟨by simp[Tm0],by simp[Tm0],⟨C0,by simp[Tm0]⟩⟩
theorem SV(y:Sy)(t:Tr):PpOk (Ds y t).1:=by
 obtain⟨k,l,r,op,p,q,ks⟩:=t;rw[Ds];split
 .unfold Fb
  split
  .exact Ahq
  .exact Ahq
 .have h:=VS y.vars (.mk k l r op p q ks)
  exact⟨h.1,h.2⟩
def Adh(ps:List Pp)(p:Pp):Int:=match ps.findIdx? (Iy p) with
 |some i=>(i:Int)
 |none=>(ps.length:Int)
def NI(ps:List Pp)(p:Pp):List Pp:=match ps.findIdx? (Iy p) with
 |some _=>ps
 |none=>ps++[p]
mutual
def C1(y:Sy):Tr->List Pp->Option Rf × List Pp
 |.mk k l r op p q ks,ps=>if k=2\/k=6 then(if(Ds y (.mk k l r op p q ks)).2=true then(some (.mk 2 (Adh ps (Ds y (.mk k l r op p q ks)).1) []),NI ps (Ds y (.mk k l r op p q ks)).1) else(none,ps)) else((CQ y ks ps).1.map (.mk k 0),(CQ y ks ps).2)
def CQ(y:Sy):List Tr->List Pp->Option (List Rf) × List Pp
 |[],ps=>(some [],ps)
 |x::r,ps=>match (C1 y x ps).1 with
  |none=>(none,(C1 y x ps).2)
  |some f=>((CQ y r (C1 y x ps).2).1.map (f::·),(CQ y r (C1 y x ps).2).2)
end
theorem Fq(y:Sy)(k:Int)(l r:List Mo)(op:Int)(p q:ByteArray)(ks:List Tr)(ps:List Pp):C1 y (.mk k l r op p q ks) ps=if k=2\/k=6 then(if(Ds y (.mk k l r op p q ks)).2=true then(some (.mk 2 (Adh ps (Ds y (.mk k l r op p q ks)).1) []),NI ps (Ds y (.mk k l r op p q ks)).1) else(none,ps)) else((CQ y ks ps).1.map (.mk k 0),(CQ y ks ps).2):=by
 rw[C1]
theorem F8(y:Sy)(x:Tr)(r:List Tr)(ps:List Pp):CQ y (x::r) ps=match (C1 y x ps).1 with
  |none=>(none,(C1 y x ps).2)
  |some f=>((CQ y r (C1 y x ps).2).1.map (f::·),(CQ y r (C1 y x ps).2).2):=by
 rw[CQ]
mutual
def ID:Tr->Nat
 |.mk _ _ _ _ _ _ ks=>Iu ks+1
def Iu:List Tr->Nat
 |[]=>0
 |x::r=>ID x+Iu r
end
theorem AaK(ps:List Pp)(p:Pp):(NI ps p).length<=ps.length+1:=by
 unfold NI;split<;>simp
theorem AeR{ps:List Pp}{p:Pp}(h:∀ x∈ps,PpOk x)(hp:PpOk p):∀ x∈NI ps p,PpOk x:=by
 unfold NI;split
 .exact h
 .intro x hx
  rcases ArN.1 hx with hx|hx
  .exact h x hx
  .rcases ArL.1 hx with rfl
   exact hp
mutual
theorem Rb(y:Sy):∀(t:Tr) (ps:List Pp),(∀ x∈ps,PpOk x)->(C1 y t ps).2.length<=ps.length+ID t/\∀ x∈(C1 y t ps).2,PpOk x
 |.mk k l r op p q ks,ps,h=>by
  rw[Fq,ID];split
  .split
   .have:=AaK ps (Ds y (.mk k l r op p q ks)).1
    exact⟨by show (NI _ _).length<=_;omega,AeR h (SV y _)⟩
   .exact⟨by show ps.length<=_;omega,h⟩
  .have g:=Pq y ks ps h
   exact⟨by show (CQ y ks ps).2.length<=_;omega,g.2⟩
theorem Pq(y:Sy):∀(ks:List Tr) (ps:List Pp),(∀ x∈ps,PpOk x)->(CQ y ks ps).2.length<=ps.length+Iu ks/\∀ x∈(CQ y ks ps).2,PpOk x
 |[],ps,h=>⟨by rw[CQ];simp[Iu],by rw[CQ];exact h⟩
 |x::r,ps,h=>by
  have g1:=Rb y x ps h;have g2:=Pq y r (C1 y x ps).2 g1.2;rw[F8,Iu];split
  .exact⟨by show (C1 y x ps).2.length<=_;omega,g1.2⟩
  .exact⟨by show (CQ y r (C1 y x ps).2).2.length<=_;omega,g2.2⟩
end
structure ResF (D:Orc):Prop where
 form:∀(vars:List ByteArray) (t:Tr),vars.length<4611686018427387904->WzT t->D.ask (.fn 27) [.agg (Bq t),.ls (vars.map eS)] []=some (.tup [.agg (eF (Gr vars t).1),bv (Gr vars t).2],[])
 same:∀ x y:Fm,CanF x->CanF y->FB 128 30000 x->FB 128 30000 y->D.ask (.fn 233) [.agg (eF x),.agg (eF y)] []=some (bv (eqF x y),[])
 index:∀(xs:List ByteArray) (s:ByteArray),xs.length<4611686018427387904->D.ask (.fn 88) [.ls (xs.map eS),sv s] []=some (iv (CC (xs.findIdx? (s = ·))),[])
 procs:∀ y:Sy,y.ps.length<=1000000->D.ask (.fn 232) [.agg (JV y)] []=some (.ls ((y.ps.map (·.name)).map eS),[])
 right:∀ t:Tr,WzT t->WzP t->D.ask (.fn 36) [.agg (Bq t)] []=some (bv (AU t 0),[])
def Yc(y:Sy)(b n:Nat):ABlk:=U (JV y++[.sl b 0 n 9]) true false
def rbN(y:Sy):ABlk:=U (JV y++[.v (.slice none 0 0)]) true false
def J2(ps:List Pp):ABlk:=U (Ao ME ps) true true
def YN(p:Pp):ABlk:=U (ME p) true false
theorem Do(h:Bool)(a b k:Int)(t:Tm)(e:Bool)(ks:List Fm):ME ⟨h,a,b,.mk k t e ks⟩=[bv h,iv a,iv b,iv k,.ls (t.ps.map eP),bv t.k.neg,eN t.k.abs,bv e,.ls (eFs ks)]:=by
 unfold ME;rw[eF]
section
variable {D:Orc} (K:Knows FX PI D) (R:ResF D)
include K R
theorem AdT{p q:Pp}(hp:PpOk p)(hq:PpOk q):D.ask (.fn 191) [.agg (ME p),.agg (ME q)] []=some (bv (Iy p q),[]):=by
 have g:=R.same p.f q.f hp.can hq.can hp.fb hq.fb;obtain⟨a,b,c,f⟩:=p;obtain⟨a',b',c',f'⟩:=q;obtain⟨k,t,e,ks⟩:=f;obtain⟨k',t',e',ks'⟩:=f';simp only[Do,eF,eN]at g ⊢;unfold Iy;refine K.fn' Aij _ rfl ((Aph ..).trans ?_)
 by_cases h1:a=a'
 .subst h1
  rw[show Ah.beq a a=true by cases a<;>rfl];refine Ad ?_
  by_cases h2:b=b'
  .refine As h2 ?_
   by_cases h3:c=c'
   .refine As h3 ?_
    refine Ab g ?_;simp only[ND,DK,Aa];rw[beq_self_eq_true,decide_eq_true h2,decide_eq_true h3,Arq,Arq,Arq]
    cases eqF (.mk k t e ks) (.mk k' t' e' ks')<;>rfl
   .refine Ap h3 ?_
    rw[decide_eq_false h3];simp
  .refine Ap h2 ?_
   rw[decide_eq_false h2];simp
 .rw[show Ah.beq a a'=false by cases a<;>cases a'<;>first|rfl|exact absurd rfl h1]
  refine Bi ?_;rw[show (a == a')=false by cases a<;>cases a'<;>first|rfl|exact absurd rfl h1];rfl
theorem Ags{p q:Pp}(hp:PpOk p)(hq:PpOk q):D.ask (.fn 190) [.agg (ME q),.ptr 0 0] [YN p]=some (bv (Iy p q),[.keep]):=by
 have g:=AdT K R hp hq;obtain⟨a,b,c,f⟩:=p;obtain⟨a',b',c',f'⟩:=q;obtain⟨k,t,e,ks⟩:=f;obtain⟨k',t',e',ks'⟩:=f';unfold YN;simp only[Do,eN]at g ⊢;refine K.fn' Aii _ rfl ((Apg ..).trans ?_);refine Ab g ?_;simp only[ND,DK,Aa]
 cases Iy ⟨a,b,c,.mk k t e ks⟩ ⟨a',b',c',.mk k' t' e' ks'⟩<;>rfl
def fnQ(b:Nat):AV:=.fn (.func 190) [] [.ptr b 0]
theorem AfY{ps:List Pp}{p:Pp}(hl:ps.length<=1000000)(hps:∀ x∈ps,PpOk x)(hp:PpOk p):∀(m i:Nat),ps.length-i=m->i<=ps.length->D.ask (.lp 189 0) [.sl 0 0 ps.length 9,fnQ 1,iv (ps.length:Int),iv (i:Int)] [J2 ps,YN p]
   = some (match (ps.drop i).findIdx? (Iy p) with|some j=>.tup [bv true,.sl 0 0 ps.length 9,iv ((i+j:Nat):Int)] | none=>.tup [iv 0,.sl 0 0 ps.length 9],[.set (J2 ps),.keep]):=by
 intro m
 induction m with
 |zero=>
  intro i hm hi;rw[Ark (by omega)];obtain⟨a,b,c,k,t,e,ks⟩:=p;unfold YN J2 fnQ;rw[Do];refine K.lp' Tz _ rfl (by kernel_rfl) ((Xi ..).trans ?_);exact Ak (by omega) rfl
 |succ m ih=>
  intro i hm hi;have h1:i<ps.length:=by omega
  have g:=Ags K R hp (hps _ (Ars h1));have ih:=ih (i+1) (by omega) (by omega);rw[Arf h1,List.findIdx?_cons];have r1:=λk:List AV->KR=>Bn La ps i h1 k
  revert g r1;generalize ps[i]=q;intro g r1;obtain⟨a,b,c,f⟩:=p;obtain⟨k,t,e,ks⟩:=f;obtain⟨a',b',c',f'⟩:=q;obtain⟨k',t',e',ks'⟩:=f';unfold YN J2 fnQ at *;simp only[Do,eN]at g ih r1 ⊢;refine K.lp' Tz _ rfl (by kernel_rfl) ((Xi ..).trans ?_);refine Al (by omega) ?_;rw[Ax,AS h1];refine Ad ?_;refine(r1 _).trans ?_;simp only[ND,DK,Aa];refine Ab g ?_;simp only[ND,DK,Aa]
  cases Iy ⟨a,b,c,.mk k t e ks⟩ ⟨a',b',c',.mk k' t' e' ks'⟩ with
  |true=>
   refine Ad ?_;rfl
  |false=>
   refine Bi ?_;rw[Bo (by omega)];refine Ab ih ?_;simp only[Bool.false_eq_true,if_false]
   cases h:(ps.drop (i+1)).findIdx? (Iy ⟨a,b,c,.mk k t e ks⟩) with
   |none=>rfl
   |some j=>
    simp only[Arp,show i+(j+1)=i+1+j by omega];rfl
def Aql:Option Nat->Int
 |some j=>(j:Int)
 |none=>-1
theorem AfZ{ps:List Pp}{p:Pp}(hl:ps.length<=1000000)(hps:∀ x∈ps,PpOk x)(hp:PpOk p):D.ask (.fn 189) [.sl 0 0 ps.length 9,fnQ 1] [J2 ps,YN p]=some (iv (Aql (ps.findIdx? (Iy p))),[.set (J2 ps),.keep]):=by
 have g:=AfY K R hl hps hp _ 0 rfl (by omega);rw[υ]at g;obtain⟨a,b,c,f⟩:=p;obtain⟨k,t,e,ks⟩:=f;unfold YN J2 fnQ at *;simp only[Do,eN]at g ⊢;refine K.fn' Tz _ rfl ((Amh ..).trans ?_);refine Ab g ?_
 cases ps.findIdx? (Iy ⟨a,b,c,.mk k t e ks⟩) with
 |none=>rfl
 |some j=>
  simp only[Nat.zero_add];rfl
theorem Acl(p:Pp):D.ask (.fn 189) [.v (.slice none 0 0),fnQ 0] [YN p]=some (iv (-1),[.keep]):=by
 have g:D.ask (.lp 189 0) [.v (.slice none 0 0),fnQ 0,iv 0,iv 0] [YN p]=some (.tup [iv 0,.v (.slice none 0 0)],[.keep]):=by
  obtain⟨a,b,c,f⟩:=p;obtain⟨k,t,e,ks⟩:=f;unfold YN fnQ;simp only[Do,eN];refine K.lp' R8 _ rfl (by kernel_rfl) ((AfF ..).trans ?_);exact Ak (by omega) rfl
 obtain⟨a,b,c,f⟩:=p;obtain⟨k,t,e,ks⟩:=f;unfold YN fnQ at *;simp only[Do,eN]at g ⊢;refine K.fn' R8 _ rfl ((Amg ..).trans ?_);refine Ab g ?_;rfl
end
theorem Cb(y:Sy)(b n:Nat):Yc y b n=U [.ls (y.vars.map eS),.ls y.s2,iv y.s3,.ls y.s4,bv y.s5,.ls y.s6,bv y.s7,.ls y.s8,.ls (y.ps.map R1),.ls y.s10,.sl b 0 n 9] true false:=rfl
theorem Pk(y:Sy):rbN y=U [.ls (y.vars.map eS),.ls y.s2,iv y.s3,.ls y.s4,bv y.s5,.ls y.s6,bv y.s7,.ls y.s8,.ls (y.ps.map R1),.ls y.s10,.v (.slice none 0 0)] true false:=rfl
structure SyB (y:Sy):Prop where
 vars:y.vars.length<4611686018427387904
 ps:y.ps.length<=1000000
 locs:∀ p∈y.ps,p.locs.length<4611686018427387904
theorem Ahs(h:Bool)(a b:Int):ME ⟨h,a,b,F0⟩=[bv h,iv a,iv b,iv 0,.ls [],bv false,.ls [],bv false,.ls []]:=rfl
section
variable {D:Orc} (K:Knows FX PI D) (R:ResF D)
include K R
theorem Adk(y:Sy){ps:List Pp}{p:Pp}(hl:ps.length<=1000000)(hps:∀ x∈ps,PpOk x)(hp:PpOk p):D.ask (.fn 130) [.ptr 0 0,.agg (ME p)] [Yc y 1 ps.length,J2 ps]=some (iv (Adh ps p),[.set (Yc y 2 (NI ps p).length),.del,.set (J2 (NI ps p))]):=by
 have g:=AfZ K R hl hps hp;have hf:Bc (ps.length+1) 120=true:=AN (by omega) (by omega);have hb1:Arm (0+ps.length*9) (Ao ME ps).length=true:=AT La ps (by omega);have e3:ο 0 (ι (0+ps.length*9) (Ao ME ps))++ME p=Ao ME (ps++[p]):=by
  rw[υ,Bf La ps (by omega)];exact A9 ME ps _
 unfold Adh NI;revert g e3;generalize ps.findIdx? (Iy p)=o;intro g e3;obtain⟨a,b,c,f⟩:=p;obtain⟨k,t,e,ks⟩:=f;rw[Cb,Cb];unfold YN J2 fnQ at *;simp only[Do,eN]at g e3 ⊢;refine K.fn' Ab7 _ rfl ((Amc ..).trans ?_);refine Ab g ?_;simp only[ND,DK,Aa]
 cases o with
 |none=>
  refine Al (by show (-1:Int)<0;decide) ?_;rw[hf];refine Ad ?_;rw[hb1];refine Ad ?_;rw[e3,List.length_append];rfl
 |some j=>
  refine Ak (by show ¬ (j:Int)<0;omega) ?_;rfl
theorem Adj(y:Sy)(p:Pp):D.ask (.fn 130) [.ptr 0 0,.agg (ME p)] [rbN y]=some (iv (Adh [] p),[.set (Yc y 1 (NI [] p).length),.set (J2 (NI [] p))]):=by
 have g:=Acl K R p;obtain⟨a,b,c,f⟩:=p;obtain⟨k,t,e,ks⟩:=f;rw[Cb,Pk];unfold YN J2 fnQ at *;simp only[Do,eN]at g ⊢;refine K.fn' Ab6 _ rfl ((Amb ..).trans ?_);refine Ab g ?_;simp only[ND,DK,Aa];refine Al (by decide) ?_
 show _=some (iv 0,[BO.set (U _ true false),BO.set (U (Ao ME [⟨a,b,c,.mk k t e ks⟩]) true true)])
 rw[show Ao ME [⟨a,b,c,.mk k t e ks⟩]=ME ⟨a,b,c,.mk k t e ks⟩ by simp[Ao],Do];rfl
theorem Agz{y:Sy}(B:SyB y)(k:Int)(l r:List Mo)(op:Int)(p q:ByteArray)(ks:List Tr)(n:Nat)(c:List AV):D.ask (.fn 188) [.ptr 0 0,.agg (Bq (.mk k l r op p q ks))] [Yc y 1 n,U c true true]=some (.tup [.agg (ME (Fb y p q).1),bv (Fb y p q).2],[.keep,.keep]):=by
 have g1:=R.procs y B.ps;have g2:=R.index (y.ps.map (·.name)) p (by rw[ArA];have:=B.ps;omega);rw[show JV y=[.ls (y.vars.map eS),.ls y.s2,iv y.s3,.ls y.s4,bv y.s5,.ls y.s6,bv y.s7,.ls y.s8,.ls (y.ps.map R1),.ls y.s10] from rfl]at g1;rw[Cb];rw[Bq];refine K.fn' Xq _ rfl ((Amf ..).trans ?_);refine Ab g1 ?_;simp only[ND,DK,Aa];refine Ab g2 ?_;simp only[ND,DK,Aa];unfold Fb
 cases h:(y.ps.map (·.name)).findIdx? (p = ·) with
 |none=>
  refine Al (by show (-1:Int)<0;decide) ?_;rfl
 |some i=>
  obtain⟨hi,_⟩:=ArT.1 h;rw[ArA]at hi;refine Ak (by show ¬ (i:Int)<0;omega) ?_
  show unI (i:Int) _=_
  rw[Ax,AF (Ψ hi)];have g3:=R.index y.ps[i].locs q (B.locs _ (Ars hi));simp only[Ψ hi,Arp,Atm];revert g3;generalize y.ps[i]=pr;intro g3;obtain⟨nm,lc,cm⟩:=pr;simp only[R1,ND,DK,Aa];refine Ab g3 ?_;simp only[ND,DK,Aa,Ahs]
  by_cases h0:(0:Int)<=CC (lc.findIdx? (q = ·))
  .refine Dp h0 ?_
   rw[decide_eq_true h0];rfl
  .refine DP h0 ?_
   rw[decide_eq_false h0];rfl
theorem Agy{y:Sy}(B:SyB y)(k:Int)(l r:List Mo)(op:Int)(p q:ByteArray)(ks:List Tr):D.ask (.fn 188) [.ptr 0 0,.agg (Bq (.mk k l r op p q ks))] [rbN y]=some (.tup [.agg (ME (Fb y p q).1),bv (Fb y p q).2],[.keep]):=by
 have g1:=R.procs y B.ps;have g2:=R.index (y.ps.map (·.name)) p (by rw[ArA];have:=B.ps;omega);rw[show JV y=[.ls (y.vars.map eS),.ls y.s2,iv y.s3,.ls y.s4,bv y.s5,.ls y.s6,bv y.s7,.ls y.s8,.ls (y.ps.map R1),.ls y.s10] from rfl]at g1;rw[Pk];rw[Bq];refine K.fn' Xq _ rfl ((Ame ..).trans ?_);refine Ab g1 ?_;simp only[ND,DK,Aa];refine Ab g2 ?_;simp only[ND,DK,Aa];unfold Fb
 cases h:(y.ps.map (·.name)).findIdx? (p = ·) with
 |none=>
  refine Al (by show (-1:Int)<0;decide) ?_;rfl
 |some i=>
  obtain⟨hi,_⟩:=ArT.1 h;rw[ArA]at hi;refine Ak (by show ¬ (i:Int)<0;omega) ?_
  show unI (i:Int) _=_
  rw[Ax,AF (Ψ hi)];have g3:=R.index y.ps[i].locs q (B.locs _ (Ars hi));simp only[Ψ hi,Arp,Atm];revert g3;generalize y.ps[i]=pr;intro g3;obtain⟨nm,lc,cm⟩:=pr;simp only[R1,ND,DK,Aa];refine Ab g3 ?_;simp only[ND,DK,Aa,Ahs]
  by_cases h0:(0:Int)<=CC (lc.findIdx? (q = ·))
  .refine Dp h0 ?_
   rw[decide_eq_true h0];rfl
  .refine DP h0 ?_
   rw[decide_eq_false h0];rfl
theorem Akv{y:Sy}(B:SyB y)(t:Tr)(hz:WzT t)(n:Nat)(c:List AV):D.ask (.fn 129) [.ptr 0 0,.agg (Bq t)] [Yc y 1 n,U c true true]=some (.tup [.agg (ME (Ds y t).1),bv (Ds y t).2],[.keep,.keep]):=by
 have gf:=R.form y.vars t B.vars hz;obtain⟨k,l,r,op,p,q,ks⟩:=t;have gp:=Agz K R B k l r op p q ks n c;rw[Ds];rw[Cb]at gp ⊢;rw[Bq]at gp gf ⊢;refine K.fn' Ab5 _ rfl ((Ama ..).trans ?_)
 by_cases h:k=6
 .refine As h ?_
  rw[if_pos h];refine Ab gp ?_;generalize Fb y p q=x;obtain⟨⟨a,b,c,k',t',e',ks'⟩,z⟩:=x;simp only[Do,ND,DK,Aa];rfl
 .refine Ap h ?_
  rw[if_neg h];refine Ab gf ?_;generalize Gr y.vars (.mk k l r op p q ks)=x;obtain⟨⟨k',t',e',ks'⟩,z⟩:=x;simp only[eF,eN,Do,ND,DK,Aa]
theorem Aku{y:Sy}(B:SyB y)(t:Tr)(hz:WzT t):D.ask (.fn 129) [.ptr 0 0,.agg (Bq t)] [rbN y]=some (.tup [.agg (ME (Ds y t).1),bv (Ds y t).2],[.keep]):=by
 have gf:=R.form y.vars t B.vars hz;obtain⟨k,l,r,op,p,q,ks⟩:=t;have gp:=Agy K R B k l r op p q ks;rw[Ds];rw[Pk]at gp ⊢;rw[Bq]at gp gf ⊢;refine K.fn' Ab4 _ rfl ((Al9 ..).trans ?_)
 by_cases h:k=6
 .refine As h ?_
  rw[if_pos h];refine Ab gp ?_;generalize Fb y p q=x;obtain⟨⟨a,b,c,k',t',e',ks'⟩,z⟩:=x;simp only[Do,ND,DK,Aa];rfl
 .refine Ap h ?_
  rw[if_neg h];refine Ab gf ?_;generalize Gr y.vars (.mk k l r op p q ks)=x;obtain⟨⟨k',t',e',ks'⟩,z⟩:=x;simp only[eF,eN,Do,ND,DK,Aa]
end
def NJ:Option Rf->AV
 |some f=>.tup [.agg (eG f),bv true]
 |none=>.tup [.agg [iv 0,iv 0,.ls []],bv false]
def Xc:ABlk:=U [iv 0,iv 0,.ls []] true false
def kbx(k:Int)(b n:Nat):ABlk:=U [iv k,iv 0,.sl b 0 n 3] true false
def rwG(l:List Rf):ABlk:=U (Ao eG l) true true
def rqA(y:Sy)(k:Int)(out:List Rf)(ps:List Pp):Option (List Rf)->AV × List BO
 |none=>(.tup [bv true,.ptr 0 0,.ptr 1 0,bv false],[.set (Yc y 5 ps.length),.set Xc,.del,.del,.del,.set (J2 ps)])
 |some fs=>(.tup [iv 0,.ptr 0 0,.ptr 1 0,.ptr 2 0],[.set (Yc y 5 ps.length),.set Xc,.set (kbx k 6 (out++fs).length),.del,.del,.set (J2 ps),.set (rwG (out++fs))])
theorem MX:∀ l:List Tr,l.length<=Iu l
 |[]=>ArX _
 |x::r=>by
  have:=MX r;have h:1<=ID x:=by
   obtain⟨k,a,b,c,d,e,ks⟩:=x;rw[ID];omega
  rw[Iu,ν];omega
section
variable {D:Orc} (K:Knows FX PI D) (R:ResF D)
include K
theorem AdI{y:Sy}(ks:List Tr)(k:Int)(hk:ks.length<=1000000)(g:∀ x∈ks,∀ ps:List Pp,(∀ p∈ps,PpOk p)->ps.length+ID x<=1000000->D.ask (.fn 72) [.ptr 0 0,.agg (Bq x)] [Yc y 1 ps.length,J2 ps]=some (NJ (C1 y x ps).1,[.set (Yc y 2 (C1 y x ps).2.length),.del,.set (J2 (C1 y x ps).2)])):∀(m i:Nat) (ps:List Pp) (out:List Rf),ks.length-i=m->i<=ks.length->out.length<=i->(∀ p∈ps,PpOk p)->ps.length+Iu (ks.drop i)<=1000000->
  D.ask (.lp 72 0) [.ptr 0 0,.ptr 1 0,.ptr 2 0,.ls (ks.map Bq),iv (ks.length:Int),iv (i:Int)] [Yc y 3 ps.length,Xc,kbx k 4 out.length,J2 ps,rwG out]=some (rqA y k out (CQ y (ks.drop i) ps).2 (CQ y (ks.drop i) ps).1):=by
 intro m
 induction m with
 |zero=>
  intro i ps out hm hi ho hp hn;rw[Ark (by omega),CQ]
  show _=some (rqA y k out ps (some []))
  unfold rqA;simp only[Asa];unfold Xc kbx J2 rwG;rw[Cb,Cb];refine K.lp' TJ _ rfl (by kernel_rfl) ((AbC ..).trans ?_);exact Ak (by omega) rfl
 |succ m ih=>
  intro i ps out hm hi ho hp hn;have h1:i<ks.length:=by omega
  rw[Arf h1,Iu]at hn;rw[Arf h1,F8];have gx:=g ks[i] (Ars h1) ps hp (by omega);have gq:=Rb y ks[i] ps hp;have hf:Bc (out.length+1) 40=true:=AN (by omega) (by omega);have hb1:Arm (0+out.length*3) (Ao eG out).length=true:=AT MD out (by omega);have ih:=λf=>ih (i+1) (C1 y ks[i] ps).2 (out++[f]) (by omega) (by omega) (by simp;omega) gq.2 (by omega)
  unfold Xc kbx J2 rwG at *;rw[Cb];refine K.lp' TJ _ rfl (by kernel_rfl) ((AbC ..).trans ?_);refine Al (by omega) ?_;rw[Ax,AF (Ψ h1)];rw[Cb,Cb]at gx;revert gx ih;generalize C1 y ks[i] ps=q;generalize ks[i]=x;intro gx ih;obtain⟨o,qs⟩:=q;obtain⟨xk,xl,xr,xo,xp,xq,xs⟩:=x;simp only[Bq,ND,DK,Aa]at gx ⊢;refine Ab gx ?_
  cases o with
  |none=>
   simp only[NJ,ND,DK,Aa];refine Ad ?_;unfold rqA Xc J2;rw[Cb]
  |some f=>
   have e3:ο 0 (ι (0+out.length*3) (Ao eG out))++eG f=Ao eG (out++[f]):=by
    rw[υ,Bf MD out (by omega)];exact A9 eG out _
   have ih:=ih f;rw[show (out++[f]).length=out.length+1 by simp]at ih;dsimp only at ih;revert e3 ih;generalize (CQ y (ks.drop (i+1)) qs)=z;intro e3 ih;obtain⟨zo,zs⟩:=z;obtain⟨fk,fn,fks⟩:=f;simp only[NJ,eG,ND,DK,Aa]at e3 ⊢;refine Bi ?_;rw[hf];refine Ad ?_;rw[hb1];refine Ad ?_;rw[e3,Bo (by omega)];rw[Cb]at ih;refine Ab ih ?_
   cases zo with
   |none=>
    unfold rqA Xc J2;rw[Cb];rfl
   |some fs=>
    unfold rqA Xc J2 rwG kbx;rw[Cb];simp only[Arp,Asq,Ari];rfl
include R
theorem Aom{y:Sy}(B:SyB y):∀(N:Nat) (t:Tr),SizeOf.sizeOf t<N->WzT t->∀ ps:List Pp,(∀ p∈ps,PpOk p)->ps.length+ID t<=1000000->D.ask (.fn 72) [.ptr 0 0,.agg (Bq t)] [Yc y 1 ps.length,J2 ps]=some (NJ (C1 y t ps).1,[.set (Yc y 2 (C1 y t ps).2.length),.del,.set (J2 (C1 y t ps).2)]):=by
 intro N
 induction N with
 |zero=>intro t h;omega
 |succ N ih=>
  intro t hN hz ps hp hn;have gatom:=Akv K R B t hz ps.length (Ao ME ps);have gnum:=Adk K R y (by omega) hp (SV y t);obtain⟨k,l,r,op,p,q,ks⟩:=t;have hks:ks.length<=1000000:=by
   have:=MX ks;rw[ID]at hn;omega
  have wk:∀ x∈ks,WzT x:=by
   cases hz with
   |mk _ _ _ _ _ h=>exact h
  rw[ID]at hn;have gl:=AdI K ks k hks (λx hx ps' hp' hn'=>ih x (by have:=At7 hx;simp only[Tr.mk.sizeOf_spec]at hN;omega) (wk x hx) ps' hp' hn') _ 0 ps [] rfl (by omega) (by simp) hp (by rw[υ];omega);rw[υ,ArI]at gl;rw[Fq];rw[Bq,BW]at gatom ⊢;unfold J2 rwG kbx Xc at *;rw[Cb]at gatom gnum gl ⊢;refine K.fn' TJ _ rfl ((Ap1 ..).trans ?_)
  by_cases h2:k=2
  .refine As h2 ?_
   rw[if_pos (.inl h2)];refine Ab gatom ?_;revert gnum gatom;generalize Ds y (.mk k l r op p q ks)=a at *;intro gatom gnum;obtain⟨⟨a1,a2,a3,k',t',e',ks'⟩,z⟩:=a;simp only[Do,eN]at gnum ⊢;simp only[ND,DK,Aa]
   cases z with
   |false=>
    refine Ad ?_;rw[if_neg As9];rfl
   |true=>
    refine Bi ?_;rw[if_pos rfl];refine Ab gnum ?_;rw[Cb];simp only[ND,DK,Aa];rw[NJ,eG,eGs]
    skip
  .refine Ap h2 ?_
   by_cases h6:k=6
   .refine As h6 ?_
    rw[if_pos (.inr h6)];refine Ab gatom ?_;revert gnum gatom;generalize Ds y (.mk k l r op p q ks)=a at *;intro gatom gnum;obtain⟨⟨a1,a2,a3,k',t',e',ks'⟩,z⟩:=a;simp only[Do,eN]at gnum ⊢;simp only[ND,DK,Aa]
    cases z with
    |false=>
     refine Ad ?_;rw[if_neg As9];rfl
    |true=>
     refine Bi ?_;rw[if_pos rfl];refine Ab gnum ?_;rw[Cb];simp only[ND,DK,Aa];rw[NJ,eG,eGs]
     skip
   .refine Ap h6 ?_
    rw[if_neg (by omega)];rw[Aw];refine Ab gl ?_;generalize CQ y ks ps=z;obtain⟨zo,zs⟩:=z
    cases zo with
    |none=>
     simp only[Cb,Xc,J2,ND,DK,Aa];rfl
    |some fs=>
     have hb1:Arm (0+fs.length*3) (Ao eG fs).length=true:=AT MD fs (by omega);simp only[Cb,Xc,J2,rwG,kbx,Arx,ND,DK,Aa];rw[hb1];refine Ad ?_;rw[Cz MD fs rfl];simp only[Arp,NJ];rw[eG,R0]
theorem Aol{y:Sy}(B:SyB y)(t:Tr)(hz:WzT t)(hn:ID t<=1000000):D.ask (.fn 72) [.ptr 0 0,.agg (Bq t)] [rbN y]=some (NJ (C1 y t []).1,if(t.kind=2\/t.kind=6)/\(C1 y t []).1.isNone=true then [.set (rbN y)] else [.set (Yc y 1 (C1 y t []).2.length),.set (J2 (C1 y t []).2)]):=by
 have gatom:=Aku K R B t hz;have gnum:=Adj K R y (Ds y t).1;have wk:∀ x∈(match t with | .mk _ _ _ _ _ _ ks=>ks),WzT x:=by
  cases hz with
  |mk _ _ _ _ _ h=>exact h
 obtain⟨k,l,r,op,p,q,ks⟩:=t;have hks:ks.length<=1000000:=by
  have:=MX ks;rw[ID]at hn;omega
 rw[ID]at hn;have gl:=AdI K (y:=y) ks k hks (λx hx ps' hp' hn'=>Aom K R B _ x (ArB _) (wk x hx) ps' hp' hn') _ 0 [] [] rfl (by omega) (by simp) (by simp) (by rw[υ];simp;omega);rw[υ,ArI]at gl;rw[Fq];rw[Bq,BW]at gatom ⊢;unfold J2 rwG kbx Xc at *;rw[Pk]at gatom gnum ⊢;rw[Cb]at gl;refine K.fn' AiL _ rfl ((Ap0 ..).trans ?_)
 by_cases h2:k=2
 .refine As h2 ?_
  rw[if_pos (.inl h2)];refine Ab gatom ?_;revert gnum gatom;generalize Ds y (.mk k l r op p q ks)=a at *;intro gatom gnum;obtain⟨⟨a1,a2,a3,k',t',e',ks'⟩,z⟩:=a;simp only[Do,eN]at gnum ⊢;simp only[ND,DK,Aa]
  cases z with
  |false=>
   refine Ad ?_;rw[if_neg As9];rw[if_pos ⟨.inl h2,rfl⟩];rfl
  |true=>
   refine Bi ?_;rw[if_pos rfl];refine Ab gnum ?_;rw[Cb];simp only[ND,DK,Aa];rw[NJ,eG,eGs];rw[if_neg (by simp)]
 .refine Ap h2 ?_
  by_cases h6:k=6
  .refine As h6 ?_
   rw[if_pos (.inr h6)];refine Ab gatom ?_;revert gnum gatom;generalize Ds y (.mk k l r op p q ks)=a at *;intro gatom gnum;obtain⟨⟨a1,a2,a3,k',t',e',ks'⟩,z⟩:=a;simp only[Do,eN]at gnum ⊢;simp only[ND,DK,Aa]
   cases z with
   |false=>
    refine Ad ?_;rw[if_neg As9];rw[if_pos ⟨.inr h6,rfl⟩];rfl
   |true=>
    refine Bi ?_;rw[if_pos rfl];refine Ab gnum ?_;rw[Cb];simp only[ND,DK,Aa];rw[NJ,eG,eGs];rw[if_neg (by simp)]
  .refine Ap h6 ?_
   rw[if_neg (by omega),if_neg (λh=>h.1.elim h2 h6)];rw[Aw];refine Ab gl ?_;generalize CQ y ks []=z;obtain⟨zo,zs⟩:=z
   cases zo with
   |none=>
    simp only[Cb,Xc,J2,ND,DK,Aa];rfl
   |some fs=>
    have hb1:Arm (0+fs.length*3) (Ao eG fs).length=true:=AT MD fs (by omega);simp only[Cb,Xc,J2,rwG,kbx,Arx,ND,DK,Aa];rw[hb1];refine Ad ?_;rw[Cz MD fs rfl];simp only[Arp,NJ];rw[eG,R0]
end
def NR(y:Sy)(t:Tr):Option (Rf × List Pp):=if AU t 0=true then(C1 y t []).1.map λf=>(f,(C1 y t []).2) else none
def Px:Option (Rf × List Pp)->AV
 |some (f,ps)=>.tup [.agg (eG f),.ls (ps.map ME),bv true]
 |none=>.tup [.agg [iv 0,iv 0,.ls []],.ls [],bv false]
section
variable {D:Orc} (K:Knows FX PI D) (R:ResF D)
include K R
theorem Ve{y:Sy}(B:SyB y)(t:Tr)(hz:WzT t)(hp:WzP t)(hn:ID t<=1000000):D.ask (.fn 34) [.agg (Bq t),.agg (JV y)] []=some (Px (NR y t),[]):=by
 have gr:=R.right t hz hp;have gn:=Aol K R B t hz hn;unfold NR;rw[Pk]at gn;rw[show JV y=[.ls (y.vars.map eS),.ls y.s2,iv y.s3,.ls y.s4,bv y.s5,.ls y.s6,bv y.s7,.ls y.s8,.ls (y.ps.map R1),.ls y.s10] from rfl];revert gn gr;generalize hk:t.kind=kk;generalize AU t 0=b;generalize C1 y t []=z;obtain⟨k,l,r,op,p,q,ks⟩:=t;obtain⟨zo,zs⟩:=z;intro gr gn;rw[Bq]at gn gr ⊢
 by_cases h:(kk=2\/kk=6)/\zo.isNone=true
 .rw[if_pos h]at gn
  refine K.fn' AiK _ rfl ((ApX ..).trans ?_);refine Ab gr ?_;simp only[ND,DK,Aa]
  cases b with
  |false=>exact Bi rfl
  |true=>
   refine Ad ?_;refine Ab gn ?_
   cases zo with
   |some f=>exact absurd h.2 (by simp)
   |none=>rfl
 .rw[if_neg h]at gn
  refine K.fn' Amx _ rfl ((ApY ..).trans ?_);refine Ab gr ?_;simp only[ND,DK,Aa]
  cases b with
  |false=>exact Bi rfl
  |true=>
   refine Ad ?_;refine Ab gn ?_
   cases zo with
   |none=>
    rw[Cb];rfl
   |some f=>
    have hb1:Arm (0+zs.length*9) (Ao ME zs).length=true:=AT La zs (by omega);obtain⟨fk,fn,fks⟩:=f;rw[Cb];simp only[NJ,J2,eG,ND,DK,Aa];refine Bi ?_;rw[hb1];refine Ad ?_;rw[Cz La zs rfl];simp only[if_true,Arp];rw[Px,eG]
end
theorem PL(vars:List ByteArray):∀(ms:List Mo) (out:Lf),(Ew vars ms out).isSome=EE vars ms
 |[],out=>rfl
 |m::r,out=>by
  rw[Ew]
  show _=(TV vars m&&EE vars r)
  unfold TV
  by_cases h:m.var=Af []
  .rw[if_pos h,decide_eq_true h,AuG,Arq,PL vars r]
  .rw[if_neg h,decide_eq_false h,As1]
   have hm:=KJ vars m.var
   cases e:vars.findIdx? (m.var = ·) with
   |none=>
    rw[e]at hm;rw[←hm];rfl
   |some v=>
    rw[e]at hm;rw[←hm,show decide (0<=CC (some v))=true from decide_eq_true (by show (0:Int)<=(v:Int);omega),Arq];exact PL vars r _
theorem U0(vars:List ByteArray){ms:List Mo}(h:JE ms=true):(E7 vars ms).2=EE vars ms:=by
 unfold E7;rw[if_pos h,←PL vars ms Oc]
 cases Ew vars ms Oc<;>rfl
theorem AbT(vars:List ByteArray){l r:List Mo}{op:Int}(hl:JE l=true)(hr:JE r=true)(h1:0<=op)(h2:op<=5):(Gr vars (.mk 2 l r op (Af []) (Af []) [])).2=(EE vars l&&EE vars r):=by
 have hb:BS (.mk 2 l r op (Af []) (Af []) []) 0=true:=by
  rw[BS,if_pos rfl,GG,hl,hr,decide_eq_true h1,decide_eq_true h2];simp
 have hf:(Dd vars (.mk 2 l r op (Af []) (Af []) [])).2=(EE vars l&&EE vars r):=by
  rw[Dd,if_pos rfl]
  show ((E7 vars l).2&&(E7 vars r).2)=_
  rw[U0 vars hl,U0 vars hr]
 unfold Gr;rw[hb,hf,Arq]
 cases (EE vars l&&EE vars r)<;>rfl
theorem ZP(y:Sy)(p q:ByteArray):(Fb y p q).2=TU y.ps p q:=by
 have h:=MT p y.ps;unfold Fb TU
 cases e:(y.ps.map (·.name)).findIdx? (p = ·) with
 |none=>
  rw[e]at h;simp only at h;rw[h]
 |some i=>
  rw[e]at h;obtain⟨x,h1,_,h3⟩:=h;rw[h3]
  show decide (0<=CC (((y.ps[i]?.map (·.locs)).getD []).findIdx? (q = ·)))=decide (q∈x.locs)
  rw[h1];exact KJ x.locs q
theorem AgI(y:Sy):∀(n:Nat) (t:Tr) (d:Nat),SizeOf.sizeOf t<n->AU t d=true->∀ ps:List Pp,(C1 y t ps).1.isSome=Ho y.vars y.ps t:=by
 intro n
 induction n with
 |zero=>intro t d h;omega
 |succ n ih=>
  intro t d hn hr ps
  cases Dj hr with
  |tt=>
   rw[Fq,if_neg (by decide),Ho,if_neg (by decide),if_neg (by decide),CQ,OW];rfl
  |ff=>
   rw[Fq,if_neg (by decide),Ho,if_neg (by decide),if_neg (by decide),CQ,OW];rfl
  |@cmp _ l r op hl hs h1 h2=>
   have hf:=AbT y.vars hl hs h1 h2;have ha:(Ds y (.mk 2 l r op (Af []) (Af []) [])).2=(EE y.vars l&&EE y.vars r):=by
    rw[Ds,if_neg (by decide)];exact hf
   rw[Fq,if_pos (.inl rfl),ha,Ho,if_pos rfl]
   cases (EE y.vars l&&EE y.vars r)<;>rfl
  |@«at» _ p q hnp hnq=>
   have ha:(Ds y (.mk 6 [] [] 0 p q [])).2=TU y.ps p q:=by
    rw[Ds,if_pos rfl];exact ZP y p q
   have hk:Ho y.vars y.ps (.mk 6 [] [] 0 p q [])=TU y.ps p q:=by rw[Ho,if_neg (by decide),if_pos rfl]
   rw[hk,Fq,if_pos (.inr rfl),ha]
   cases TU y.ps p q<;>rfl
  |@one _ k x hk hd2 hx=>
   have hc:=Bu k;have g:=ih x _ (by simp only[Tr.mk.sizeOf_spec,List.cons.sizeOf_spec]at hn;omega) hx ps;rw[Fq,if_neg (by omega),Xw _ _ hk,F8,←g]
   cases (C1 y x ps).1 with
   |none=>rfl
   |some f=>
    show Auf (((CQ y [] (C1 y x ps).2).1.map (f::·)).map (Rf.mk k 0))=_
    rw[CQ];rfl
  |@two _ k x z hk hd2 hx gd hz=>
   have hc:=Bu k;have g1:=ih x _ (by simp only[Tr.mk.sizeOf_spec,List.cons.sizeOf_spec]at hn;omega) hx ps;have g2:=ih z _ (by simp only[Tr.mk.sizeOf_spec,List.cons.sizeOf_spec]at hn;omega) hz (C1 y x ps).2;rw[Fq,if_neg (by omega),Lp _ _ hk,F8,←g1,←g2]
   cases (C1 y x ps).1 with
   |none=>rfl
   |some f=>
    show Auf (((CQ y [z] (C1 y x ps).2).1.map (f::·)).map (Rf.mk k 0))=_
    rw[F8]
    cases (C1 y z (C1 y x ps).2).1 with
    |none=>rfl
    |some f2=>
     show Auf ((((CQ y [] (C1 y z (C1 y x ps).2).2).1.map (f2::·)).map (f::·)).map (Rf.mk k 0))=_
     rw[CQ];rfl
theorem AgK(y:Sy){t:Tr}(h:AU t 0=true):(NR y t).isSome=Ho y.vars y.ps t:=by
 unfold NR;rw[if_pos h,←AgI y _ t 0 (ArB _) h []]
 cases (C1 y t []).1<;>rfl

end Go.Proofs.YtlmhajfbpplpoaaGreat
