/- An operation of the prog -/
import Derived.Test.YtlmhajfbpplpoaaGreatMAF
set_option linter.all false
open Array renaming ext'->Axf,mem_toList_iff->Aw8,toList_append->Ayp,toList_map->AxC
open Bool renaming and_eq_true->AvF
open List renaming map_cons->AvT,map_nil->AwR,map_toArray->AxQ
namespace Go.Proofs.YtlmhajfbpplpoaaGreat
open Option.some renaming injEq->ξ
open Go.RowKit
section
variable {P:Program} {μ:Mu} {F:AQ} {w:World} {H:AH}
theorem Jk{s:Sem Value}{r:AV}(hH:HRep μ F w H.get)(h:∃ u,s.run P w=.ok u w/\Rep μ F w r u):QI P (do pure (.value (←s))) (AM.ret r) μ F w H:=by
 obtain⟨u,h1,h2⟩:=h;exact Dq (u:=u) (by simp[h1]) h2 hH
theorem AgG{s:Sem Value}{o:Option AV}(hH:HRep μ F w H.get)(h:∀ r,o=some r->∃ u,s.run P w=.ok u w/\Rep μ F w r u):QI P (do pure (.value (←s))) (AM.opt o) μ F w H:=by
 cases o with
 |none=>exact λr H' ft h=>by simp[AM.opt,AM.fail]at h
 |some r=>exact Jk hH (h r rfl)
theorem B0{s:Sem Next}:QI P s AM.fail μ F w H:=λ_ _ _ h=>(At h).elim
theorem PS{ρ:Operand->AV}{σ:Operand->Value}:∀(ps:List (Nat × Operand)),(∀ p∈ps,Rep μ F w (ρ p.2) (σ p.2))->IL μ F w (ps.map λp=>(p.1,ρ p.2)) (ps.map λp=>(p.1,σ p.2))
 |[],_=>by simp only[AwR,IL]
 |p::r,h=>by
  simp only[AvT,IL];exact⟨_,_,rfl,h p (by simp),PS r λq hq=>h q (by simp[hq])⟩
theorem Oy{ρ:Operand->AV}{σ:Operand->Value}:∀(xs:List Operand),(∀ x∈xs,Rep μ F w (ρ x) (σ x))->RepList μ F w (xs.map ρ) (xs.map σ)
 |[],_=>by simp only[AwR,RepList]
 |x::r,h=>by
  simp only[AvT,RepList];exact⟨_,_,rfl,h x (by simp),Oy r λq hq=>h q (by simp[hq])⟩
theorem Af2{ρ:Operand->AV}{σ:Operand->Value}(o:Option Operand)(h:∀ x∈o.toArray,Rep μ F w (ρ x) (σ x)):AhH μ F w (o.map ρ) (o.map σ):=by
 cases o with
 |none=>trivial
 |some x=>exact h x (by simp)
end
set_option maxHeartbeats 2000000 in
theorem AaE{P:Program}{Γ:FuncId->Ab->AM AV}{μ:Mu}{F:AQ}{w:World}{H:AH}(hΓ:Hq P Γ)(o:Oper)(ρ:Operand->AV)(a:Act)
  (hρ:∀ x∈o.op.operands,Rep μ F w (ρ x) (a.eval x)) (hH:HRep μ F w H.get) (hw:H.wf) (hf:B3 μ H):OpS P o a (aop P Γ o ρ) μ F w H:=by
 have hgen:OpS P o a (AM.opt (CQ P o ρ)) μ F w H:=OpS.of_run (XG hρ hH);obtain⟨dst,op,ty,pos,after,guard⟩:=o
 cases op<;>simp only[aop]
 all_goals try exact hgen
 all_goals simp only[Op.operands]at hρ
 case move x=>exact OpS.of_run (Dq rfl (hρ x (by simp)) hH)
 case assign x=>exact OpS.of_run (Dq rfl (hρ x (by simp)) hH)
 case pick c x y=>
  have h0:=hρ c (by simp);split
  .rename_i t ht
   rw[ht]at h0;simp only[Rep]at h0;refine OpS.of_run (Dq (u:=if t then a.eval x else a.eval y) (by simp[execOp,h0.1,asBool]) ?_ hH)
   cases t
   .exact hρ y (by simp)
   .exact hρ x (by simp)
  .exact OpS.of_run B0
 case alloc t=>exact OpS.of_run (SF hH hf).next
 case box t x=>exact OpS.of_run (WY (hρ x (by simp)) hH hf).next
 case build t ps=>
  refine OpS.of_run (SM (vs:=ps.map λ(i,x)=>(i,a.eval x)) ?_ hH).next;rw[AxC];exact PS _ λp hp=>hρ p.2 (by simp;exact⟨p.1,by simpa using hp⟩)
 case buildSlice t n ps=>
  refine OpS.of_run (Lm (vs:=ps.map λ(i,x)=>(i,a.eval x)) ?_ hH hf).next;rw[AxC];exact PS _ λp hp=>hρ p.2 (by simp;exact⟨p.1,by simpa using hp⟩)
 case load t x=>exact OpS.of_run (Vv (hρ x (by simp)) hH).next
 case store t x y=>exact OpS.of_run (TU (hρ x (by simp)) (hρ y (by simp)) hH)
 case nilCheck x=>
  have h0:=hρ x (by simp);split
  .rename_i b q e
   rw[e]at h0;have h1:=h0;simp only[Rep]at h1;obtain⟨p,hp,he⟩:=h1;exact OpS.of_run (Dq (u:=a.eval x) (by simp[execOp,he]) h0 hH)
  .rename_i cs e
   rw[e]at h0;have h1:=h0;simp only[Rep]at h1;obtain⟨_,g,q,he,_⟩:=h1;exact OpS.of_run (Dq (u:=a.eval x) (by simp[execOp,he]) h0 hH)
  .rename_i f fa fc e
   rw[e]at h0;have h1:=h0;simp only[Rep]at h1;obtain⟨ua,uc,he,_⟩:=h1;exact OpS.of_run (Dq (u:=a.eval x) (by simp[execOp,he]) h0 hH)
  .exact OpS.of_run B0
 case binOp b t x y yt=>
  split
  .rename_i hn
   exact OpS.of_run (VI (hρ x (by simp)) (hρ y (by simp)) hH hn)
  .exact hgen
 case makeFunc fn fi ca=>
  refine OpS.of_run (Dq (u:=.func fn (fi.map a.eval) (ca.map a.eval)) rfl ?_ hH);simp only[Rep];refine⟨_,_,rfl,?_,?_⟩
  .rw[AxC];exact Oy _ λx hx=>hρ x (by simp[Aw8.1 hx])
  .rw[AxC];exact Oy _ λx hx=>hρ x (by simp[Aw8.1 hx])
 case slice t x lo hi mx=>
  cases mx with
  |some m=>exact OpS.of_run B0
  |none=>
   simp only;split
   .rename_i r hr
    exact OpS.of_run (Jk hH (TQ (hρ x (by simp)) (Af2 lo λz hz=>hρ z (by simp[hz])) (Af2 hi λz hz=>hρ z (by simp[hz])) hr))
   .exact hgen
 case fieldAddr t x f=>exact OpS.of_run (MP (hρ x (by simp)) hH).next
 case field t x f=>exact OpS.of_run (S5 (hρ x (by simp)) hH).next
 case indexAddr t x i=>
  split
  .rename_i r hr
   exact OpS.of_run (Jk hH (MT (hρ x (by simp)) (hρ i (by simp)) hr))
  .exact OpS.of_run (AgG hH λr hr=>ON (hρ x (by simp)) (hρ i (by simp)) hr)
 case index t x i=>
  split
  .rename_i r hr
   exact OpS.of_run (Jk hH (S9 (hρ x (by simp)) (hρ i (by simp)) hr))
  .exact hgen
 case extract x i=>exact OpS.of_run (O6 (hρ x (by simp)) hH).next
 case convert s d x=>
  split
  .rename_i hc
   exact OpS.of_run (QR hc.1 hc.2.1 hc.2.2 (hρ x (by simp)) hH).next
  .split
   .rename_i str hb hs
    split
    .rename_i hm
     simp only[AvF]at hb;have h0:=hρ x (by simp);rw[hs]at h0;simp only[Rep]at h0;have:=(TV (P:=P) hb.1 hb.2 hm hH hf).next;rw[←h0.1]at this;exact OpS.of_run this
    .exact OpS.of_run B0
   .exact hgen
 case makeSlice t l c=>exact OpS.of_run (M2 (hρ l (by simp)) (hρ c (by simp)) hH hf).next
 case call c=>
  obtain⟨callee,args,argTypes⟩:=c;have hargs:∀ x∈args,Rep μ F w (ρ x) (a.eval x):=λx hx=>hρ x (by simp[Call.operands,hx])
  have nx:∀(s:Sem Value),(do let y ←s;pure (Next.value y):Sem Next)=(do pure (Next.value (←s))):=λ_=>rfl
  cases callee with
  |invoke r m=>exact OpS.of_run B0
  |builtin b=>
   cases b<;>simp only<;>try exact hgen
   case append=>
    split
    .rename_i s x hl
     have e1:args=#[s,x]:=Axf (by simpa using hl);subst e1;rcases ht:argTypes.toList with _|⟨t,_|⟨u,_|⟨u2,r⟩⟩⟩
     .simp only[appendA];exact OpS.of_run B0
     .simp only[appendA];exact OpS.of_run B0
     .have e2:argTypes=#[t,u]:=Axf (by simpa using ht)
      subst e2;have e9:execOp a.eval ⟨dst,.call ⟨.builtin .append,#[s,x],#[t,u]⟩,ty,pos,after,guard⟩=(do pure (Next.value (←Builtin.append_ #[t,u] ty #[a.eval s,a.eval x]))):=by
       simp only[execOp,resolve,AxQ,AvT,AwR];rfl
      have h9:=(QK (P:=P) (t:=t) (u:=u) (ty:=ty) (hargs s (by simp)) (hargs x (by simp)) hH hf).next;refine OpS.of_run ?_;rw[e9];exact h9
     .simp only[appendA];exact OpS.of_run B0
    .exact OpS.of_run B0
   case copy=>
    split
    .rename_i s x hl
     have e1:args=#[s,x]:=Axf (by simpa using hl);subst e1;rcases ht:argTypes.toList with _|⟨t,_|⟨u,_|⟨u2,r⟩⟩⟩
     .simp only[copyA];exact OpS.of_run B0
     .simp only[copyA];exact OpS.of_run B0
     .have e2:argTypes=#[t,u]:=Axf (by simpa using ht)
      subst e2;have e9:execOp a.eval ⟨dst,.call ⟨.builtin .copy,#[s,x],#[t,u]⟩,ty,pos,after,guard⟩=(do pure (Next.value (←Builtin.copy_ #[t,u] ty #[a.eval s,a.eval x]))):=by
       simp only[execOp,resolve,AxQ,AvT,AwR];rfl
      have h9:=(Uw (P:=P) (t:=t) (u:=u) (ty:=ty) (hargs s (by simp)) (hargs x (by simp)) hH).next;refine OpS.of_run ?_;rw[e9];exact h9
     .simp only[copyA];exact OpS.of_run B0
    .exact OpS.of_run B0
   case clear=>
    split
    .rename_i x hl
     have e1:args=#[x]:=Axf (by simpa using hl);subst e1;rcases ht:argTypes.toList with _|⟨t,_|⟨u,r⟩⟩
     .simp only[clearA];exact OpS.of_run B0
     .have e2:argTypes=#[t]:=Axf (by simpa using ht)
      subst e2;have e9:execOp a.eval ⟨dst,.call ⟨.builtin .clear,#[x],#[t]⟩,ty,pos,after,guard⟩=(do pure (Next.value (←Builtin.clear_ #[t] ty #[a.eval x]))):=by
       simp only[execOp,resolve,AxQ,AvT,AwR];rfl
      have h9:=(SR (P:=P) (t:=t) (ty:=ty) (hargs x (by simp)) hH).next;refine OpS.of_run ?_;rw[e9];exact h9
     .simp only[clearA];exact OpS.of_run B0
    .exact OpS.of_run B0
   case len=>
    split
    .rename_i x t hl ht
     have e1:args=#[x]:=Axf (by simpa using hl);have e2:argTypes=#[t]:=Axf (by simpa using ht);subst e1 e2;split
     .rename_i hst
      split
      .rename_i r hr
       have e9:execOp a.eval ⟨dst,.call ⟨.builtin .len,#[x],#[t]⟩,ty,pos,after,guard⟩=(do pure (Next.value (←Builtin.len_ #[t] ty #[a.eval x]))):=by
        simp only[execOp,resolve,AxQ,AvT,AwR];rfl
       have h9:=Jk hH (XX (P:=P) (ty:=ty) (hargs x (by simp)) hst hr);refine OpS.of_run ?_;rw[e9];exact h9
      .exact hgen
     .exact hgen
    .exact OpS.of_run B0
  |value f=>
   have h0:=hρ f (by simp[Call.operands]);simp only;split
   .rename_i g fa fc e
    rw[e]at h0;simp only[Rep]at h0;obtain⟨ua,uc,he,h1,h2⟩:=h0;have hl:RepList μ F w (fa++args.toList.map ρ++fc) (ua++args.map a.eval++uc).toList:=by
     rw[Ayp,Ayp,AxC];exact RepList.append (RepList.append h1 (Oy _ λx hx=>hargs x (Aw8.1 hx))) h2
    split
    .rename_i hen
     intro r H' ft hm next Q hn;have hcall:=hΓ g _ μ F w H _ hl hH hw hf r H' ft hm;have hrun:(execOp a.eval ⟨dst,.call ⟨.value f,args,argTypes⟩,ty,pos,after,guard⟩).run P w=.ok (.enter g (ua++args.map a.eval++uc)) w:=by
      unfold GY at hen;split at hen
      .rename_i fn hfn
       simp only[AvF,bne_iff_ne,ne_eq]at hen;obtain⟨k1,k2⟩:=hen
       cases hb:fn.body with
       |none=>rw[hb]at k2;cases k2
       |some c=>simp[execOp,resolve,he,Deferred.ofValue,invoke,callFunc,hfn,k1,hb]
      .cases hen
     unfold Oper.wp;rw[hrun,Oper.upon_enter];refine hcall.mono λe w' hpost=>?_
     obtain⟨u,rfl,hp⟩:=hpost;exact hn u w' hp
    .refine OpS.of_run λr H' ft h=>?_
     obtain⟨h3,e3⟩:=DV h;subst e3;unfold Za at h3
     cases e4:IJ (fa++args.toList.map ρ++fc) with
     |none=>rw[e4]at h3;cases h3
     |some us=>
      cases e5:P.funcs[g]? with
      |none=>rw[e4,e5]at h3;cases h3
      |some fn=>
       rw[e4,e5]at h3;simp only at h3;split at h3
       .rename_i hfn
        simp only[AvF,bne_iff_ne,ne_eq,Option.isNone_iff_eq_none]at hfn;obtain⟨k1,k2⟩:=hfn
        cases e6:Extern.findNext fn with
        |some q=>rw[e6]at h3;cases h3
        |none=>
         cases e7:Extern.find fn with
         |none=>rw[e6,e7]at h3;cases h3
         |some q=>
          rw[e6,e7]at h3;simp only at h3
          cases e8:AD P (q us.toArray) with
          |none=>rw[e8]at h3;cases h3
          |some y=>
           rw[e8]at h3;simp only[Option.map_some,ξ]at h3;subst h3;have hvv:=Aat e4 hl;have harr:us.toArray=ua++args.map a.eval++uc:=by rw[←hvv]
           rw[harr]at e8;have hq:=Jf _ e8 w;refine⟨.value y,y,w,?_,.inl rfl,D5 (M6 _ _ _ _) hH⟩;simp only[Array.append_assoc]at hq;simp[execOp,resolve,he,Deferred.ofValue,invoke,callFunc,e5,k1,k2,e6,e7,hq]
       .cases h3
   .exact OpS.of_run B0
