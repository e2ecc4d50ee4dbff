/- ExprHolds: the row. -/
import Derived.Test.YtlmhajfbpplpoaaGreatSBS
import Derived.Test.YtlmhajfbpplpoaaGreatSBU
import Derived.ProofKit
set_option linter.unusedSectionVars false
set_option linter.unusedSimpArgs false
set_option linter.unusedVariables false
namespace Go.Proofs.YtlmhajfbpplpoaaGreat
open Go.ChangeShapes Go.WideShapes Go.ChangeAt Go.RowKit
theorem Qg(v1 v2 v3:Value)(t:Tr)(hz:WzT t)(vars:List ByteArray)(h2:vars.length<4611686018427387904)(vals:List Zi)(h3:vals.length<4611686018427387904)(hv:∀ z∈vals,Limbs z.abs)(w:World)(r1:Rep (fun _=>none) (fun g _=>g<w.heap.size) w (.agg (DI t)) v1)(r2:Rep (fun _=>none) (fun g _=>g<w.heap.size) w (.ls (vars.map eS)) v2)(r3:Rep (fun _=>none) (fun g _=>g<w.heap.size) w (.ls (vals.map eZ)) v3) :
  Calls Tryz.prog 6 #[v1,v2,v3] w fun e w'=>e=.returned (.bool true)/\Below w.heap.size w w':=by
 have g:=KF SA (Wf Zg Aey Zf AhE Qw Aex Ze Zd Nk KY Aj1 AnL Aj0 AjZ Aj4 AjX Aa0 t hz vars h2 vals hv h3) w [v1,v2,v3] (by
  simp only[RepList]
  exact⟨_,_,rfl,r1,_,_,rfl,r2,_,_,rfl,r3,rfl⟩)
 refine Calls.mono g ?_
 rintro e w' ⟨u,rfl,hb,μ',F',hr⟩
 unfold bv Rep at hr
 rw[hr.1]
 exact⟨rfl,hb⟩
set_option maxRecDepth 100000 in
theorem KJ(os:Go.Os)(started:os.Started)(H:Type)(enc:TypeId × Value->H) :
  ReturnsInHanded {} Tryz.checked os 6 .any (Rows.exprHoldsSpec.pre6 enc Tryz.prog Tryz.f6 [] false) (Rows.exprHoldsSpec.post enc Tryz.prog Tryz.f6 false true false false):=by
 refine Aca (C:=Tryz.checked) 3 [4,9,3,115,23,33,31,47,230,52,54,48] 4 ZR started (by kernel_rfl) Tryz.func6
  (ChangeSpec.witness6 (enc:=enc) (C:=Tryz.checked) false ⟨#[],#[.agg #[.int .i64 0,.slice none 0 0,.slice none 0 0,.int .i64 0,.string ⟨#[]⟩,.string ⟨#[]⟩,.slice none 0 0],.slice none 0 0,.slice none 0 0],[]⟩ 8 (by kernel_rfl) (by kernel_rfl) (by kernel_rfl) (by kernel_rfl))
  (by kernel_rfl) rfl (by kernel_rfl) Zh rfl Tryz.underlying4 rfl (fun ds h=>?_) (fun W args xs h=>?_)
 .match ds,h with
  |[d1,d2,d3],_=>rfl
 .have h':IQ W Tryz.prog [33,47,48] args.toList xs:=h
  obtain⟨args⟩:=args
  obtain⟨v1,a1,x1,y1,q1,rfl,⟨cs1,e1,h1,t1,z1⟩,h'⟩:=G9 h'
  obtain⟨v2,a2,x2,y2,rfl,rfl,⟨cs2,e2,h2,t2,z2⟩,h'⟩:=G9 h'
  obtain⟨v3,a3,x3,y3,rfl,rfl,⟨cs3,e3,h3,t3,z3⟩,h'⟩:=G9 h'
  obtain rfl:=Tb h'
  have q1:args=[v1,v2,v3]:=q1
  subst q1
  obtain⟨t,k1,k2⟩:=AkZ _ x1 (Nat.le_refl _) t1 z1
  obtain⟨vars,n1,n2⟩:=ZC t2 z2
  obtain⟨vals,m1,m2,m3⟩:=AhF t3 z3
  have i1:=Nj (μ:=fun _=>none) (F:=fun g _=>g<W.heap.size) (fun g hg _=>hg) x1 cs1 h1
  have i2:=Nj (μ:=fun _=>none) (F:=fun g _=>g<W.heap.size) (fun g hg _=>hg) x2 cs2 h2
  have i3:=Nj (μ:=fun _=>none) (F:=fun g _=>g<W.heap.size) (fun g hg _=>hg) x3 cs3 h3
  rw[k1]at i1
  rw[n1]at i2
  rw[m1]at i3
  obtain⟨zs,rfl,_⟩:=t1.struct_ Tryz.underlying33
  obtain⟨ys,rfl,_⟩:=t2.slice_ Tryz.underlying47
  obtain⟨ws,rfl,_⟩:=t3.slice_ Tryz.underlying48
  rw[RepList]at i2 i3
  obtain⟨u,tl,rfl,i2,j2⟩:=i2
  rw[RepList]at j2
  subst j2
  obtain⟨u3,tl3,rfl,i3,j3⟩:=i3
  rw[RepList]at j3
  subst j3
  have e1:v1=.agg cs1.toArray:=e1
  have e2:v2=u:=e2
  have e3:v3=u3:=e3
  subst e1 e2 e3
  exact Qg _ v2 v3 t k2 vars n2 vals m2 m3 W (by rw[Rep];exact⟨cs1.toArray,rfl,i1⟩) i2 i3
set_option maxRecDepth 1000000 in
set_option maxHeartbeats 4000000 in
theorem KI:joinedFacts Tryz.pinned.checked.prog 6 Tryz.f6 Rows.exprHoldsSpec Rows.exprHoldsRow=true:=by
 unfold joinedFacts
 repeat' (with_reducible refine Bool.and_eq_true_iff.2 ⟨?_,?_⟩)
 all_goals (as_aux_lemma=>kernel_rfl)
theorem exprHolds_holds:Rows.ExprHoldsSaid:=
 OpenClaim.holds_of_wide 6 Tryz.f6 rfl rfl rfl rfl rfl rfl rfl ⟨rfl,rfl,rfl,rfl,rfl⟩ rfl rfl rfl rfl rfl (by kernel_rfl) Tryz.func6 KI
  (of_decide_eq_true (by kernel_rfl)) (by unfold Func.isWrapper;first | (rw[if_pos (by decide +kernel)];kernel_rfl) | (rw[if_neg (by decide +kernel)];exact⟨rfl,rfl⟩))
  (fun os started H enc _=>KJ os started H enc)
end Go.Proofs.YtlmhajfbpplpoaaGreat
