/- LtlAtoms: the row. -/
import Derived.Test.YtlmhajfbpplpoaaGreatOBY
import Derived.Test.YtlmhajfbpplpoaaGreatOCA
import Derived.ProofKit
set_option linter.all false
namespace Go.Proofs.YtlmhajfbpplpoaaGreat
open Go.Proofs.Tryz renaming prog->φ
open Go.ChangeShapes Go.WideShapes Go.ChangeAt Go.RowKit
theorem Q9(v1 v3:Value)(t:Tr)(hz:WzT t)(hp:WzP t)(vals:List Zi)(h3:vals.length<4611686018427387904)(hv:∀ z∈vals,Limbs z.abs)(w:World)(r1:Rep (λ_=>none) (λg _=>g<w.heap.size) w (.agg (B7 t)) v1)(r3:Rep (λ_=>none) (λg _=>g<w.heap.size) w (.ls (vals.map eZ)) v3) :
  Calls φ 12 #[v1,v3] w λe w'=>e=.returned (.bool true)/\Below w.heap.size w w':=by
 have g:=K0 Tt (XZ AlU AoV AlT AlS Ajq AlX Aa5 Ade atR t hz hp vals hv h3) w [v1,v3] (by
  simp only[RepList];exact⟨_,_,rfl,r1,_,_,rfl,r3,rfl⟩)
 refine Calls.mono g ?_;rintro e w' ⟨u,rfl,hb,μ',F',hr⟩;unfold bv Rep at hr;rw[hr.1];exact⟨rfl,hb⟩
set_option maxRecDepth 100000 in
theorem ME(os:Go.Os)(started:os.Started)(H:Type)(enc:TypeId × Value->H) :
  ReturnsInHanded {} Tryz.checked os 12 .any (Rows.ltlAtomsSpec.pre6 enc φ Tryz.f12 [] false) (Rows.ltlAtomsSpec.post enc φ Tryz.f12 false true false false):=by
 refine Aeo (C:=Tryz.checked) 2 [4,9,3,115,23,33,31,230,52,54,48] 4 AbN started (by kernel_rfl) Tryz.func12
  (ChangeSpec.witness6 (enc:=enc) (C:=Tryz.checked) false ⟨#[],#[.agg #[.int .i64 0,.slice none 0 0,.slice none 0 0,.int .i64 0,.string ⟨#[]⟩,.string ⟨#[]⟩,.slice none 0 0],.slice none 0 0],[]⟩ 8 (by kernel_rfl) (by kernel_rfl) (by kernel_rfl) (by kernel_rfl))
  (by kernel_rfl) rfl (by kernel_rfl) Aa7 rfl Tryz.underlying4 rfl (λds h=>?_) (λW args xs h=>?_)
 .match ds,h with
  |[d1,d3],_=>rfl
 .have h':Jc W φ [33,48] args.toList xs:=h
  obtain⟨args⟩:=args;obtain⟨v1,a1,x1,y1,q1,rfl,⟨cs1,e1,h1,t1,z1⟩,h'⟩:=LN h';obtain⟨v3,a3,x3,y3,rfl,rfl,⟨cs3,e3,h3,t3,z3⟩,h'⟩:=LN h';obtain rfl:=Ua h';have q1:args=[v1,v3]:=q1;subst q1;obtain⟨t,k1,k2,k3⟩:=Akh _ x1 (Nat.le_refl _) t1 z1;obtain⟨vals,m1,m2,m3⟩:=Akk t3 z3;have i1:=Q7 (μ:=λ_=>none) (F:=λg _=>g<W.heap.size) (λg hg _=>hg) x1 cs1 h1;have i3:=Q7 (μ:=λ_=>none) (F:=λg _=>g<W.heap.size) (λg hg _=>hg) x3 cs3 h3;rw[k1]at i1;rw[m1]at i3;obtain⟨zs,rfl,_⟩:=t1.struct_ Tryz.underlying33;obtain⟨ws,rfl,_⟩:=t3.slice_ Tryz.underlying48;rw[RepList]at i3;obtain⟨u3,tl3,rfl,i3,j3⟩:=i3;rw[RepList]at j3;subst j3;have e1:v1=.agg cs1.toArray:=e1;have e3:v3=u3:=e3;subst e1 e3;exact Q9 _ v3 t k2 k3 vals m2 m3 W (by rw[Rep];exact⟨cs1.toArray,rfl,i1⟩) i3
set_option maxRecDepth 1000000 in
set_option maxHeartbeats 4000000 in
theorem MD:joinedFacts Tryz.pinned.checked.prog 12 Tryz.f12 Rows.ltlAtomsSpec Rows.ltlAtomsRow=true:=by
 unfold joinedFacts
 repeat' (with_reducible refine Bool.and_eq_true_iff.2 ⟨?_,?_⟩)
 all_goals (as_aux_lemma=>kernel_rfl)
theorem ltlAtoms_holds:Rows.LtlAtomsSaid:=
 OpenClaim.holds_of_wide 12 Tryz.f12 rfl rfl rfl rfl rfl rfl rfl ⟨rfl,rfl,rfl,rfl,rfl⟩ rfl rfl rfl rfl rfl (by kernel_rfl) Tryz.func12 MD
  (of_decide_eq_true (by kernel_rfl)) (by unfold Func.isWrapper;first | (rw[if_pos (by decide +kernel)];kernel_rfl) | (rw[if_neg (by decide +kernel)];exact⟨rfl,rfl⟩))
  (λos started H enc _=>ME os started H enc)
end Go.Proofs.YtlmhajfbpplpoaaGreat
