/-
  LtlParses: the row.
-/
import Derived.Test.YtlmhajfbpplpoaaGreatUAD
import Derived.Test.YtlmhajfbpplpoaaGreatUBD
import Derived.Test.YtlmhajfbpplpoaaGreatUBI
import Derived.Test.YtlmhajfbpplpoaaGreatUBM
import Derived.Test.YtlmhajfbpplpoaaGreatUBQ
import Derived.Test.YtlmhajfbpplpoaaGreatUBS
import Derived.ProofKit
set_option linter.unusedSectionVars false
set_option linter.unusedSimpArgs false
set_option linter.unusedVariables false
namespace Go.Proofs.YtlmhajfbpplpoaaGreat
open Go.ChangeShapes Go.WideShapes Go.ChangeAt Go.RowKit

theorem nameFP4:NameF DLp4 where
 name s hs:=xNameLp4 (by
  unfold extD resName
  have h1:(bstr s).size<=9223372036854775807:=by show s.toArray.size<=_;simp;omega
  have h2:(bstr s).data.toList=s:=by simp[bstr]
  simp only[sv,h1,if_true,h2]
  rfl)
theorem rnameFP4:RNameF DLp4 where
 name s hs:=xRNameLp4 (by
  unfold extD resName
  have h1:(bstr s).size<=9223372036854775807:=by show s.toArray.size<=_;simp;omega
  have h2:(bstr s).data.toList=s:=by simp[bstr]
  simp only[sv,h1,if_true,h2]
  rfl)
theorem lexNP4:LexN DLp4 where
 name s hs:=xNameLp4 (by unfold extD resName;simp only[sv,hs,if_true];rfl)
 num s hs:=xNumberLp4 (by unfold extD resNumber;simp only[sv,hs,if_true];rfl)
theorem lexFP4:LexF DLp4 where
 ok s ts hs h:=⟨xAllLp4 (by unfold extD resAll;simp only[sv,hs,if_true,h];rfl),xRAllLp4 (by unfold extD resAll;simp only[sv,hs,if_true,h];rfl),fun _=>⟨rfl,rfl⟩⟩
 err s c ln co hs h:=⟨xAllLp4 (by unfold extD resAll;simp only[sv,hs,if_true,h];rfl),xRAllLp4 (by unfold extD resAll;simp only[sv,hs,if_true,h];rfl),fun h0=>absurd h0 ((lexAll_facts s.data.toList).2 c ln co h)⟩
theorem seatP4_good:SeatOk Tryz.prog entsC seatLp4:=seatLp4_ok gAll gRAll gName gRName gNumber gSumText (gAm _) (gAm _)
theorem alFP4:Al4F DLp4 where
 res:=by
  obtain⟨a,b,c,d,e,f,g,i,j,k,h⟩:=chkRes_of k_res
  exact⟨a,b,c,d,e,f,g,i,j,k,xResolveLp4 h⟩
 no:=by
  obtain⟨a,b,c,d,h⟩:=chkNo_of k_no
  exact⟨a,b,c,d,xResolveLp4 h⟩
 text:=xTextLp4 (isLs4_of k_ltext)
theorem aliveP4:DLp4.ask (.fn 30) [] []=some (bv true,[]):=alive4_ok kEaLp4 kEbLp4 kTqLp4 kTrLp4 kWaLp4 nameFP4 lexFP4.toA kTlLp4 kTaLp4 lexNP4 kAv4Lp4 alFP4
theorem lparses_calls(s:ByteArray)(hs:s.size<=9223372036854775807)(y:Sy)(v:Value)(w:World)(r:Rep (fun _=>none) (fun g _=>g<w.heap.size) w (.agg (eSy y)) v):Calls Tryz.prog 8 #[.string s,v] w fun e w'=>e=.returned (.bool true)/\Below w.heap.size w w':=by
 have g:=den_calls seatP4_good (lparses_ok kEaLp4 kEbLp4 kTqLp4 kTrLp4 kWaLp4 nameFP4 kRaLp4 kRlLp4 rnameFP4 lexFP4 kSaLp4 kAv4Lp4 kLp4Lp4 aliveP4 s hs y) w [.string s,v] (by
  simp only[RepList]
  exact⟨_,_,rfl,rep_sv _,_,_,rfl,r,rfl⟩)
 refine Calls.mono g ?_
 rintro e w' ⟨u,rfl,hb,μ',F',hr⟩
 unfold bv Rep at hr
 rw[hr.1]
 exact⟨rfl,hb⟩
set_option maxRecDepth 100000 in
theorem ltlParses_lifted(os:Go.Os)(started:os.Started)(H:Type)(enc:TypeId × Value->H) :
  ReturnsInHanded {} Tryz.checked os 8 .any (Rows.ltlParsesSpec.pre6 enc Tryz.prog Tryz.f8 [] false) (Rows.ltlParsesSpec.post enc Tryz.prog Tryz.f8 false true false false):=by
 refine law_fit (C:=Tryz.checked) 2 [4,9,3,47,230,52,54,302,67,154,50,56,58,61,59,115,23,33,31,312,306,308,88,90,68,310,303,305,69,71] 4 own_knob started (by kernel_rfl) Tryz.func8
  (ChangeSpec.witness6 (enc:=enc) (C:=Tryz.checked) false ⟨#[],#[.string ⟨#[]⟩,.agg #[.slice none 0 0,.slice none 0 0,.int .i64 0,.slice none 0 0,.bool false,.slice none 0 0,.bool false,.slice none 0 0,.slice none 0 0,.slice none 0 0]],[]⟩ 8 (by kernel_rfl) (by kernel_rfl) (by kernel_rfl) (by kernel_rfl))
  (by kernel_rfl) rfl (by kernel_rfl) laid_out rfl Tryz.underlying4 rfl (fun ds h=>?_) (fun W args xs h=>?_)
 .match ds,h with
  |[d1,d2],_=>rfl
 .have h':AllFit W Tryz.prog [9,71] args.toList xs:=h
  obtain⟨args⟩:=args
  obtain⟨v1,a1,x1,y1,r1,rfl,⟨cs1,e1,h1,t1,z1⟩,h'⟩:=allFit_cons h'
  obtain⟨v2,a2,x2,y2,rfl,rfl,⟨cs2,e2,h2,t2,z2⟩,h'⟩:=allFit_cons h'
  obtain rfl:=allFit_nil h'
  have r1:args=[v1,v2]:=r1
  subst r1
  obtain⟨s1,q1,i1⟩:=fit_str h1 t1
  rw[q1]at e1
  subst e1
  obtain⟨y,k1⟩:=sy_of t2
  have i2:=is_rep (μ:=fun _=>none) (F:=fun g _=>g<W.heap.size) (fun g hg _=>hg) x2 cs2 h2
  rw[k1]at i2
  obtain⟨zs,rfl,_⟩:=t2.struct_ Tryz.underlying71
  have e2:v2=.agg cs2.toArray:=e2
  subst e2
  exact lparses_calls s1 (by omega) y _ W (by rw[Rep];exact⟨cs2.toArray,rfl,i2⟩)
set_option maxRecDepth 1000000 in
set_option maxHeartbeats 4000000 in
theorem ltlParses_joined:joinedFacts Tryz.pinned.checked.prog 8 Tryz.f8 Rows.ltlParsesSpec Rows.ltlParsesRow=true:=by
 unfold joinedFacts
 repeat' (with_reducible refine Bool.and_eq_true_iff.2 ⟨?_,?_⟩)
 all_goals (as_aux_lemma=>kernel_rfl)
theorem ltlParses_holds:Rows.LtlParsesSaid:=
 OpenClaim.holds_of_wide 8 Tryz.f8 rfl rfl rfl rfl rfl rfl rfl ⟨rfl,rfl,rfl,rfl,rfl⟩ rfl rfl rfl rfl rfl (by kernel_rfl) Tryz.func8 ltlParses_joined
  (of_decide_eq_true (by kernel_rfl)) (by unfold Func.isWrapper;first | (rw[if_pos (by decide +kernel)];kernel_rfl) | (rw[if_neg (by decide +kernel)];exact⟨rfl,rfl⟩))
  (fun os started H enc _=>ltlParses_lifted os started H enc)
end Go.Proofs.YtlmhajfbpplpoaaGreat
