/-
  Layer 10: the reference's Reserved, Name, Number.
-/
import Derived.Test.YtlmhajfbpplpoaaGreatUBN
import Derived.Test.YtlmhajfbpplpoaaGreatUBL
set_option linter.unusedSectionVars false
set_option linter.unusedSimpArgs false
set_option linter.unusedVariables false
namespace Go.Proofs.YtlmhajfbpplpoaaGreat
open Go.RowKit

theorem str_ne{s:ByteArray}{l:List UInt8}(h:¬ s.data.toList=l):(s.toList == l)=false:=by
 rw[beq_eq_false_iff_ne,Lib.toList_data]
 exact h
set_option maxRecDepth 100000 in
set_option maxHeartbeats 8000000 in
theorem rresv_any(s:ByteArray)(w:World):Calls Tryz.prog 136 #[.string s] w fun e w'=>e=.returned (.bool (resB s.data.toList))/\w=w':=by
 by_cases h:s.data.toList∈resL
 .have HB:=Lib.hid (show resB s.data.toList=true by unfold resB;rwa [List.contains_iff_mem])
  simp only[resL,List.mem_cons,List.not_mem_nil,or_false]at h
  rcases h with h|h|h|h|h|h|h|h
  all_goals
   obtain⟨⟨d⟩⟩:=s
   simp only at h
   subst h
   clear HB
   go_enter Tryz.func136,Tryz.ntmps136
   go_wp2
   go_ret
   exact⟨ret_bool (by decide +kernel),rfl⟩
 .have HB:=Lib.hid (show resB s.data.toList=false by unfold resB;rw[←Bool.not_eq_true,List.contains_iff_mem];exact h)
  simp only[resL,List.mem_cons,List.not_mem_nil,or_false,not_or]at h
  obtain⟨h0,h1,h2,h3,h4,h5,h6,h7⟩:=h
  have q0:=str_ne h0
  have q1:=str_ne h1
  have q2:=str_ne h2
  have q3:=str_ne h3
  have q4:=str_ne h4
  have q5:=str_ne h5
  have q6:=str_ne h6
  have q7:=str_ne h7
  clear h0 h1 h2 h3 h4 h5 h6 h7
  go_enter Tryz.func136,Tryz.ntmps136
  go_wp2
  go_ret
  exact⟨ret_bool HB.out.symm,rfl⟩
set_option maxRecDepth 100000 in
set_option maxHeartbeats 8000000 in
theorem rname_any(s:ByteArray)(w:World)(hs:s.size<=9223372036854775807):Calls Tryz.prog 77 #[.string s] w fun e w'=>e=.returned (.bool (nameB s.data.toList))/\w=w':=by
 by_cases h0:s.size=0
 .obtain rfl:=empty_of h0
  go_enter Tryz.func77,Tryz.ntmps77
  go_wp2
  go_ret
  exact⟨rfl,rfl⟩
 have hmt:s.data.toList.isEmpty=false:=by
  have:=len_of s
  rcases h:s.data.toList with _|_
  .rw[h]at this;simp at this;omega
  .rfl
 have z0:((s.size:Int) == 0)=false:=by rw[beq_eq_false_iff_ne];omega
 have hpos:0<s.size:=by omega
 by_cases h20:20<s.size
 .have HF := Lib.hid (show nameB s.data.toList = false by unfold nameB wordB;rw[len_of];have:decide (s.size<=20)=false:=by simpa using h20
                                                          rw[this];simp)
  have q:(20:Int)<(s.size:Int):=by omega
  clear hmt
  go_enter Tryz.func77,Tryz.ntmps77
  go_wp2
  go_ret
  exact⟨ret_bool HF.out.symm,rfl⟩
 have q20:¬ (20:Int)<(s.size:Int):=by omega
 have h20':decide (s.size<=20)=true:=by simpa using h20
 have hd:s.data.toList.getD 0 0=atB s 0:=rfl
 have HV:=Lib.hid (fun k (h:k<s.size)=>atB_lt s k h)
 have HF:=Lib.hid (show nameB s.data.toList=(lowB (atB s 0)&&s.data.toList.all innB&&!resB s.data.toList) by
  unfold nameB wordB
  rw[len_of,hd,h20',hmt];simp)
 have HALL:=Lib.hid (allw_at innB s)
 have HPOS:=Lib.hid hpos
 have HC0:=Lib.hid (cls_facts (atB s 0)).2.1
 clear h20' hd hmt
 rcases hl:lowB (atB s 0) with _|_
 .have HL:=Lib.hid hl
  have HX:=Lib.hid (show ((clsB (atB s 0):Int) != 1)=true by
   have h2:=HC0.out
   rw[hl,beq_eq_false_iff_ne]at h2
   rw[bne_iff_ne];omega)
  clear hl
  go_enter Tryz.func77,Tryz.ntmps77
  go_wp2_with fail
  refine(class_any (atB s 0) _ w (by rw[HV.out 0 HPOS.out])).mono ?_
  have hx:=HX.out
  generalize clsB (atB s 0)=m at *
  rintro e w' ⟨rfl,rfl⟩
  go_wp2
  go_ret
  exact⟨ret_bool (by rw[HF.out,HL.out];rfl),rfl⟩
 have HL:=Lib.hid hl
 have HX:=Lib.hid (show ((clsB (atB s 0):Int) != 1)=false by
  have h2:=HC0.out
  rw[hl,beq_iff_eq]at h2
  rw[h2];rfl)
 clear hl
 rcases hr:resB s.data.toList with _|_
 .have HR:=Lib.hid hr
  clear hr
  go_enter Tryz.func77,Tryz.ntmps77
  go_wp2_with fail
  refine(class_any (atB s 0) _ w (by rw[HV.out 0 HPOS.out])).mono ?_
  have hx:=HX.out
  generalize clsB (atB s 0)=m at *
  rintro e w' ⟨rfl,rfl⟩
  go_wp2_with fail
  refine(rresv_any s w).mono ?_
  rw[HR.out]
  rintro e w' ⟨rfl,rfl⟩
  go_wp2_with fail
  go_loop [3] (fun q=>∃ k:Nat,k<=s.size/\(∀ j,j<k->innB (atB s j)=true)/\q=.int .i64 k) (fun q=>s.size-(intOf q).toNat)
  case atStart=>exact⟨0,Nat.zero_le _,fun j hj=>absurd hj (by omega),rfl⟩
  case round=>
   obtain⟨k,hk,hall,rfl⟩:=hrel
   have HA:=Lib.hid hall
   clear hall
   by_cases hlt:k<s.size
   .have HVK:=Lib.hid (HV.out k hlt)
    have y0:(0:Int)<=(k:Int):=by omega
    have y1:(k:Int)<(s.size:Int):=by omega
    have HCF:=Lib.hid (cls_facts (atB s k)).2.2
    rcases hi:innB (atB s k) with _|_
    .have HNO:=Lib.hid (show s.data.toList.all innB=false from Bool.eq_false_iff.2 fun h=>by have h2:=HALL.out.1 h k hlt;rw[hi]at h2;cases h2)
     have hx2:clsB (atB s k)<1\/1<=clsB (atB s k)/\3<clsB (atB s k):=by
      have h2:=HCF.out
      rw[hi,Bool.and_eq_false_iff,decide_eq_false_iff_not,decide_eq_false_iff_not]at h2
      omega
     have HX2:=Lib.hid hx2
     clear hi hx2 hx
     rcases HX2.out with hx2|hx2
     .have HX3:=Lib.hid hx2
      clear hx2
      go_wp2_with fail
      refine(class_any (atB s k) _ w (by rw[HVK.out])).mono ?_
      have hx2:=HX3.out
      generalize clsB (atB s k)=m2 at *
      have y2:(m2:Int)<1:=by omega
      clear hx2
      rintro e w' ⟨rfl,rfl⟩
      go_wp2
      go_ret
      exact⟨ret_bool (by rw[HF.out,HL.out,HNO.out];rfl),rfl⟩
     .have HX3:=Lib.hid hx2
      clear hx2
      go_wp2_with fail
      refine(class_any (atB s k) _ w (by rw[HVK.out])).mono ?_
      have hx2:=HX3.out
      generalize hm2:clsB (atB s k)=m2 at hx2 ⊢
      have HM2:=Lib.hid hm2
      have y2:¬ (m2:Int)<1:=by omega
      have y3:(3:Int)<(m2:Int):=by omega
      clear hx2 hm2
      rintro e w' ⟨rfl,rfl⟩
      go_wp2_with fail
      refine(class_any (atB s k) _ w (by rw[HVK.out])).mono ?_
      rw[HM2.out]
      rintro e w' ⟨rfl,rfl⟩
      go_wp2
      go_ret
      exact⟨ret_bool (by rw[HF.out,HL.out,HNO.out];rfl),rfl⟩
    .have HI:=Lib.hid hi
     have hx2:1<=clsB (atB s k)/\clsB (atB s k)<=3:=by
      have h2:=HCF.out
      rw[hi,Bool.and_eq_true,decide_eq_true_eq,decide_eq_true_eq]at h2
      exact h2
     have HX3:=Lib.hid hx2
     clear hi hx2 hx
     go_wp2_with fail
     refine(class_any (atB s k) _ w (by rw[HVK.out])).mono ?_
     have hx2:=HX3.out
     generalize hm2:clsB (atB s k)=m2 at hx2 ⊢
     have HM2:=Lib.hid hm2
     have y2:¬ (m2:Int)<1:=by omega
     have y3:¬ (3:Int)<(m2:Int):=by omega
     clear hx2 hm2
     rintro e w' ⟨rfl,rfl⟩
     go_wp2_with fail
     refine(class_any (atB s k) _ w (by rw[HVK.out])).mono ?_
     rw[HM2.out]
     rintro e w' ⟨rfl,rfl⟩
     go_wp2_with fail
     go_round
     case rel=>exact⟨k+1,hlt,fun j hj=>(Nat.lt_succ_iff_lt_or_eq.1 hj).elim (HA.out j) fun e=>by subst e;exact HI.out,by go_num⟩
     case measure=>simp[intOf];omega
   .obtain rfl:k=s.size:=by omega
    have HYES:=Lib.hid (HALL.out.2 HA.out)
    clear hx
    go_wp2
    go_ret
    exact⟨ret_bool (by rw[HF.out,HL.out,HR.out,HYES.out];rfl),rfl⟩
 .have HR:=Lib.hid hr
  clear hr
  go_enter Tryz.func77,Tryz.ntmps77
  go_wp2_with fail
  refine(class_any (atB s 0) _ w (by rw[HV.out 0 HPOS.out])).mono ?_
  have hx:=HX.out
  generalize clsB (atB s 0)=m at *
  rintro e w' ⟨rfl,rfl⟩
  go_wp2_with fail
  refine(rresv_any s w).mono ?_
  rw[HR.out]
  rintro e w' ⟨rfl,rfl⟩
  go_wp2
  go_ret
  exact⟨ret_bool (by rw[HF.out,HR.out];simp),rfl⟩
end Go.Proofs.YtlmhajfbpplpoaaGreat
