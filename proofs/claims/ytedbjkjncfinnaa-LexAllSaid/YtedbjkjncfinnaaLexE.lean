/-
  Layer 10: Number, Name, Reserved.
-/
import Derived.Test.YtedbjkjncfinnaaLexC
import Derived.Laws.RangeAny
namespace Go.Proofs.Ytedbjkjncfinnaa
open Go.RowKit

def numB (l : List UInt8) : Bool := !l.isEmpty && decide (l.length ≤ 60) && !(decide (1 < l.length) && (l.getD 0 0).toNat == 48) && l.all digB
theorem len_of (s : ByteArray) : s.data.toList.length = s.size := by simp
theorem empty_of {s : ByteArray} (h : s.size = 0) : s = ⟨#[]⟩ := by
  cases s with
  | mk d =>
    have : d.size = 0 := h
    rw [Array.eq_empty_of_size_eq_zero this]
theorem all_at (s : ByteArray) : s.data.toList.all digB = true ↔ ∀ k, k < s.size → digB (atB s k) = true := by
  rw [List.all_eq_true]
  constructor
  · intro h k hk
    unfold atB
    rw [List.getD_eq_getElem?_getD, List.getElem?_eq_getElem (by rw [len_of]; exact hk)]
    exact h _ (List.getElem_mem _)
  · intro h x hx
    obtain ⟨k, hk, rfl⟩ := List.getElem_of_mem hx
    have h2 := h k (by rwa [len_of] at hk)
    unfold atB at h2
    rwa [List.getD_eq_getElem?_getD, List.getElem?_eq_getElem hk] at h2
set_option maxRecDepth 100000 in
set_option maxHeartbeats 4000000 in
theorem number_any (s : ByteArray) (w : World) (hs : s.size ≤ 9223372036854775807) : Calls Try.prog 49 #[.string s] w fun e w' => e = .returned (.bool (numB s.data.toList)) ∧ Below w.heap.size w w' := by
  by_cases h0 : s.size = 0
  · obtain rfl := empty_of h0
    go_enter Try.func49, Try.ntmps49
    go_wp2
    go_ret
    exact ⟨rfl, Below.refl _ _⟩
  have hne : ¬ s.toList = [] := by rw [Lib.toList_data]; intro h; have := len_of s; rw [h] at this; simp at this; omega
  have hni : s.toList.isEmpty = false := by simpa using hne
  have hpos : 0 < s.size := by omega
  have hmt : s.data.toList.isEmpty = false := by rw [← Lib.toList_data]; exact hni
  by_cases h60 : 60 < s.size
  · have HF := Lib.hid (show numB s.data.toList = false by unfold numB; rw [len_of]; have : decide (s.size ≤ 60) = false := by simpa using h60
                                                           rw [this]; simp)
    have q : (60 : Int) < (s.size : Int) := by omega
    clear hmt
    go_enter Try.func49, Try.ntmps49
    go_wp2
    go_ret
    exact ⟨ret_bool HF.out.symm, Below.refl _ _⟩
  have q60 : ¬ (60 : Int) < (s.size : Int) := by omega
  have hv := atB_lt s 0 hpos
  have h60' : decide (s.size ≤ 60) = true := by simpa using h60
  have hd : s.data.toList.getD 0 0 = atB s 0 := rfl
  by_cases hz : 1 < s.size ∧ (atB s 0).toNat = 48
  · have HF := Lib.hid (show numB s.data.toList = false by
      unfold numB
      rw [len_of, hd, hz.2]
      have : decide (1 < s.size) = true := by simpa using hz.1
      rw [this]; simp)
    have q1 : (1 : Int) < (s.size : Int) := by omega
    have q2 : ((s[0].toNat : Int) == 48) = true := by rw [hv, hz.2]; rfl
    clear hz hv hd h60' hmt
    go_enter Try.func49, Try.ntmps49
    go_wp2
    go_ret
    exact ⟨ret_bool HF.out.symm, Below.refl _ _⟩
  · have HF := Lib.hid (show numB s.data.toList = s.data.toList.all digB by
      unfold numB
      rw [len_of, hd, h60', hmt]
      have : (decide (1 < s.size) && (atB s 0).toNat == 48) = false := by
        rw [Bool.and_eq_false_iff]
        by_cases h1 : 1 < s.size
        · right; rw [beq_eq_false_iff_ne]; exact fun h => hz ⟨h1, h⟩
        · left; simpa using h1
      rw [this]; simp)
    have HALL := Lib.hid (all_at s)
    have HV := Lib.hid (fun k (h : k < s.size) => atB_lt s k h)
    have main : ∀ (q : (¬ (1 : Int) < (s.size : Int)) ∨ ((1 : Int) < (s.size : Int) ∧ ((s[0].toNat : Int) == 48) = false)), Calls Try.prog 49 #[.string s] w fun e w' => e = .returned (.bool (numB s.data.toList)) ∧ Below w.heap.size w w' := by
      clear hz hd h60' hmt hv
      intro q
      rcases q with q1 | ⟨q1, q2⟩
      all_goals
        go_enter Try.func49, Try.ntmps49
        go_wp2_with fail
        go_loopw [24] (fun _ wr => ∃ k : Nat, k ≤ s.size ∧ (∀ j, j < k → digB (atB s j) = true) ∧ wr = w.iter s k) (fun _ wr => s.size - wr.iterPos w.heap.size)
        case atStart => exact ⟨0, Nat.zero_le _, fun j hj => absurd hj (by omega), rfl⟩
        case round =>
          obtain ⟨k, hk, hall, rfl⟩ := hrel
          have HA := Lib.hid hall
          clear hall
          by_cases hlt : k < s.size
          · have HVK := Lib.hid (HV.out k hlt)
            by_cases hasc : s[k].toNat < 128
            · have hnx := fun ty => run_next_ascii (P := Try.prog) w s k ty hlt hasc
              have hc := s[k].toNat_lt
              by_cases hdg : 48 ≤ s[k].toNat ∧ s[k].toNat ≤ 57
              · have hd1 := hdg.1
                have hd2 := hdg.2
                have HD := Lib.hid (show digB (atB s k) = true by rw [← HVK.out]; unfold digB; simp; exact hdg)
                clear hdg
                generalize s[k].toNat = c at *
                have z1 : ¬ (c : Int) < 48 := by omega
                have z2 : ¬ (57 : Int) < (c : Int) := by omega
                go_wp2
                go_roundw
                case rel => exact ⟨k + 1, hlt, fun j hj => (Nat.lt_succ_iff_lt_or_eq.1 hj).elim (HA.out j) fun e => by subst e; exact HD.out, rfl⟩
                case measure => simp; omega
              · have HNO := Lib.hid (show s.data.toList.all digB = false by
                  refine Bool.eq_false_iff.2 fun h => ?_
                  have h2 := HALL.out.1 h k hlt
                  rw [← HVK.out] at h2
                  unfold digB at h2
                  simp at h2
                  exact hdg h2)
                have hz' : (s[k].toNat : Int) < 48 ∨ ¬ (s[k].toNat : Int) < 48 ∧ (57 : Int) < (s[k].toNat : Int) := by omega
                clear hdg
                generalize s[k].toNat = c at *
                rcases hz' with z1 | ⟨z1, z2⟩
                all_goals
                  go_wp2
                  go_ret
                  exact ⟨ret_bool (by rw [HF.out, HNO.out]), (Below.refl _ _).alloc (Nat.le_refl _) _⟩
            · have hnx := fun ty => run_next_any (P := Try.prog) w s k ty hlt
              have hhi := (decode_high s k hlt (by omega)).1
              have HNO := Lib.hid (show s.data.toList.all digB = false by
                refine Bool.eq_false_iff.2 fun h => ?_
                have h2 := HALL.out.1 h k hlt
                rw [← HVK.out] at h2
                unfold digB at h2
                simp at h2
                omega)
              clear hasc
              generalize (Utf8.decode s k).1 = c at *
              have z1 : ¬ (c : Int) < 48 := by omega
              have z2 : (57 : Int) < (c : Int) := by omega
              go_wp2
              go_ret
              exact ⟨ret_bool (by rw [HF.out, HNO.out]), (Below.refl _ _).alloc (Nat.le_refl _) _⟩
          · obtain rfl : k = s.size := by omega
            have hnx := fun ty => run_next_end (P := Try.prog) w s s.size ty (Nat.lt_irrefl _)
            have HYES := Lib.hid (HALL.out.2 HA.out)
            go_wp2
            go_ret
            exact ⟨ret_bool (by rw [HF.out, HYES.out]), (Below.refl _ _).alloc (Nat.le_refl _) _⟩
    by_cases h1 : 1 < s.size
    · refine main (.inr ⟨by omega, ?_⟩)
      rw [hv, beq_eq_false_iff_ne]
      have : (atB s 0).toNat ≠ 48 := fun h => hz ⟨h1, h⟩
      omega
    · exact main (.inl (by omega))

def wordB (l : List UInt8) : Bool := !l.isEmpty && decide (l.length ≤ 20) && lowB (l.getD 0 0) && l.all innB
theorem allw_at (q : UInt8 → Bool) (s : ByteArray) : s.data.toList.all q = true ↔ ∀ k, k < s.size → q (atB s k) = true := by
  rw [List.all_eq_true]
  constructor
  · intro h k hk
    unfold atB
    rw [List.getD_eq_getElem?_getD, List.getElem?_eq_getElem (by rw [len_of]; exact hk)]
    exact h _ (List.getElem_mem _)
  · intro h x hx
    obtain ⟨k, hk, rfl⟩ := List.getElem_of_mem hx
    have h2 := h k (by rwa [len_of] at hk)
    unfold atB at h2
    rwa [List.getD_eq_getElem?_getD, List.getElem?_eq_getElem hk] at h2
set_option maxRecDepth 100000 in
set_option maxHeartbeats 4000000 in
theorem word_any (s : ByteArray) (w : World) (hs : s.size ≤ 9223372036854775807) : Calls Try.prog 72 #[.string s] w fun e w' => e = .returned (.bool (wordB s.data.toList)) ∧ Below w.heap.size w w' := by
  by_cases h0 : s.size = 0
  · obtain rfl := empty_of h0
    go_enter Try.func72, Try.ntmps72
    go_wp2
    go_ret
    exact ⟨rfl, Below.refl _ _⟩
  have hne : ¬ s.toList = [] := by rw [Lib.toList_data]; intro h; have := len_of s; rw [h] at this; simp at this; omega
  have hni : s.toList.isEmpty = false := by simpa using hne
  have hpos : 0 < s.size := by omega
  have hmt : s.data.toList.isEmpty = false := by rw [← Lib.toList_data]; exact hni
  by_cases h20 : 20 < s.size
  · have HF := Lib.hid (show wordB s.data.toList = false by unfold wordB; rw [len_of]; have : decide (s.size ≤ 20) = false := by simpa using h20
                                                            rw [this]; simp)
    have q : (20 : Int) < (s.size : Int) := by omega
    clear hmt
    go_enter Try.func72, Try.ntmps72
    go_wp2
    go_ret
    exact ⟨ret_bool HF.out.symm, Below.refl _ _⟩
  have q20 : ¬ (20 : Int) < (s.size : Int) := by omega
  have h20' : decide (s.size ≤ 20) = true := by simpa using h20
  have hd : s.data.toList.getD 0 0 = atB s 0 := rfl
  have HV := Lib.hid (fun k (h : k < s.size) => atB_lt s k h)
  have HF := Lib.hid (show wordB s.data.toList = (lowB (atB s 0) && s.data.toList.all innB) by
    unfold wordB
    rw [len_of, hd, h20', hmt]; simp)
  have HALL := Lib.hid (allw_at innB s)
  have HPOS := Lib.hid hpos
  clear h20' hd hmt
  rcases hl : lowB (atB s 0) with _ | _
  · have HL := Lib.hid hl
    clear hl
    go_enter Try.func72, Try.ntmps72
    go_wp2_with fail
    refine (letter_any (atB s 0) _ w (by rw [HV.out 0 HPOS.out])).mono ?_
    rw [HL.out]
    rintro e w' ⟨rfl, rfl⟩
    go_wp2
    go_ret
    exact ⟨ret_bool (by rw [HF.out, HL.out]; rfl), Below.refl _ _⟩
  · have HL := Lib.hid hl
    clear hl
    go_enter Try.func72, Try.ntmps72
    go_wp2_with fail
    refine (letter_any (atB s 0) _ w (by rw [HV.out 0 HPOS.out])).mono ?_
    rw [HL.out]
    rintro e w' ⟨rfl, rfl⟩
    go_wp2_with fail
    go_loop [19] (fun q => ∃ k : Nat, k ≤ s.size ∧ (∀ j, j < k → innB (atB s j) = true) ∧ q = .int .i64 k) (fun q => s.size - (intOf q).toNat)
    case atStart => exact ⟨0, Nat.zero_le _, fun j hj => absurd hj (by omega), rfl⟩
    case round =>
      obtain ⟨k, hk, hall, rfl⟩ := hrel
      have HA := Lib.hid hall
      clear hall
      by_cases hlt : k < s.size
      · have HVK := Lib.hid (HV.out k hlt)
        have z0 : (0 : Int) ≤ (k : Int) := by omega
        have z1 : (k : Int) < (s.size : Int) := by omega
        rcases hi : innB (atB s k) with _ | _
        · have HI := Lib.hid hi
          have HNO := Lib.hid (show s.data.toList.all innB = false from Bool.eq_false_iff.2 fun h => by have h2 := HALL.out.1 h k hlt; rw [hi] at h2; cases h2)
          clear hi
          go_wp2_with fail
          refine (inner_any (atB s k) _ w (by rw [HVK.out])).mono ?_
          rw [HI.out]
          rintro e w' ⟨rfl, rfl⟩
          go_wp2
          go_ret
          exact ⟨ret_bool (by rw [HF.out, HL.out, HNO.out]; rfl), Below.refl _ _⟩
        · have HI := Lib.hid hi
          clear hi
          go_wp2_with fail
          refine (inner_any (atB s k) _ w (by rw [HVK.out])).mono ?_
          rw [HI.out]
          rintro e w' ⟨rfl, rfl⟩
          go_wp2_with fail
          go_round
          case rel => exact ⟨k + 1, hlt, fun j hj => (Nat.lt_succ_iff_lt_or_eq.1 hj).elim (HA.out j) fun e => by subst e; exact HI.out, by go_num⟩
          case measure => simp [intOf]; omega
      · obtain rfl : k = s.size := by omega
        have HYES := Lib.hid (HALL.out.2 HA.out)
        go_wp2
        go_ret
        exact ⟨ret_bool (by rw [HF.out, HL.out, HYES.out]; rfl), Below.refl _ _⟩

def resL : List (List UInt8) := [[116, 114, 117, 101], [102, 97, 108, 115, 101], [118, 97, 114], [105, 110], [105, 110, 105, 116], [112, 114, 111, 99], [108, 111, 99], [101, 110, 100]]
def resB (l : List UInt8) : Bool := resL.contains l
def resZ : List ByteArray := resL.map fun l => ⟨l.toArray⟩
theorem res_eq (s : ByteArray) : Lib.containsS (resZ.take 8) s = resB s.data.toList := by
  rw [Bool.eq_iff_iff, Lib.containsS_iff]
  unfold resB resZ
  rw [List.take_of_length_le (by simp [resL]), List.mem_map, List.contains_iff_mem]
  constructor
  · rintro ⟨l, hl, rfl⟩
    simpa using hl
  · intro h
    refine ⟨_, h, ?_⟩
    cases s
    simp
set_option maxRecDepth 100000 in
set_option maxHeartbeats 4000000 in
theorem reserved_any (s : ByteArray) (w : World) : Calls Try.prog 47 #[.string s] w fun e w' => e = .returned (.bool (resB s.data.toList)) ∧ Below w.heap.size w w' := by
  have HR := Lib.hid (res_eq s)
  go_enter Try.func47, Try.ntmps47
  go_wp2_with fail
  refine (Try.slices_Contains_string w.heap.size 0 8 8 resZ s _ (by decide) (by decide) ?hc).mono ?_
  case hc =>
    intro j hj
    have hj' : j < 8 := hj
    rw [Nat.zero_add, (Blk.new w _ _).cell]
    iterate 8 (rcases j with _ | j; · rfl)
    omega
  rw [HR.out]
  rintro e w' ⟨rfl, rfl⟩
  go_wp2
  go_ret
  exact ⟨rfl, below_one w _⟩
def nameB (l : List UInt8) : Bool := wordB l && !resB l
set_option maxRecDepth 100000 in
set_option maxHeartbeats 4000000 in
theorem name_any (s : ByteArray) (w : World) (hs : s.size ≤ 9223372036854775807) : Calls Try.prog 48 #[.string s] w fun e w' => e = .returned (.bool (nameB s.data.toList)) ∧ Below w.heap.size w w' := by
  rcases h1 : wordB s.data.toList with _ | _
  · have H1 := Lib.hid h1
    clear h1
    go_enter Try.func48, Try.ntmps48
    go_wp2_with fail
    refine (word_any s w hs).mono ?_
    rw [H1.out]
    rintro e w1 ⟨rfl, hb⟩
    have HB := Lib.hid hb
    clear hb
    go_wp2
    go_ret
    exact ⟨ret_bool (by unfold nameB; rw [H1.out]; rfl), HB.out⟩
  · have H1 := Lib.hid h1
    clear h1
    go_enter Try.func48, Try.ntmps48
    go_wp2_with fail
    refine (word_any s w hs).mono ?_
    rw [H1.out]
    rintro e w1 ⟨rfl, hb⟩
    have HB := Lib.hid hb
    clear hb
    go_wp2_with fail
    refine (reserved_any s w1).mono ?_
    rintro e w2 ⟨rfl, hb2⟩
    have HB2 := Lib.hid (below_call HB.out hb2)
    clear hb2
    go_wp2
    go_ret
    exact ⟨ret_bool (by unfold nameB; rw [H1.out]; rfl), HB2.out⟩
end Go.Proofs.Ytedbjkjncfinnaa
