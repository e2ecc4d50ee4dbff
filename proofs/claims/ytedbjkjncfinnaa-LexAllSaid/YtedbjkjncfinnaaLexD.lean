/-
  Layer 10: a sign is taken.
-/
import Derived.Test.YtedbjkjncfinnaaLexC
namespace Go.Proofs.Ytedbjkjncfinnaa
open Go.RowKit

def sgB (k : Nat) : ByteArray := ⟨(sgns.getD k []).toArray⟩
theorem sgB_list (k : Nat) : (sgB k).data.toList = sgns.getD k [] := by simp [sgB]
set_option maxRecDepth 100000 in
theorem signs_any (w : World) : Calls Try.prog 92 #[] w fun e w' => ∃ b, e = .returned (.slice (some ⟨b, 0, none⟩) 23 23) ∧ b < w'.heap.size ∧ (∀ k, k < 23 → w'.cell? ⟨b, k, none⟩ = some (.string (sgB k))) ∧ Below w.heap.size w w' := by
  go_enter Try.func92, Try.ntmps92
  go_wp2
  go_ret
  refine ⟨w.heap.size, rfl, by simp, fun k hk => ?_, below_one w _⟩
  rw [(Blk.new w _ _).cell]
  iterate 23 (rcases k with _ | k; · rfl)
  omega
/-- None of the first k signs stands there. -/
def NoSign (l : List UInt8) (k : Nat) : Prop := ∀ j, j < k → (sgns.getD j []).isPrefixOf l = false
theorem noSign_len {l : List UInt8} (h : NoSign l 23) : sgnLen l = 0 := by
  unfold sgnLen
  have : sgns.find? (·.isPrefixOf l) = none := by
    rw [List.find?_eq_none]
    intro x hx
    obtain ⟨j, hj, rfl⟩ := List.getElem_of_mem hx
    have h2 := h j hj
    rw [List.getD_eq_getElem?_getD, List.getElem?_eq_getElem hj] at h2
    have h3 : sgns[j].isPrefixOf l = false := h2
    rw [h3]
    decide
  rw [this]
theorem sign_len {l : List UInt8} {k : Nat} (h : NoSign l k) (hk : k < 23) (hp : (sgns.getD k []).isPrefixOf l = true) : sgnLen l = (sgns.getD k []).length := by
  unfold sgnLen
  have : sgns.find? (·.isPrefixOf l) = some (sgns.getD k []) := by
    have hk' : k < sgns.length := hk
    rw [List.find?_eq_some_iff_getElem]
    refine ⟨hp, k, hk', by rw [List.getD_eq_getElem?_getD, List.getElem?_eq_getElem hk']; rfl, fun j hj => ?_⟩
    have h2 := h j hj
    rw [List.getD_eq_getElem?_getD, List.getElem?_eq_getElem (by omega)] at h2
    have h3 : sgns[j].isPrefixOf l = false := h2
    rw [h3]
    rfl
  rw [this]
theorem rest_of (s : ByteArray) (i : Nat) : (s.extract i s.size).data.toList = s.data.toList.drop i := by
  rw [ByteArray.data_extract, Array.toList_extract, List.extract_eq_take_drop]
  exact List.take_of_length_le (by rw [List.length_drop, Array.length_toList]; exact Nat.le_refl _)
theorem prefix_cut {s : ByteArray} {i : Nat} {x : List UInt8} (h : x.isPrefixOf (s.data.toList.drop i) = true) : x = cut s i x.length := by
  unfold cut
  exact List.prefix_iff_eq_take.1 (List.isPrefixOf_iff_prefix.1 h)

set_option maxRecDepth 100000 in
set_option maxHeartbeats 4000000 in
theorem sign_any (s : ByteArray) (g i : Nat) (p : Nat × Nat) (w : World) (hs : s.size ≤ 20000) (hi : i ≤ s.size) (hp : Near p i) (hr : Rd w g s i p) :
    Calls Try.prog 81 #[.pointer (some ⟨g, 0, none⟩)] w fun e w' => ∃ t : ByteArray, e = .returned (.string t) ∧ t.data.toList = cut s i (sgnLen (s.data.toList.drop i)) ∧
      Rd w' g s (i + sgnLen (s.data.toList.drop i)) (posAt s i p (sgnLen (s.data.toList.drop i))) ∧ w.grownBy w' (some g) := by
  have HR := Lib.hid hr
  have HP := Lib.hid hp
  clear hr hp
  go_enter Try.func81, Try.ntmps81
  go_wp2_with fail
  refine (signs_any w).mono ?_
  rintro e w0 ⟨b, rfl, hbl, hcells, hb0⟩
  have HC := Lib.hid hcells
  have HB0 := Lib.hid hb0
  have HR0 := Lib.hid (show Rd w0 g s i p from Blk.call HR.out hb0)
  clear hcells hb0
  go_wp2_with fail
  go_loopw [7] (fun q wr => ∃ k : Nat, k ≤ 23 ∧ q = .int .i64 k ∧ NoSign (s.data.toList.drop i) k ∧ Below w0.heap.size w0 wr) (fun q _ => 23 - (intOf q).toNat)
  case atStart => exact ⟨0, Nat.zero_le _, rfl, fun j hj => absurd hj (by omega), Below.refl _ _⟩
  case round =>
    obtain ⟨k, hk, rfl, hno, hb⟩ := hrel
    have HNO := Lib.hid hno
    clear hno
    by_cases hlt : k < 23
    · have hc := (hb.cell (p := ⟨b, k, none⟩) hbl).trans (HC.out k hlt)
      have hrd : Rd wr g s i p := Blk.call HR0.out hb
      obtain ⟨c0, c1, _⟩ := hrd.cells
      have HB := Lib.hid hb
      have HRD := Lib.hid hrd
      have l0 : g < wr.heap.size := lt_size c0
      have l1 : b < wr.heap.size := lt_size hc
      have q0 : (0 : Int) ≤ (k : Int) := by omega
      have q1 : (k : Int) < 23 := by omega
      have q2 : (0 : Int) ≤ (i : Int) := by omega
      have q3 : (i : Int) ≤ (s.size : Int) := by omega
      generalize hx : sgB k = x at *
      have HX := Lib.hid hx
      clear hx hb hrd
      have hpv : ∃ v, Lib.hasPrefix (s.extract i s.size).data.toList x.data.toList = v := ⟨_, rfl⟩
      obtain ⟨v, hv⟩ := hpv
      have HV := Lib.hid hv
      clear hv
      go_wp2_with fail
      refine wp_region_later (by kernel_rfl) (by kernel_rfl) ?_
      repeat (go_big_quiet_step ((exact later_same ((Try.strings_HasPrefix _ _ _).mono fun e w' h => ⟨h.1.trans (by rw [HV.out]), h.2.symm⟩))))
      refine wpQuiet_nil ?_
      rintro _ ⟨y, rfl⟩
      have hby := below_later wr y
      generalize later wr y = w1 at *
      have HB1 := Lib.hid (below_call HB.out hby)
      have HRD1 := Lib.hid (show Rd w1 g s i p from Blk.call HRD.out hby)
      have HPV := Lib.hid (show (sgns.getD k []).isPrefixOf (s.data.toList.drop i) = v by rw [← rest_of s i, ← sgB_list k, HX.out]; exact HV.out)
      have HXL := Lib.hid (show x.data.toList = sgns.getD k [] by rw [← HX.out]; exact sgB_list k)
      clear hby hc c0 c1 l0 l1
      cases v with
      | true =>
        have HLEN := Lib.hid (sign_len HNO.out hlt HPV.out)
        have HCUT := Lib.hid (prefix_cut HPV.out)
        have hxs : x.size = (sgns.getD k []).length := by rw [← HXL.out]; simp
        have hle : i + x.size ≤ s.size := by
          have h1 := (List.isPrefixOf_iff_prefix.1 HPV.out).length_le
          have e : (s.data.toList.drop i).length = s.size - i := by simp
          rw [hxs]
          omega
        have HXS := Lib.hid hxs
        clear hxs
        go_wp2_with fail
        go_loopw [24] (fun q wr => ∃ m : Nat, m ≤ x.size ∧ q = .int .i64 m ∧ Rd wr g s (i + m) (posAt s i p m) ∧ w1.grownBy wr (some g)) (fun q _ => x.size - (intOf q).toNat)
        case atStart => exact ⟨0, Nat.zero_le _, rfl, by simpa [posAt, adv] using HRD1.out, grown_of_call (Below.refl _ _)⟩
        case round =>
          obtain ⟨m, hm, rfl, hrd, hgr⟩ := hrel
          have HRM := Lib.hid hrd
          have HGR := Lib.hid hgr
          clear hrd hgr
          by_cases hlt2 : m < x.size
          · go_wp2_with fail
            refine (step_any s g _ _ wr (by omega) (by omega) ((posAt_near s i m p HP.out (by omega)).small (by omega)) HRM.out).mono ?_
            rintro e2 w2 ⟨rfl, hrd2, hg2⟩
            have HRD2 := Lib.hid hrd2
            have HG2 := Lib.hid hg2
            clear hrd2 hg2
            go_wp2_with fail
            go_roundw
            case rel =>
              refine ⟨m + 1, hlt2, by go_num, ?_, grown_trans HGR.out HG2.out⟩
              have h1 := HRD2.out
              rw [posAt_succ s i m p (by omega), Nat.add_assoc] at h1
              exact h1
            case measure => simp [intOf]; omega
          · obtain rfl : m = x.size := by omega
            go_wp2
            go_ret
            refine ⟨_, rfl, ?_, ?_, grown_trans (grown_of_call (below_call HB0.out HB1.out)) HGR.out⟩
            · rw [HLEN.out, HXL.out]
              exact HCUT.out
            · rw [HLEN.out, ← HXS.out]
              exact HRM.out
      | false =>
        have HNO2 := Lib.hid (show NoSign (s.data.toList.drop i) (k + 1) from fun j hj => (Nat.lt_succ_iff_lt_or_eq.1 hj).elim (HNO.out j) fun e => by subst e; exact HPV.out)
        go_wp2_with fail
        go_roundw
        case rel => exact ⟨k + 1, hlt, by go_num, HNO2.out, HB1.out⟩
        case measure => simp [intOf]; omega
    · obtain rfl : k = 23 := by omega
      have HZ := Lib.hid (noSign_len HNO.out)
      go_wp2
      go_ret
      refine ⟨_, rfl, by rw [HZ.out]; rfl, ?_, grown_of_call (below_call HB0.out hb)⟩
      rw [HZ.out]
      have h1 := Blk.call HR0.out hb
      exact h1
end Go.Proofs.Ytedbjkjncfinnaa
