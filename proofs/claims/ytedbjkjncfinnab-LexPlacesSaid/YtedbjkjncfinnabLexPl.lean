/-
  Layer 10's law LexPlaces: returns true.
-/
import Derived.Test.YtedbjkjncfinnabLexSp
import Derived.Test.YtedbjkjncfinnabLexV
namespace Go.Proofs.Ytedbjkjncfinnab
open Go.RowKit

theorem posI_succ (s : ByteArray) (i : Nat) (h : i < s.size) : adv1 (posI s.data.toList i) (atB s i) = posI s.data.toList (i + 1) := by
  unfold posI
  have := take_at s 0 i (by omega)
  rw [List.drop_zero, Nat.zero_add] at this
  rw [this, adv_snoc]
set_option maxRecDepth 100000 in
set_option maxHeartbeats 8000000 in
theorem lexPlaces_any (s : ByteArray) (w : World) (hs : s.size ≤ 9223372036854775807) :
    Calls Try.prog 5 #[.string s] w fun e w' => e = .returned (.bool true) ∧ Below w.heap.size w w' := by
  go_enter Try.func5, Try.ntmps5
  go_wp2_with fail
  refine (alive10_any w).mono ?_
  rintro e w1 ⟨rfl, hb1⟩
  have HB1 := Lib.hid hb1
  clear hb1
  by_cases h1 : 4000 < s.size
  · have q1 : (4000 : Int) < (s.size : Int) := by omega
    go_wp2
    go_ret
    exact ⟨rfl, HB1.out⟩
  have q1 : ¬ (4000 : Int) < (s.size : Int) := by omega
  go_wp2_with fail
  cases hr : lexAll s.data.toList with
  | err c a b =>
    have hc := lexAll_err hr
    have hab := err_place_all hr
    refine (all_err s c a b w1 hr hs).mono ?_
    rintro e w2 ⟨rfl, hb2⟩
    have HB2 := Lib.hid (below_call HB1.out hb2)
    have hq : ((c : Int) != 0) = true := by rw [bne_iff_ne]; omega
    have z1 : (1 : Int) ≤ (a : Int) := by omega
    have z2 : (1 : Int) ≤ (b : Int) := by omega
    have z3 : decide ((1 : Int) ≤ (b : Int)) = true := by rw [decide_eq_true_eq]; omega
    have z4 : decide ((1 : Int) ≤ (a : Int)) = true := by rw [decide_eq_true_eq]; omega
    clear hb2 hr hc hab
    go_wp2
    go_ret
    exact ⟨rfl, below_alloc HB2.out⟩
  | ok ts =>
    have HR := Lib.hid hr
    have HPL := Lib.hid (all_placed hr)
    have hgood := lexAll_good hr
    rw [len_of] at hgood
    obtain ⟨n, hn⟩ : ∃ n, ts.length = n := ⟨_, rfl⟩
    have HN := Lib.hid hn
    have hn5 : n ≤ 4001 := by omega
    clear hgood hn hr
    refine (all_okn s ts n w1 HR.out HN.out hs).mono ?_
    rintro e w2 ⟨A, c, rfl, hts, hb2⟩
    have hbo := below_call hb2 (below_one w2 (.cells #[.int .i64 0, .int .i64 0] 27))
    have HT2 := Lib.hid (hts.call (below_one w2 (.cells #[.int .i64 0, .int .i64 0] 27)))
    have HB2 := Lib.hid (below_call HB1.out hbo)
    have hgen : True := trivial
    clear hb2 hbo hts
    go_wp2_with fail
    generalize (w2.alloc (.cells #[.int .i64 0, .int .i64 0] 27)) = W2 at *
    go_loopw [6, 7, 8, 9] (fun sk sl sc si wr => ∃ (k i ln co : Nat), i ≤ s.size + 1 ∧ k ≤ n ∧ sk = .int .i64 k ∧ sl = .int .i64 ln ∧ sc = .int .i64 co ∧ si = .int .i64 i ∧ (i ≤ s.size → (ln, co) = posI s.data.toList i) ∧ ln ≤ i + 1 ∧ co ≤ i + 1 ∧ Placed s.data.toList i (ts.drop k) ∧ Below W2.heap.size W2 wr) (fun _ _ _ q _ => s.size + 1 - (intOf q).toNat)
    case atStart => exact ⟨0, 0, 1, 1, by omega, Nat.zero_le _, rfl, rfl, rfl, rfl, fun _ => rfl, by omega, by omega, HPL.out, Below.refl _ _⟩
    case round =>
      obtain ⟨k, i, ln, co, hi, hk, rfl, rfl, rfl, rfl, hpos, hln, hco, hpl, hb⟩ := hrel
      have HPO := Lib.hid hpos
      have HPP := Lib.hid hpl
      have HBR := Lib.hid hb
      clear hpos hpl
      by_cases hle : i ≤ s.size
      · have z0 : (0 : Int) ≤ (i : Int) := by omega
        have z1 : (i : Int) ≤ (s.size : Int) := by omega
        have HP := Lib.hid (HPO.out hle)
        by_cases hlt : k < n
        · have hkt : k < ts.length := by have := HN.out; omega
          have hpd := HPP.out
          rw [List.drop_eq_getElem_cons hkt] at hpd
          obtain ⟨j, j1, j2, j3, j4, j5, j6⟩ := hpd
          have HNY := Lib.hid (show j ≠ i → Placed s.data.toList (i + 1) (ts.drop k) from fun hne => by
            rw [List.drop_eq_getElem_cons hkt]
            exact ⟨j, by omega, j2, j3, j4, j5, j6⟩)
          obtain ⟨-, b, rfl, l0, c0, c1, c2, c3⟩ := tks_cells (HT2.out.call hb) k hkt
          have HTX := Lib.hid (show (txtB ts[k]).data.toList = ts[k].text by simp [txtB])
          generalize txtB ts[k] = x at *
          generalize ts[k].ln = tl at *
          generalize ts[k].co = tc at *
          generalize ts[k].text = tx at *
          generalize ts[k].kind = kd at *
          clear hkt hb
          have z2 : (k : Int) < (n : Int) := by omega
          have z3 : (0 : Int) ≤ (k : Int) := by omega
          rw [len_of] at j2
          have hxs : x.size = tx.length := by rw [← len_of, HTX.out]
          by_cases hji : j = i
          · subst hji
            have hpp := j3.trans HP.out.symm
            obtain ⟨rfl, rfl⟩ : tl = ln ∧ tc = co := ⟨(Prod.mk.inj hpp).1, (Prod.mk.inj hpp).2⟩
            obtain ⟨m, hm⟩ : ∃ m, m = tx.length := ⟨_, rfl⟩
            rw [← hm] at j2 j4 j6 hxs
            have HM := Lib.hid hm
            have hex : s.extract j (j + m) = x := by
              have h1 := cut_of s j m
              have h2 : x.data.toList = cut s j m := by rw [HTX.out, j4]; rfl
              rw [← h2] at h1
              generalize s.extract j (j + m) = y at h1 ⊢
              cases y
              cases x
              simp only [ByteArray.mk.injEq]
              exact Array.toList_inj.1 h1
            obtain ⟨e, he⟩ : ∃ e, e = j + m := ⟨_, rfl⟩
            rw [← he] at hex
            have hsum : (j : Int) + (m : Int) = (e : Int) := by omega
            have hwr : IntKind.i64.wrap ((j : Int) + (m : Int)) = (e : Int) := by rw [Go.IntWalk.i64_in _ (by omega)]; omega
            have z5 : ¬ (s.size : Int) < (e : Int) := by omega
            have z6 : decide (s.size < e) = false := by rw [decide_eq_false_iff_not]; omega
            have z7 : (e : Int) ≤ (s.size : Int) := by omega
            have z8 : (j : Int) ≤ (e : Int) := by omega
            have z9 : j ≤ e := by omega
            have HEX := Lib.hid hex
            have HHE := Lib.hid he
            have HJ5 := Lib.hid j5
            have HJ6 := Lib.hid j6
            have HXM := Lib.hid hxs
            clear hpp j3 j4 he hm j5 j6
            have HNA := Lib.hid (show Placed s.data.toList (j + 1) (ts.drop (k + 1)) by
              have hkt : k < ts.length := by have := HN.out; omega
              rcases HJ5.out with h | h
              · rw [h]; trivial
              · exact HJ6.out.le (by have := HM.out; omega))
            by_cases hie : j < s.size
            · have HVB := Lib.hid (atB_lt s j hie)
              have HPS := Lib.hid (posI_succ s j hie)
              have y1 : (j : Int) < (s.size : Int) := by omega
              have y1' : decide (j < s.size) = true := by simpa using hie
              by_cases hnl : (atB s j).toNat = 10
              · have y2 : ((s[j].toNat : Int) == 10) = true := by rw [HVB.out, hnl]; rfl
                have HNP := Lib.hid (show (tl + 1, 1) = posI s.data.toList (j + 1) by rw [← HPS.out, ← HP.out]; unfold adv1; rw [if_pos hnl])
                clear hnl
                go_wp2_with fail
                have hex := HEX.out
                refine wp_region_later (by kernel_rfl) (by kernel_rfl) ?_
                repeat (go_big_quiet_step (fail))
                refine wpQuiet_nil ?_
                rintro _ ⟨y, rfl⟩
                have HB6 := Lib.hid (below_call HBR.out (below_later wr y))
                generalize later wr y = w6 at *
                clear c0 c1 c2 c3 l0 hex
                go_wp2_with fail
                go_roundw
                case rel => exact ⟨k + 1, j + 1, tl + 1, 1, by omega, by omega, by go_num, by go_num, by go_num, by go_num, fun _ => HNP.out, by omega, by omega, HNA.out, HB6.out⟩
                case measure => simp [intOf]; omega
              · have y2 : ((s[j].toNat : Int) == 10) = false := by rw [HVB.out, beq_eq_false_iff_ne]; omega
                have HNP := Lib.hid (show (tl, tc + 1) = posI s.data.toList (j + 1) by rw [← HPS.out, ← HP.out]; unfold adv1; rw [if_neg hnl])
                clear hnl
                go_wp2_with fail
                have hex := HEX.out
                refine wp_region_later (by kernel_rfl) (by kernel_rfl) ?_
                repeat (go_big_quiet_step (fail))
                refine wpQuiet_nil ?_
                rintro _ ⟨y, rfl⟩
                have HB6 := Lib.hid (below_call HBR.out (below_later wr y))
                generalize later wr y = w6 at *
                clear c0 c1 c2 c3 l0 hex
                go_wp2_with fail
                go_roundw
                case rel => exact ⟨k + 1, j + 1, tl, tc + 1, by omega, by omega, by go_num, by go_num, by go_num, by go_num, fun _ => HNP.out, by omega, by omega, HNA.out, HB6.out⟩
                case measure => simp [intOf]; omega
            · have y1 : ¬ (j : Int) < (s.size : Int) := by omega
              have y1' : decide (j < s.size) = false := by simpa using hie
              have hiz : j = s.size := by omega
              have HIZ := Lib.hid hiz
              clear hiz
              go_wp2_with fail
              have hex := HEX.out
              refine wp_region_later (by kernel_rfl) (by kernel_rfl) ?_
              repeat (go_big_quiet_step (fail))
              refine wpQuiet_nil ?_
              rintro _ ⟨y, rfl⟩
              have HB6 := Lib.hid (below_call HBR.out (below_later wr y))
              generalize later wr y = w6 at *
              clear c0 c1 c2 c3 l0 hex
              go_wp2_with fail
              go_roundw
              case rel => exact ⟨k + 1, j + 1, tl, tc + 1, by omega, by omega, by go_num, by go_num, by go_num, by go_num, fun h => absurd h (by have := HIZ.out; omega), by omega, by omega, HNA.out, HB6.out⟩
              case measure => simp [intOf]; omega
          · have hbef := posI_bef s.data.toList i j (by omega) (by rw [len_of]; omega)
            rw [← HP.out, ← j3] at hbef
            have hno := bef_ne hbef
            simp only at hno
            have HNX := Lib.hid (HNY.out hji)
            clear hbef j1 j2 j3 j4 j5 j6 hxs
            by_cases hll : ln = tl
            · have hcc : ¬ co = tc := fun h => hno ⟨hll, h⟩
              have t1 : ((tl : Int) == (ln : Int)) = true := by rw [hll]; simp
              have t2 : ((tc : Int) == (co : Int)) = false := by rw [beq_eq_false_iff_ne]; omega
              clear hno hll hcc hji
              by_cases hie : i < s.size
              · have HVB := Lib.hid (atB_lt s i hie)
                have HPS := Lib.hid (posI_succ s i hie)
                have y1 : (i : Int) < (s.size : Int) := by omega
                have y1' : decide (i < s.size) = true := by simpa using hie
                by_cases hnl : (atB s i).toNat = 10
                · have y2 : ((s[i].toNat : Int) == 10) = true := by rw [HVB.out, hnl]; rfl
                  have HNP := Lib.hid (show (ln + 1, 1) = posI s.data.toList (i + 1) by rw [← HPS.out, ← HP.out]; unfold adv1; rw [if_pos hnl])
                  clear hnl
                  go_wp2_with fail
                  go_roundw
                  case rel => exact ⟨k, i + 1, ln + 1, 1, by omega, by omega, by go_num, by go_num, by go_num, by go_num, fun _ => HNP.out, by omega, by omega, HNX.out, HBR.out⟩
                  case measure => simp [intOf]; omega
                · have y2 : ((s[i].toNat : Int) == 10) = false := by rw [HVB.out, beq_eq_false_iff_ne]; omega
                  have HNP := Lib.hid (show (ln, co + 1) = posI s.data.toList (i + 1) by rw [← HPS.out, ← HP.out]; unfold adv1; rw [if_neg hnl])
                  clear hnl
                  go_wp2_with fail
                  go_roundw
                  case rel => exact ⟨k, i + 1, ln, co + 1, by omega, by omega, by go_num, by go_num, by go_num, by go_num, fun _ => HNP.out, by omega, by omega, HNX.out, HBR.out⟩
                  case measure => simp [intOf]; omega
              · have y1 : ¬ (i : Int) < (s.size : Int) := by omega
                have y1' : decide (i < s.size) = false := by simpa using hie
                have hiz : i = s.size := by omega
                have HIZ := Lib.hid hiz
                clear hiz
                go_wp2_with fail
                go_roundw
                case rel => exact ⟨k, i + 1, ln, co + 1, by omega, by omega, by go_num, by go_num, by go_num, by go_num, fun h => absurd h (by have := HIZ.out; omega), by omega, by omega, HNX.out, HBR.out⟩
                case measure => simp [intOf]; omega
            · have t1 : ((tl : Int) == (ln : Int)) = false := by rw [beq_eq_false_iff_ne]; omega
              clear hno hll hji
              by_cases hie : i < s.size
              · have HVB := Lib.hid (atB_lt s i hie)
                have HPS := Lib.hid (posI_succ s i hie)
                have y1 : (i : Int) < (s.size : Int) := by omega
                have y1' : decide (i < s.size) = true := by simpa using hie
                by_cases hnl : (atB s i).toNat = 10
                · have y2 : ((s[i].toNat : Int) == 10) = true := by rw [HVB.out, hnl]; rfl
                  have HNP := Lib.hid (show (ln + 1, 1) = posI s.data.toList (i + 1) by rw [← HPS.out, ← HP.out]; unfold adv1; rw [if_pos hnl])
                  clear hnl
                  go_wp2_with fail
                  go_roundw
                  case rel => exact ⟨k, i + 1, ln + 1, 1, by omega, by omega, by go_num, by go_num, by go_num, by go_num, fun _ => HNP.out, by omega, by omega, HNX.out, HBR.out⟩
                  case measure => simp [intOf]; omega
                · have y2 : ((s[i].toNat : Int) == 10) = false := by rw [HVB.out, beq_eq_false_iff_ne]; omega
                  have HNP := Lib.hid (show (ln, co + 1) = posI s.data.toList (i + 1) by rw [← HPS.out, ← HP.out]; unfold adv1; rw [if_neg hnl])
                  clear hnl
                  go_wp2_with fail
                  go_roundw
                  case rel => exact ⟨k, i + 1, ln, co + 1, by omega, by omega, by go_num, by go_num, by go_num, by go_num, fun _ => HNP.out, by omega, by omega, HNX.out, HBR.out⟩
                  case measure => simp [intOf]; omega
              · have y1 : ¬ (i : Int) < (s.size : Int) := by omega
                have y1' : decide (i < s.size) = false := by simpa using hie
                have hiz : i = s.size := by omega
                have HIZ := Lib.hid hiz
                clear hiz
                go_wp2_with fail
                go_roundw
                case rel => exact ⟨k, i + 1, ln, co + 1, by omega, by omega, by go_num, by go_num, by go_num, by go_num, fun h => absurd h (by have := HIZ.out; omega), by omega, by omega, HNX.out, HBR.out⟩
                case measure => simp [intOf]; omega
        · obtain rfl : k = n := by omega
          have HNX := Lib.hid (show Placed s.data.toList (i + 1) (ts.drop k) by
            rw [List.drop_of_length_le (by have := HN.out; omega)]
            trivial)
          clear hb
          have z2 : ¬ (k : Int) < (k : Int) := by omega
          by_cases hie : i < s.size
          · have HVB := Lib.hid (atB_lt s i hie)
            have HPS := Lib.hid (posI_succ s i hie)
            have y1 : (i : Int) < (s.size : Int) := by omega
            have y1' : decide (i < s.size) = true := by simpa using hie
            by_cases hnl : (atB s i).toNat = 10
            · have y2 : ((s[i].toNat : Int) == 10) = true := by rw [HVB.out, hnl]; rfl
              have HNP := Lib.hid (show (ln + 1, 1) = posI s.data.toList (i + 1) by rw [← HPS.out, ← HP.out]; unfold adv1; rw [if_pos hnl])
              clear hnl
              go_wp2_with fail
              go_roundw
              case rel => exact ⟨k, i + 1, ln + 1, 1, by omega, by omega, by go_num, by go_num, by go_num, by go_num, fun _ => HNP.out, by omega, by omega, HNX.out, HBR.out⟩
              case measure => simp [intOf]; omega
            · have y2 : ((s[i].toNat : Int) == 10) = false := by rw [HVB.out, beq_eq_false_iff_ne]; omega
              have HNP := Lib.hid (show (ln, co + 1) = posI s.data.toList (i + 1) by rw [← HPS.out, ← HP.out]; unfold adv1; rw [if_neg hnl])
              clear hnl
              go_wp2_with fail
              go_roundw
              case rel => exact ⟨k, i + 1, ln, co + 1, by omega, by omega, by go_num, by go_num, by go_num, by go_num, fun _ => HNP.out, by omega, by omega, HNX.out, HBR.out⟩
              case measure => simp [intOf]; omega
          · have y1 : ¬ (i : Int) < (s.size : Int) := by omega
            have y1' : decide (i < s.size) = false := by simpa using hie
            have hiz : i = s.size := by omega
            have HIZ := Lib.hid hiz
            clear hiz
            go_wp2_with fail
            go_roundw
            case rel => exact ⟨k, i + 1, ln, co + 1, by omega, by omega, by go_num, by go_num, by go_num, by go_num, fun h => absurd h (by have := HIZ.out; omega), by omega, by omega, HNX.out, HBR.out⟩
            case measure => simp [intOf]; omega
      · obtain rfl : i = s.size + 1 := by omega
        have HKN := Lib.hid (show k = n by
          rcases Nat.lt_or_ge k n with h | h
          · exfalso
            have hkt : k < ts.length := by have := HN.out; omega
            have hpd := HPP.out
            rw [List.drop_eq_getElem_cons hkt] at hpd
            obtain ⟨j, j1, j2, _⟩ := hpd
            rw [len_of] at j2
            omega
          · omega)
        have hkn : ((k : Int) == (n : Int)) = true := by rw [HKN.out]; simp
        have z1 : ¬ (((s.size + 1 : Nat) : Int) ≤ (s.size : Int)) := by omega
        clear hb
        go_wp2
        go_ret
        exact ⟨rfl, below_call HB2.out HBR.out⟩
end Go.Proofs.Ytedbjkjncfinnab
