/-
  Layer 15, the reference on words: Letter.
-/
import Derived.Test.YtedbjkjncfinnaaRefW
namespace Go.Proofs.Ytedbjkjncfinnaa
open Go.RowKit


set_option maxHeartbeats 2000000 in
set_option maxRecDepth 100000 in
theorem rletter_any (x : Wd) (A B : Option Addr) (c d i : Nat) (pr : Int) (w : World) (S : Nat → Prop) (hi : i ≤ 1000000000000) (hS : Bd S w) (_hbig : x.size ≤ 1000000000) (hcy : 0 < x.cycle.length)
    (hf : WdIs w S x (.slice A x.stem.length c) (.slice B x.cycle.length d)) :
    Calls Try.prog 36 #[.agg #[.slice A x.stem.length c, .slice B x.cycle.length d], .int .i64 i, .int .i64 pr] w fun e w' => e = .returned (.bool (hasAt (x.far i) pr)) ∧ Below w.heap.size w w' := by
  -- the letter's cells, in whatever later world
  have key : ∃ l : List Bool, x.far i = l ∧ ∃ b o E e, (if x.stem.length ≤ i then B else A) = some ⟨b, o, none⟩ ∧ b < w.heap.size ∧ w.cell? ⟨b, o + (if x.stem.length ≤ i then (i - x.stem.length) % x.cycle.length else i), none⟩ = some (.slice E l.length e) ∧
      ∀ k, k < l.length → ∃ b2 o2, E = some ⟨b2, o2, none⟩ ∧ w.cell? ⟨b2, o2 + k, none⟩ = some (.bool (l.getD k false)) ∧ b2 < w.heap.size := by
    have row : ∀ (l : List Bool) (E : Option Addr) (e : Nat), LetIs w S l (.slice E l.length e) → ∀ k, k < l.length → ∃ b2 o2, E = some ⟨b2, o2, none⟩ ∧ w.cell? ⟨b2, o2 + k, none⟩ = some (.bool (l.getD k false)) ∧ b2 < w.heap.size := by
      intro l E e hl k hk
      obtain ⟨_, _, _, h4⟩ := hl.at_
      obtain ⟨b, o, hE, hs, hx⟩ := h4 (by omega)
      exact ⟨b, o, hE, hx k hk, hS b hs⟩
    unfold Wd.size at _hbig
    by_cases hs : x.stem.length ≤ i
    · have hmod := Nat.mod_lt (i - x.stem.length) hcy
      obtain ⟨b, o, E, e, hB, hc, hb, hl⟩ := lets_at hf.2 hS ((i - x.stem.length) % x.cycle.length) hmod
      refine ⟨_, rfl, b, o, E, e, ?_⟩
      have hfar : x.far i = x.cycle[(i - x.stem.length) % x.cycle.length] := by
        unfold Wd.far Wd.place Wd.letter
        rw [if_pos hs, if_pos (by omega), List.getD_eq_getElem?_getD, Nat.add_sub_cancel_left, List.getElem?_eq_getElem hmod]
        rfl
      rw [hfar, if_pos hs, if_pos hs]
      exact ⟨hB, hb, hc, row _ _ _ hl⟩
    · obtain ⟨b, o, E, e, hA, hc, hb, hl⟩ := lets_at hf.1 hS i (by omega)
      refine ⟨_, rfl, b, o, E, e, ?_⟩
      have hfar : x.far i = x.stem[i] := by
        unfold Wd.far Wd.place Wd.letter
        rw [if_neg hs, if_neg hs, List.getD_eq_getElem?_getD, List.getElem?_eq_getElem (by omega)]
        rfl
      rw [hfar, if_neg hs, if_neg hs]
      exact ⟨hA, hb, hc, row _ _ _ hl⟩
  obtain ⟨l, hl, b, o, E, e, hAB, hb, hc, hrow⟩ := key
  rw [hl]
  unfold Wd.size at _hbig
  clear hf hS hl
  generalize x.stem.length = n at *
  generalize x.cycle.length = m at *
  have HL : Hid (∀ k, k < l.length → ∃ b2 o2, E = some ⟨b2, o2, none⟩ ∧ w.cell? ⟨b2, o2 + k, none⟩ = some (.bool (l.getD k false)) ∧ b2 < w.heap.size) := hrow
  clear hrow
  generalize hq : l.length = q at *
  have HQ := Lib.hid hq
  clear hq
  by_cases hs : n ≤ i
  · rw [if_pos hs] at hAB hc
    subst hAB
    have hm0 : (0 : Int) < (m : Int) := by omega
    have hlt := Nat.mod_lt (i - n) hcy
    have hrem : ((i : Int) - (n : Int)) % (m : Int) = (((i - n) % m : Nat) : Int) := by rw [Int.natCast_emod, Int.ofNat_sub hs]
    have hsub : (0 : Int) ≤ (i : Int) - (n : Int) := by omega
    generalize (i - n) % m = q0 at *
    have hnl : ¬ ((i : Int) < (n : Int)) := by omega
    have q1 : (0 : Int) ≤ (q0 : Int) := by omega
    have q2 : (q0 : Int) < (m : Int) := by omega
    rcases Int.lt_or_le pr 0 with hneg | hpos
    · have hfin := Lib.hid (show hasAt l pr = false by unfold hasAt; rw [if_neg (by omega)])
      have hp0 : decide ((0 : Int) ≤ pr) = false := by simp; omega
      go_enter Try.func36, Try.ntmps36
      go_wp2_with fail
      have hbW : Below w.heap.size w ((w.alloc (.cells #[.slice A n c, .slice (some ⟨b, o, none⟩) m d] 32)).alloc (.cells #[] 4)) := below_alloc (below_one _ _)
      have b0 : ((w.alloc (.cells #[.slice A n c, .slice (some ⟨b, o, none⟩) m d] 32)).alloc (.cells #[] 4)).cell? ⟨w.heap.size, 0, none⟩ = some (.slice A n c) := by simp [go_sem]
      have b1 : ((w.alloc (.cells #[.slice A n c, .slice (some ⟨b, o, none⟩) m d] 32)).alloc (.cells #[] 4)).cell? ⟨w.heap.size, 1, none⟩ = some (.slice (some ⟨b, o, none⟩) m d) := by simp [go_sem]
      have l0 : w.heap.size < ((w.alloc (.cells #[.slice A n c, .slice (some ⟨b, o, none⟩) m d] 32)).alloc (.cells #[] 4)).heap.size := by simp; omega
      generalize ((w.alloc (.cells #[.slice A n c, .slice (some ⟨b, o, none⟩) m d] 32)).alloc (.cells #[] 4)) = W at *
      have g1 := (hbW.cell (p := ⟨b, o + q0, none⟩) hb).trans hc
      have l1 : b < W.heap.size := lt_size g1
      skip
      refine wp_region_later (by kernel_rfl) (by kernel_rfl) ?_
      repeat (go_big_quiet_step (fail))
      refine wpQuiet_nil ?_
      rintro _ ⟨y, rfl⟩
      go_wp2
      go_ret
      exact ⟨ret_bool hfin.out.symm, hbW.trans ((below_later _ _).mono hbW.size)⟩
    · obtain ⟨k, rfl⟩ := Int.eq_ofNat_of_zero_le hpos
      have hp0 : decide ((0 : Int) ≤ (k : Int)) = true := by simp
      by_cases hk : k < q
      · obtain ⟨b2, o2, rfl, hc2, hb2⟩ := HL.out k hk
        have hp1 : decide ((k : Int) < (q : Int)) = true := by simp; omega
        have hp2 : (k : Int) < (q : Int) := by omega
        have hfin := Lib.hid (show hasAt l k = l.getD k false by unfold hasAt; rw [if_pos (by omega)]; rfl)
        go_enter Try.func36, Try.ntmps36
        go_wp2_with fail
        have hbW : Below w.heap.size w ((w.alloc (.cells #[.slice A n c, .slice (some ⟨b, o, none⟩) m d] 32)).alloc (.cells #[] 4)) := below_alloc (below_one _ _)
        have b0 : ((w.alloc (.cells #[.slice A n c, .slice (some ⟨b, o, none⟩) m d] 32)).alloc (.cells #[] 4)).cell? ⟨w.heap.size, 0, none⟩ = some (.slice A n c) := by simp [go_sem]
        have b1 : ((w.alloc (.cells #[.slice A n c, .slice (some ⟨b, o, none⟩) m d] 32)).alloc (.cells #[] 4)).cell? ⟨w.heap.size, 1, none⟩ = some (.slice (some ⟨b, o, none⟩) m d) := by simp [go_sem]
        have l0 : w.heap.size < ((w.alloc (.cells #[.slice A n c, .slice (some ⟨b, o, none⟩) m d] 32)).alloc (.cells #[] 4)).heap.size := by simp; omega
        generalize ((w.alloc (.cells #[.slice A n c, .slice (some ⟨b, o, none⟩) m d] 32)).alloc (.cells #[] 4)) = W at *
        have g1 := (hbW.cell (p := ⟨b, o + q0, none⟩) hb).trans hc
        have l1 : b < W.heap.size := lt_size g1
        have g2 := (hbW.cell (p := ⟨b2, o2 + k, none⟩) hb2).trans hc2
        have l2 : b2 < W.heap.size := lt_size g2
        refine wp_region_later (by kernel_rfl) (by kernel_rfl) ?_
        repeat (go_big_quiet_step (fail))
        refine wpQuiet_nil ?_
        rintro _ ⟨y, rfl⟩
        go_wp2
        go_ret
        exact ⟨ret_bool hfin.out.symm, hbW.trans ((below_later _ _).mono hbW.size)⟩
      · have hp1 : decide ((k : Int) < (q : Int)) = false := by simp; omega
        have hfin := Lib.hid (show hasAt l k = false by unfold hasAt; rw [if_pos (by omega), List.getD_eq_getElem?_getD, List.getElem?_eq_none (by have := HQ.out; simp; omega)]; rfl)
        go_enter Try.func36, Try.ntmps36
        go_wp2_with fail
        have hbW : Below w.heap.size w ((w.alloc (.cells #[.slice A n c, .slice (some ⟨b, o, none⟩) m d] 32)).alloc (.cells #[] 4)) := below_alloc (below_one _ _)
        have b0 : ((w.alloc (.cells #[.slice A n c, .slice (some ⟨b, o, none⟩) m d] 32)).alloc (.cells #[] 4)).cell? ⟨w.heap.size, 0, none⟩ = some (.slice A n c) := by simp [go_sem]
        have b1 : ((w.alloc (.cells #[.slice A n c, .slice (some ⟨b, o, none⟩) m d] 32)).alloc (.cells #[] 4)).cell? ⟨w.heap.size, 1, none⟩ = some (.slice (some ⟨b, o, none⟩) m d) := by simp [go_sem]
        have l0 : w.heap.size < ((w.alloc (.cells #[.slice A n c, .slice (some ⟨b, o, none⟩) m d] 32)).alloc (.cells #[] 4)).heap.size := by simp; omega
        generalize ((w.alloc (.cells #[.slice A n c, .slice (some ⟨b, o, none⟩) m d] 32)).alloc (.cells #[] 4)) = W at *
        have g1 := (hbW.cell (p := ⟨b, o + q0, none⟩) hb).trans hc
        have l1 : b < W.heap.size := lt_size g1
        skip
        refine wp_region_later (by kernel_rfl) (by kernel_rfl) ?_
        repeat (go_big_quiet_step (fail))
        refine wpQuiet_nil ?_
        rintro _ ⟨y, rfl⟩
        go_wp2
        go_ret
        exact ⟨ret_bool hfin.out.symm, hbW.trans ((below_later _ _).mono hbW.size)⟩
  · rw [if_neg hs] at hAB hc
    subst hAB
    have hil : (i : Int) < (n : Int) := by omega
    rcases Int.lt_or_le pr 0 with hneg | hpos
    · have hfin := Lib.hid (show hasAt l pr = false by unfold hasAt; rw [if_neg (by omega)])
      have hp0 : decide ((0 : Int) ≤ pr) = false := by simp; omega
      go_enter Try.func36, Try.ntmps36
      go_wp2
      go_ret
      exact ⟨ret_bool hfin.out.symm, below_alloc (below_one _ _)⟩
    · obtain ⟨k, rfl⟩ := Int.eq_ofNat_of_zero_le hpos
      have hp0 : decide ((0 : Int) ≤ (k : Int)) = true := by simp
      by_cases hk : k < q
      · obtain ⟨b2, o2, rfl, hc2, hb2⟩ := HL.out k hk
        have hp1 : decide ((k : Int) < (q : Int)) = true := by simp; omega
        have hp2 : (k : Int) < (q : Int) := by omega
        have hfin := Lib.hid (show hasAt l k = l.getD k false by unfold hasAt; rw [if_pos (by omega)]; rfl)
        go_enter Try.func36, Try.ntmps36
        go_wp2
        go_ret
        exact ⟨ret_bool hfin.out.symm, below_alloc (below_one _ _)⟩
      · have hp1 : decide ((k : Int) < (q : Int)) = false := by simp; omega
        have hfin := Lib.hid (show hasAt l k = false by unfold hasAt; rw [if_pos (by omega), List.getD_eq_getElem?_getD, List.getElem?_eq_none (by have := HQ.out; simp; omega)]; rfl)
        go_enter Try.func36, Try.ntmps36
        go_wp2
        go_ret
        exact ⟨ret_bool hfin.out.symm, below_alloc (below_one _ _)⟩
end Go.Proofs.Ytedbjkjncfinnaa
