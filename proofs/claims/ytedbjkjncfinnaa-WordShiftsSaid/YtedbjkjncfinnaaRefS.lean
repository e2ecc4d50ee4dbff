/-
  Layer 15, the reference on words: Letters and Same.
-/
import Derived.Test.YtedbjkjncfinnaaRefL
import Derived.Test.YtedbjkjncfinnaaShiftsT
import Derived.BigQuiet
import Derived.Deep.QuietTactic
namespace Go.Proofs.Ytedbjkjncfinnaa
open Go.RowKit

/-- A row of one's own: letters that lie in the blocks of S. -/
def OwnRefs (w : World) (base : Nat) (S : Nat → Prop) (v : Value) (ls : List (List Bool)) : Prop :=
  ∃ xs : List Value, w.ownsRow base 58 1 v ls.length xs ∧ ∀ i (h : i < ls.length), ∃ u, xs[i]? = some u ∧ LetIs w S ls[i] u
section
variable {w w' : World} {base : Nat} {v v' : Value} {ls ls' : List (List Bool)} {S : Nat → Prop}
theorem OwnRefs.call (h : OwnRefs w base S v ls) (hS : Bd S w) (hb : Below w.heap.size w w') : OwnRefs w' base S v ls := by
  obtain ⟨xs, h1, h2⟩ := h
  refine ⟨xs, own_call h1 hb, fun i hi => ?_⟩
  obtain ⟨u, h3, h4⟩ := h2 i hi
  exact ⟨u, h3, h4.call hS hb⟩
theorem OwnRefs.lets (h : OwnRefs w base S v ls) : LetsIs w (fun b => S b ∨ (base ≤ b ∧ b < w.heap.size)) ls v := by
  obtain ⟨xs, h1, h2⟩ := h
  have hl : xs.length = ls.length := by simpa using h1.1
  refine D.of_own h1 (by simp) (fun b h1 h2 _ => .inr ⟨h1, h2⟩) fun i hi => ?_
  have hi' : i < ls.length := by simpa using hi
  obtain ⟨u, h3, h4⟩ := h2 i hi'
  have e : (xs.drop (i * 1)).take 1 = [u] := by
    rw [Nat.mul_one, List.drop_eq_getElem_cons (by omega)]
    have := (List.getElem?_eq_some_iff.1 h3).2
    simp [this]
  rw [e, List.getElem_map]
  exact h4.mono fun b hb => .inl hb
theorem OwnRefs.app {xs : List Value} {l : List Bool} {u : Value} (hS : ∀ b, S b → b < base) (hSw : Bd S w) (h : ∀ i (h : i < ls.length), ∃ u, xs[i]? = some u ∧ LetIs w S ls[i] u) (h1 : xs.length = ls.length)
    (hl : LetIs w S l u) (hlt : ∀ k, v.ownBlock = some k → base ≤ k)
    (hown : w'.ownsRow base 58 1 v' (ls.length + 1) (xs ++ [u])) (hg : w.grownBy w' v.ownBlock) : OwnRefs w' base S v' (ls ++ [l]) := by
  have keep : ∀ b, S b → S b ∧ w'.heap[b]? = w.heap[b]? := fun b hb => by
    obtain ⟨_, _, _, hsz, hblk⟩ := hg
    refine ⟨hb, hblk b (hSw b hb) fun e => ?_⟩
    have := hlt b e.symm
    have := hS b hb
    omega
  refine ⟨xs ++ [u], by simpa using hown, fun i hi => ?_⟩
  by_cases hi' : i < ls.length
  · obtain ⟨u, h3, h4⟩ := h i hi'
    refine ⟨u, by rw [List.getElem?_append_left (by omega)]; exact h3, ?_⟩
    rw [List.getElem_append_left hi']
    exact D.Is.keep keep _ _ h4
  · obtain rfl : i = ls.length := by simp at hi; omega
    refine ⟨u, by rw [List.getElem?_append_right (by omega), h1]; simp, ?_⟩
    simp only [List.getElem_append_right (Nat.le_refl _), Nat.sub_self, List.getElem_singleton]
    exact D.Is.keep keep _ _ hl
end
theorem lets_succ (x : Wd) (a k : Nat) : x.lets a (k + 1) = x.lets a k ++ [x.far (a + k)] := by
  unfold Wd.lets
  rw [List.range_succ, List.map_append]
  rfl
theorem far_cyc (x : Wd) (i : Nat) (hs : x.stem.length ≤ i) (hc : 0 < x.cycle.length) : ∃ h : (i - x.stem.length) % x.cycle.length < x.cycle.length, x.far i = x.cycle[(i - x.stem.length) % x.cycle.length] := by
  have hmod := Nat.mod_lt (i - x.stem.length) hc
  refine ⟨hmod, ?_⟩
  unfold Wd.far Wd.place Wd.letter
  rw [if_pos hs, if_pos (by omega), List.getD_eq_getElem?_getD, Nat.add_sub_cancel_left, List.getElem?_eq_getElem hmod]
  rfl
theorem far_stem (x : Wd) (i : Nat) (hs : i < x.stem.length) : x.far i = x.stem[i] := by
  unfold Wd.far Wd.place Wd.letter
  have h : ¬ x.stem.length ≤ i := by omega
  rw [if_neg h, if_neg h, List.getD_eq_getElem?_getD, List.getElem?_eq_getElem (by omega)]
  rfl

set_option maxRecDepth 100000 in
set_option maxHeartbeats 4000000 in
theorem rletters_any (x : Wd) (A B : Option Addr) (c d a n : Nat) (w : World) (S : Nat → Prop) (hS : Bd S w) (ha : a ≤ 1000000) (hn : n ≤ 1000) (hx : x.size ≤ 1000000) (h0 : 0 < x.cycle.length)
    (hw : WdIs w S x (.slice A x.stem.length c) (.slice B x.cycle.length d)) :
    Calls Try.prog 27 #[.agg #[.slice A x.stem.length c, .slice B x.cycle.length d], .int .i64 a, .int .i64 n] w fun e w' => ∃ v, e = .returned v ∧ LetsIs w' (Ext S w w') (x.lets a n) v ∧ Below w.heap.size w w' := by
  obtain ⟨i0, hi0, hz0, hz1, hz2⟩ := info_parts bools_info
  unfold Wd.size at hx
  have HW := Lib.hid hw
  have HSS := Lib.hid hS
  clear hw hS
  go_enter Try.func27, Try.ntmps27
  go_wp2_with fail
  have hb0 := below_one w (.cells #[.slice A x.stem.length c, .slice B x.cycle.length d] 32)
  have hk0 := Blk.new w 32 #[.slice A x.stem.length c, .slice B x.cycle.length d]
  generalize hW0 : w.alloc (.cells #[.slice A x.stem.length c, .slice B x.cycle.length d] 32) = W0 at *
  have hsz0 : W0.heap.size = w.heap.size + 1 := by rw [← hW0]; simp
  clear hW0
  have HK0 := Lib.hid hk0
  have HB0 := Lib.hid hb0
  have HZ0 := Lib.hid hsz0
  have hOn : OwnRefs (W0.alloc (.cells #[] 58)) W0.heap.size S (.slice (some ⟨w.heap.size + 1, 0, none⟩) 0 0) (x.lets a 0) := hsz0 ▸ ⟨[], World.ownsRow_made W0 #[] 0 (Nat.le_refl _) (by decide) rfl, fun i h => by simp [Wd.lets] at h⟩
  have HON := Lib.hid hOn
  clear hk0 hb0 hsz0 hOn
  go_loopw [7, 8] (fun v q wr => ∃ j : Nat, j ≤ n ∧ q = .int .i64 ((a + j : Nat) : Int) ∧ OwnRefs wr W0.heap.size S v (x.lets a j) ∧ Below W0.heap.size W0 wr) (fun _ q _ => a + n - (intOf q).toNat)
  case atStart => exact ⟨0, Nat.zero_le _, by go_num, HON.out, below_one _ _⟩
  case round =>
    obtain ⟨j, hj, rfl, hown, hb⟩ := hrel
    have hkr := HK0.out.call hb
    have c0 := hkr.cell 0
    have c1 := hkr.cell 1
    simp only [List.getElem?_toArray, List.getElem?_cons_zero, List.getElem?_cons_succ] at c0 c1
    have hbw := below_call HB0.out hb
    have hSr : Bd S wr := HSS.out.call hbw.size
    have hwr := HW.out.call HSS.out hbw
    obtain ⟨xs, hown1, hel⟩ := hown
    have hxl := own_len hown1
    rw [lets_len] at hown1 hxl
    obtain ⟨A5, c5, rfl⟩ := own_shape hown1
    have HEL := Lib.hid hel
    have HXL := Lib.hid hxl
    have HOW := Lib.hid hown1
    have HB := Lib.hid hb
    have HSR := Lib.hid hSr
    have HLB := Lib.hid (show ∀ b, S b → b < W0.heap.size from fun b hb => by have := HSS.out b hb; have := HZ0.out; omega)
    clear hel hxl hown1 hb hSr hkr hbw
    by_cases hlt : j < n
    · by_cases hs : x.stem.length ≤ a + j
      · obtain ⟨hm, hfar⟩ := far_cyc x (a + j) hs h0
        obtain ⟨b, o, E, e, rfl, hc, hbk, hlet⟩ := lets_at hwr.2 HSR.out _ hm
        rw [← hfar] at hc hlet
        have HFAR := Lib.hid hlet
        have hm0 : (0 : Int) < (x.cycle.length : Int) := by omega
        have hrem : (((a + j : Nat) : Int) - (x.stem.length : Int)) % (x.cycle.length : Int) = (((a + j - x.stem.length) % x.cycle.length : Nat) : Int) := by rw [Int.natCast_emod, Int.ofNat_sub hs]
        have hsub : (0 : Int) ≤ ((a + j : Nat) : Int) - (x.stem.length : Int) := by omega
        have q5 : ¬ ((a + j : Nat) : Int) < (x.stem.length : Int) := by omega
        have q5' : decide (((a + j : Nat) : Int) < (x.stem.length : Int)) = false := by rw [decide_eq_false_iff_not]; omega
        have q5'' : decide (a + j < x.stem.length) = false := by rw [decide_eq_false_iff_not]; omega
        have q6 : ((a + j : Nat) : Int) < (a : Int) + (n : Int) := by omega
        have HLS := Lib.hid (lets_succ x a j)
        obtain ⟨r, hr⟩ : ∃ r : Int, r = IntKind.i64.wrap (((a + j : Nat) : Int) - (x.stem.length : Int)) := ⟨_, rfl⟩
        have hr2 : r = ((a + j - x.stem.length : Nat) : Int) := by rw [hr, Go.IntWalk.i64_in _ (by omega)]; omega
        have hr3 : r.tmod (x.cycle.length : Int) = (((a + j - x.stem.length) % x.cycle.length : Nat) : Int) := by rw [hr2, Int.natCast_emod, Int.tmod_eq_emod_of_nonneg (by omega)]
        have hr4 : (x.cycle = []) = False := by rw [eq_iff_iff, iff_false]; intro h; rw [h] at h0; simp at h0
        clear hwr hlet hfar hrem hsub hr2
        generalize (a + j - x.stem.length) % x.cycle.length = q0 at *
        have q1 : (0 : Int) ≤ (q0 : Int) := by omega
        have q2 : (q0 : Int) < (x.cycle.length : Int) := by omega
        obtain ⟨m, hmj⟩ : ∃ m, m = a + j := ⟨_, rfl⟩
        rw [← hmj] at hr q5 q5' q5'' q6 hs HLS HFAR hc
        rw [← hmj]
        have HMJ := Lib.hid hmj
        clear hmj
        have ha1 : a + n ≤ 1001000 := by omega
        have hm1 : m ≤ 1001000 := by omega
        have HR7 := Lib.hid (show ∀ W', Below wr.heap.size wr W' → W'.cell? ⟨w.heap.size, 0, none⟩ = some (.slice A x.stem.length c) ∧ W'.cell? ⟨w.heap.size, 1, none⟩ = some (.slice (some ⟨b, o, none⟩) x.cycle.length d) ∧ W'.cell? ⟨b, o + q0, none⟩ = some (.slice E (x.far m).length e) ∧ IntKind.i64.wrap ((m : Int) - (x.stem.length : Int)) = r ∧ r.tmod (x.cycle.length : Int) = (q0 : Int) ∧ (x.cycle = []) = False from
          fun W' h => ⟨(h.cell (p := ⟨w.heap.size, 0, none⟩) (lt_size c0)).trans c0, (h.cell (p := ⟨w.heap.size, 1, none⟩) (lt_size c1)).trans c1, (h.cell (p := ⟨b, o + q0, none⟩) (lt_size hc)).trans hc, hr.symm, hr3, hr4⟩)
        clear hr hr3 hr4
        go_wp2_with fail
        refine wp_region_jump (L := #[false, false, false, false, false, false, false, false, false, false, false, false, false, false, false, true, true]) 15 (by kernel_rfl) (by kernel_rfl) (by kernel_rfl) ?_
        have hF0 : ∀ k, Lt wr.drew.heap.size k → k < wr.drew.heap.size := fun _ h => h
        refine wpJ_takeL (i := 0) (v := ?_) rfl (by kernel_rfl) (by kernel_rfl) (by kernel_rfl) (fun _ _ _ h => h) hF0 (Or.inl ⟨by rfl, ?_⟩) ?_
        rotate_left
        focus
          intro W' hj
          obtain ⟨y0, y1, y2, y3, y4, y5⟩ := HR7.out _ (Jmp.low hj)
          clear hj
          go_simp
          try with_reducible rfl
        simp only [Act.put, List.setIfInBounds_toArray, List.set_cons_zero, List.set_cons_succ]
        refine wpJ_takeL (i := 1) (v := ?_) rfl (by kernel_rfl) (by kernel_rfl) (by kernel_rfl) (fun _ _ _ h => h) hF0 (Or.inl ⟨by rfl, ?_⟩) ?_
        rotate_left
        focus
          intro W' hj
          obtain ⟨y0, y1, y2, y3, y4, y5⟩ := HR7.out _ (Jmp.low hj)
          clear hj
          go_simp
          try with_reducible rfl
        simp only [Act.put, List.setIfInBounds_toArray, List.set_cons_zero, List.set_cons_succ]
        refine wpJ_takeL (i := 2) (v := ?_) rfl (by kernel_rfl) (by kernel_rfl) (by kernel_rfl) (fun _ _ _ h => h) hF0 (Or.inl ⟨by rfl, ?_⟩) ?_
        rotate_left
        focus
          intro W' hj
          obtain ⟨y0, y1, y2, y3, y4, y5⟩ := HR7.out _ (Jmp.low hj)
          clear hj
          go_simp
          try with_reducible rfl
        simp only [Act.put, List.setIfInBounds_toArray, List.set_cons_zero, List.set_cons_succ]
        refine wpJ_takeL (i := 3) (v := ?_) rfl (by kernel_rfl) (by kernel_rfl) (by kernel_rfl) (fun _ _ _ h => h) hF0 (Or.inl ⟨by rfl, ?_⟩) ?_
        rotate_left
        focus
          intro W' hj
          obtain ⟨y0, y1, y2, y3, y4, y5⟩ := HR7.out _ (Jmp.low hj)
          clear hj
          go_simp
          try with_reducible rfl
        simp only [Act.put, List.setIfInBounds_toArray, List.set_cons_zero, List.set_cons_succ]
        refine wpJ_takeL (i := 4) (v := ?_) rfl (by kernel_rfl) (by kernel_rfl) (by kernel_rfl) (fun _ _ _ h => h) hF0 (Or.inl ⟨by rfl, ?_⟩) ?_
        rotate_left
        focus
          intro W' hj
          obtain ⟨y0, y1, y2, y3, y4, y5⟩ := HR7.out _ (Jmp.low hj)
          clear hj
          go_simp
          try with_reducible rfl
        simp only [Act.put, List.setIfInBounds_toArray, List.set_cons_zero, List.set_cons_succ]
        refine wpJ_takeL (i := 5) (v := ?_) rfl (by kernel_rfl) (by kernel_rfl) (by kernel_rfl) (fun _ _ _ h => h) hF0 (Or.inl ⟨by rfl, ?_⟩) ?_
        rotate_left
        focus
          intro W' hj
          obtain ⟨y0, y1, y2, y3, y4, y5⟩ := HR7.out _ (Jmp.low hj)
          clear hj
          go_simp
          try with_reducible rfl
        simp only [Act.put, List.setIfInBounds_toArray, List.set_cons_zero, List.set_cons_succ]
        refine wpJ_takeL (i := 6) (v := ?_) rfl (by kernel_rfl) (by kernel_rfl) (by kernel_rfl) (fun _ _ _ h => h) hF0 (Or.inl ⟨by rfl, ?_⟩) ?_
        rotate_left
        focus
          intro W' hj
          obtain ⟨y0, y1, y2, y3, y4, y5⟩ := HR7.out _ (Jmp.low hj)
          clear hj
          go_simp
          try with_reducible rfl
        simp only [Act.put, List.setIfInBounds_toArray, List.set_cons_zero, List.set_cons_succ]
        refine wpJ_takeL (i := 7) (v := ?_) rfl (by kernel_rfl) (by kernel_rfl) (by kernel_rfl) (fun _ _ _ h => h) hF0 (Or.inl ⟨by rfl, ?_⟩) ?_
        rotate_left
        focus
          intro W' hj
          obtain ⟨y0, y1, y2, y3, y4, y5⟩ := HR7.out _ (Jmp.low hj)
          clear hj
          go_simp
          try with_reducible rfl
        simp only [Act.put, List.setIfInBounds_toArray, List.set_cons_zero, List.set_cons_succ]
        refine wpJ_takeL (i := 8) (v := ?_) rfl (by kernel_rfl) (by kernel_rfl) (by kernel_rfl) (fun _ _ _ h => h) hF0 (Or.inl ⟨by rfl, ?_⟩) ?_
        rotate_left
        focus
          intro W' hj
          obtain ⟨y0, y1, y2, y3, y4, y5⟩ := HR7.out _ (Jmp.low hj)
          clear hj
          go_simp
          try with_reducible rfl
        simp only [Act.put, List.setIfInBounds_toArray, List.set_cons_zero, List.set_cons_succ]
        refine wpJ_takeL (i := 9) (v := ?_) rfl (by kernel_rfl) (by kernel_rfl) (by kernel_rfl) (fun _ _ _ h => h) hF0 (Or.inl ⟨by rfl, ?_⟩) ?_
        rotate_left
        focus
          intro W' hj
          obtain ⟨y0, y1, y2, y3, y4, y5⟩ := HR7.out _ (Jmp.low hj)
          clear hj
          go_simp
          try with_reducible rfl
        simp only [Act.put, List.setIfInBounds_toArray, List.set_cons_zero, List.set_cons_succ]
        refine wpJ_takeL (i := 10) (v := ?_) rfl (by kernel_rfl) (by kernel_rfl) (by kernel_rfl) (fun _ _ _ h => h) hF0 (Or.inl ⟨by rfl, ?_⟩) ?_
        rotate_left
        focus
          intro W' hj
          obtain ⟨y0, y1, y2, y3, y4, y5⟩ := HR7.out _ (Jmp.low hj)
          clear hj
          go_simp
          try with_reducible rfl
        simp only [Act.put, List.setIfInBounds_toArray, List.set_cons_zero, List.set_cons_succ]
        refine wpJ_takeL (i := 11) (v := ?_) rfl (by kernel_rfl) (by kernel_rfl) (by kernel_rfl) (fun _ _ _ h => h) hF0 (Or.inl ⟨by rfl, ?_⟩) ?_
        rotate_left
        focus
          intro W' hj
          obtain ⟨y0, y1, y2, y3, y4, y5⟩ := HR7.out _ (Jmp.low hj)
          clear hj
          go_simp
          try with_reducible rfl
        simp only [Act.put, List.setIfInBounds_toArray, List.set_cons_zero, List.set_cons_succ]
        refine wpJ_takeL (i := 12) (v := ?_) rfl (by kernel_rfl) (by kernel_rfl) (by kernel_rfl) (fun _ _ _ h => h) hF0 (Or.inl ⟨by rfl, ?_⟩) ?_
        rotate_left
        focus
          intro W' hj
          obtain ⟨y0, y1, y2, y3, y4, y5⟩ := HR7.out _ (Jmp.low hj)
          clear hj
          go_simp
          try with_reducible rfl
        simp only [Act.put, List.setIfInBounds_toArray, List.set_cons_zero, List.set_cons_succ]
        refine wpJ_takeL (i := 13) (v := ?_) rfl (by kernel_rfl) (by kernel_rfl) (by kernel_rfl) (fun _ _ _ h => h) hF0 (Or.inl ⟨by rfl, ?_⟩) ?_
        rotate_left
        focus
          intro W' hj
          obtain ⟨y0, y1, y2, y3, y4, y5⟩ := HR7.out _ (Jmp.low hj)
          clear hj
          go_simp
          try with_reducible rfl
        simp only [Act.put, List.setIfInBounds_toArray, List.set_cons_zero, List.set_cons_succ]
        refine wpJ_callL (i := 14) (by kernel_rfl) rfl fun v14 j14 K14 k14 => ?_
        go_wp2_with fail
        have b14 := below_one v14 (.cells #[.slice E (x.far m).length e] 58)
        refine k14.out _ _ b14 ?_
        clear k14
        have hF15 := grow_F (j14.grow hF0) b14.size
        refine wpJ_end (by kernel_rfl) (fun wz jz => ?_) _
        have hlow := Jmp.low (j14.back hF0 b14 jz)
        have HBK := Lib.hid (Jmp.at_ jz (Blk.new v14 58 #[.slice E (x.far m).length e]))
        have HRZ := Lib.hid hlow
        have HOZ := Lib.hid (own_call HOW.out hlow)
        have HBZ := Lib.hid (below_call HB.out hlow)
        clear hlow jz
        refine ⟨by kernel_rfl, ?_⟩
        try simp only [Act.put, List.setIfInBounds_toArray, List.set_cons_zero, List.set_cons_succ]
        simp only [List.drop_succ_cons, List.drop_zero]
        go_wp2_with (at_builtin; refine wpList_append_own_at _ rfl _ _ 25 rfl W0.heap.size 58 i0 (.slice none 0 0) 1 24 Try.underlying25 hi0 hz0 hz1 hz2 rfl (by decide) _ _ _ rfl HOZ.out ⟨v14.heap.size, 0, none⟩ 1 1 [.slice E (x.far m).length e] rfl rfl ?c1 ?c2 ?c3 ?c4 ?c5 ?_)
        case c1 =>
          intro q u hu
          have := HBK.out.cell q
          rw [add_none, Nat.zero_add, this]
          simpa using hu
        case c2 => intro u hu; simp at hu; subst hu; rfl
        case c3 => unfold maxLen; omega
        case c4 => omega
        case c5 => exact HBZ.out.size
        intro v' w3 hown3 hgrow _ hloc
        have hb5 := below_grown HBZ.out hgrow (own_ge HOZ.out (Nat.le_refl _))
        have hfin : OwnRefs w3 W0.heap.size S v' (x.lets a (j + 1)) := by
          rw [HLS.out]
          refine OwnRefs.app (w := wz) HLB.out (HSR.out.call HRZ.out.size) ?_ (by rw [lets_len]; exact HXL.out) (HFAR.out.call HSR.out HRZ.out) (own_ge HOZ.out (Nat.le_refl _)) (by rw [lets_len]; exact hown3) hgrow
          intro q hq
          obtain ⟨u, h3, h4⟩ := HEL.out q hq
          exact ⟨u, h3, h4.call HSR.out HRZ.out⟩
        obtain ⟨A7, c7, rfl⟩ := own_shape hown3
        have HF := Lib.hid hfin
        have HB5 := Lib.hid hb5
        have HMJ2 := HMJ.out
        clear hfin hb5 hown3 hgrow hloc
        go_wp2_with fail
        go_roundw
        case rel => exact ⟨j + 1, hlt, by subst HMJ2; go_num, HF.out, HB5.out⟩
        case measure => simp [intOf]; omega
      · have hs' : a + j < x.stem.length := by omega
        have hfar := far_stem x (a + j) hs'
        obtain ⟨b, o, E, e, rfl, hc, hbk, hlet⟩ := lets_at hwr.1 HSR.out _ hs'
        rw [← hfar] at hc hlet
        have HFAR := Lib.hid hlet
        have HLS := Lib.hid (lets_succ x a j)
        clear hwr hlet hfar
        obtain ⟨m, hmj⟩ : ∃ m, m = a + j := ⟨_, rfl⟩
        rw [← hmj] at hs hs' HLS HFAR hc
        rw [← hmj]
        have q6 : (m : Int) < (a : Int) + (n : Int) := by omega
        have q5 : (m : Int) < (x.stem.length : Int) := by omega
        have HMJ := Lib.hid hmj
        clear hmj
        have ha1 : a + n ≤ 1001000 := by omega
        have hm1 : m ≤ 1001000 := by omega
        have HBK := Lib.hid (Blk.new wr 58 #[.slice E (x.far m).length e])
        have HRZ := Lib.hid (below_one wr (.cells #[.slice E (x.far m).length e] 58))
        have HOZ := Lib.hid (own_call HOW.out HRZ.out)
        have HBZ := Lib.hid (below_call HB.out HRZ.out)
        go_wp2_with (at_builtin; refine wpList_append_own_at _ rfl _ _ 25 rfl W0.heap.size 58 i0 (.slice none 0 0) 1 24 Try.underlying25 hi0 hz0 hz1 hz2 rfl (by decide) _ _ _ rfl HOZ.out ⟨wr.heap.size, 0, none⟩ 1 1 [.slice E (x.far m).length e] rfl rfl ?c1 ?c2 ?c3 ?c4 ?c5 ?_)
        case c1 =>
          intro q u hu
          have := HBK.out.cell q
          rw [add_none, Nat.zero_add, this]
          simpa using hu
        case c2 => intro u hu; simp at hu; subst hu; rfl
        case c3 => unfold maxLen; omega
        case c4 => omega
        case c5 => exact HBZ.out.size
        intro v' w3 hown3 hgrow _ hloc
        have hb5 := below_grown HBZ.out hgrow (own_ge HOZ.out (Nat.le_refl _))
        have hfin : OwnRefs w3 W0.heap.size S v' (x.lets a (j + 1)) := by
          rw [HLS.out]
          refine OwnRefs.app (w := wr.alloc (.cells #[.slice E (x.far m).length e] 58)) HLB.out (HSR.out.call HRZ.out.size) ?_ (by rw [lets_len]; exact HXL.out) (HFAR.out.call HSR.out HRZ.out) (own_ge HOZ.out (Nat.le_refl _)) (by rw [lets_len]; exact hown3) hgrow
          intro q hq
          obtain ⟨u, h3, h4⟩ := HEL.out q hq
          exact ⟨u, h3, h4.call HSR.out HRZ.out⟩
        obtain ⟨A7, c7, rfl⟩ := own_shape hown3
        have HF := Lib.hid hfin
        have HB5 := Lib.hid hb5
        have HMJ2 := HMJ.out
        clear hfin hb5 hown3 hgrow hloc
        go_wp2_with fail
        go_roundw
        case rel => exact ⟨j + 1, hlt, by subst HMJ2; go_num, HF.out, HB5.out⟩
        case measure => simp [intOf]; omega
    · obtain rfl : j = n := by omega
      have q6 : ¬ ((a + j : Nat) : Int) < (a : Int) + (j : Int) := by omega
      go_wp2
      go_ret
      have hl := OwnRefs.lets ⟨xs, by rw [lets_len]; exact HOW.out, HEL.out⟩
      exact ⟨_, rfl, hl.mono fun b hb => hb.elim .inl fun h => .inr ⟨by have := HZ0.out; omega, h.2⟩, below_call HB0.out HB.out⟩

set_option maxRecDepth 100000 in
set_option maxHeartbeats 4000000 in
theorem rsame_true (ls : List (List Bool)) (u v : Value) (w : World) (S T : Nat → Prop) (hS : Bd S w) (hT : Bd T w) (h1 : LetsIs w S ls u) (h2 : LetsIs w T ls v) (hl : ls.length ≤ 1000000) (hl1 : ∀ l ∈ ls, l.length ≤ 1000000000) :
    Calls Try.prog 26 #[u, v] w fun e w' => e = .returned (.bool true) ∧ Below w.heap.size w w' := by
  obtain ⟨A1, c1, rfl⟩ := h1.form
  obtain ⟨A2, c2, rfl⟩ := h2.form
  have HX := Lib.hid (fun j hj => lets_at h1 hS j hj)
  have HY := Lib.hid (fun j hj => lets_at h2 hT j hj)
  have HL := Lib.hid hl1
  have HSS := Lib.hid hS
  have HTT := Lib.hid hT
  clear h1 h2 hS hT hl1
  go_enter Try.func26, Try.ntmps26
  go_wp2_with fail
  go_loopw [5] (fun q wr => ∃ j : Nat, j ≤ ls.length ∧ q = .int .i64 j ∧ Below w.heap.size w wr) (fun q _ => ls.length - (intOf q).toNat)
  case atStart => exact ⟨0, Nat.zero_le _, rfl, Below.refl _ _⟩
  case round =>
    obtain ⟨j, hj, rfl, hb⟩ := hrel
    by_cases hlt : j < ls.length
    · obtain ⟨b, o, E, e, rfl, hc, hbk, hlet⟩ := HX.out j hlt
      obtain ⟨b', o', E', e', rfl, hc', hbk', hlet'⟩ := HY.out j hlt
      have hlen := HL.out _ (List.getElem_mem hlt)
      generalize ls[j] = l at *
      obtain ⟨_, _, _, hrow⟩ := hlet.at_
      obtain ⟨_, _, _, hrow'⟩ := hlet'.at_
      have HR := Lib.hid hrow
      have HR' := Lib.hid hrow'
      have c3 := (hb.cell (p := ⟨b, o + j, none⟩) hbk).trans hc
      have c4 := (hb.cell (p := ⟨b', o' + j, none⟩) hbk').trans hc'
      have HB := Lib.hid hb
      have l1 : b < wr.heap.size := lt_size c3
      have l2 : b' < wr.heap.size := lt_size c4
      have q0 : (0 : Int) ≤ (j : Int) := by omega
      have q1 : (j : Int) < (ls.length : Int) := by omega
      generalize hnl : l.length = nl at *
      clear hlet hlet' hrow hrow' hb hc hc'
      go_wp2_with fail
      refine wp_region_later (by kernel_rfl) (by kernel_rfl) ?_
      repeat (go_big_quiet_step (fail))
      refine wpQuiet_nil ?_
      rintro _ ⟨y, rfl⟩
      have hb2 := below_call HB.out (below_later wr y)
      have c5 := ((below_later wr y).cell (p := ⟨b, o + j, none⟩) l1).trans c3
      have c6 := ((below_later wr y).cell (p := ⟨b', o' + j, none⟩) l2).trans c4
      clear c3 c4 l1 l2 HB
      generalize later wr y = w1 at *
      have HB := Lib.hid hb2
      clear hb2
      have l3 : b < w1.heap.size := lt_size c5
      have l4 : b' < w1.heap.size := lt_size c6
      go_wp2_with fail
      have HC5 := Lib.hid c5
      have HC6 := Lib.hid c6
      clear c5 c6 l3 l4
      go_loopw [6] (fun q wr => ∃ k : Nat, k ≤ nl ∧ q = .int .i64 k ∧ Below w.heap.size w wr ∧ Below w1.heap.size w1 wr) (fun q _ => nl - (intOf q).toNat)
      case atStart => exact ⟨0, Nat.zero_le _, rfl, HB.out, Below.refl _ _⟩
      case round =>
        obtain ⟨k, hk, rfl, hb, hb1⟩ := hrel
        have c5 := (hb1.cell (p := ⟨b, o + j, none⟩) (lt_size HC5.out)).trans HC5.out
        have c6 := (hb1.cell (p := ⟨b', o' + j, none⟩) (lt_size HC6.out)).trans HC6.out
        have l3 : b < wr.heap.size := lt_size c5
        have l4 : b' < wr.heap.size := lt_size c6
        by_cases hlt2 : k < nl
        · obtain ⟨d, p, rfl, hs, hx⟩ := HR.out (by omega)
          obtain ⟨d', p', rfl, hs', hx'⟩ := HR'.out (by omega)
          have c7 := (hb.cell (p := ⟨d, p + k, none⟩) (HSS.out d hs)).trans (hx k hlt2)
          have c8 := (hb.cell (p := ⟨d', p' + k, none⟩) (HTT.out d' hs')).trans (hx' k hlt2)
          have l5 : d < wr.heap.size := lt_size c7
          have l6 : d' < wr.heap.size := lt_size c8
          have HBB := Lib.hid hb
          have HB1 := Lib.hid hb1
          have z0 : (0 : Int) ≤ (k : Int) := by omega
          have z1 : (k : Int) < (nl : Int) := by omega
          clear hx hx' hb hb1
          generalize l.getD k false = t at *
          have z2 : (t != t) = false := by cases t <;> rfl
          go_wp2_with fail
          refine wp_region_later (by kernel_rfl) (by kernel_rfl) ?_
          repeat (go_big_quiet_step (fail))
          refine wpQuiet_nil ?_
          rintro _ ⟨y, rfl⟩
          have hb3 := below_call HBB.out (below_later wr y)
          have hb4 := below_call HB1.out (below_later wr y)
          clear c5 c6 c7 c8 l3 l4 l5 l6
          generalize later wr y = w2 at *
          have HB3 := Lib.hid hb3
          have HB4 := Lib.hid hb4
          clear hb3 hb4
          go_wp2_with fail
          go_roundw
          case rel => exact ⟨k + 1, hlt2, by go_num, HB3.out, HB4.out⟩
          case measure => simp [intOf]; omega
        · obtain rfl : k = nl := by omega
          have HBB := Lib.hid hb
          clear hb hb1
          go_wp2_with fail
          go_roundw
          case rel => exact ⟨j + 1, hlt, by go_num, HBB.out⟩
          case measure => simp [intOf]; omega
    · obtain rfl : j = ls.length := by omega
      go_wp2
      go_ret
      exact ⟨rfl, hb⟩
end Go.Proofs.Ytedbjkjncfinnaa
