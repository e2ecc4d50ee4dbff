/-
  Layer 15: Unroll.
-/
import Derived.Test.YtedbjkjncfinnaaShift
import Derived.Deep.DeepCutAuto
namespace Go.Proofs.Ytedbjkjncfinnaa
open Go.RowKit

def Wd.unroll (x : Wd) (k : Nat) : Wd := ⟨x.stem ++ (List.replicate k x.cycle).flatten, x.cycle⟩

set_option maxRecDepth 100000 in
theorem unroll_none (A B : Option Addr) (a c d : Nat) (i : Int) (w : World) :
    Calls Try.prog 25 #[.agg #[.slice A a c, .slice B 0 d], .int .i64 i] w (RetWd w ⟨[], []⟩) := by
  go_enter Try.func25, Try.ntmps25
  go_wp2
  refine bodyPost_ret (v := .agg #[.slice none 0 0, .slice none 0 0]) (by simp [results, Try.results25, go_sem]) rfl ?_
  exact ⟨_, _, rfl, ⟨LetsIs.nil_ _ _, LetsIs.nil_ _ _⟩, below_alloc (below_one _ _)⟩

theorem boxes3' (w : World) (t1 t2 t3 : TypeId) (c1 c2 c3 : Array Value) :
    Blk (((w.alloc (.cells c1 t1)).alloc (.cells c2 t2)).alloc (.cells c3 t3)) w.heap.size t1 c1 ∧ Blk (((w.alloc (.cells c1 t1)).alloc (.cells c2 t2)).alloc (.cells c3 t3)) (w.heap.size + 1) t2 c2 ∧
    Blk (((w.alloc (.cells c1 t1)).alloc (.cells c2 t2)).alloc (.cells c3 t3)) (w.heap.size + 1 + 1) t3 c3 ∧ Below w.heap.size w (((w.alloc (.cells c1 t1)).alloc (.cells c2 t2)).alloc (.cells c3 t3)) ∧ (((w.alloc (.cells c1 t1)).alloc (.cells c2 t2)).alloc (.cells c3 t3)).heap.size = w.heap.size + 3 := by
  refine ⟨((Blk.new w t1 c1).alloc _).alloc _, ?_, ?_, below_alloc (below_alloc (below_one _ _)), by simp⟩
  · have := (Blk.new (w.alloc (.cells c1 t1)) t2 c2).alloc (.cells c3 t3)
    rwa [World.size_alloc] at this
  · have := Blk.new ((w.alloc (.cells c1 t1)).alloc (.cells c2 t2)) t3 c3
    rwa [World.size_alloc, World.size_alloc] at this
theorem OwnLets.base {w : World} {base base' : Nat} {v : Value} {ls : List (List Bool)} (h : OwnLets w base v ls) (hb : base' ≤ base) : OwnLets w base' v ls := by
  obtain ⟨xs, h1, h2⟩ := h
  refine ⟨xs, own_base h1 hb, fun i hi => ?_⟩
  obtain ⟨u, h3, h4⟩ := h2 i hi
  exact ⟨u, h3, h4.mono fun b hb' => ⟨Nat.le_trans hb hb'.1, hb'.2⟩⟩
theorem letters_one (ls : List (List Bool)) (u : Value) (t : TypeId) (g : Nat) (w : World) (S : Nat → Prop) (hS : Bd S w) (h : LetsIs w S ls u) (hk : Blk w g t #[u]) (hl : ls.length ≤ 1000000) (hl1 : ∀ l ∈ ls, l.length ≤ 1000000000) :
    Calls Try.prog 45 #[.slice (some ⟨g, 0, none⟩) 1 1] w fun e w' => ∃ v, e = .returned v ∧ OwnLets w' w.heap.size v ls ∧ Below w.heap.size w w' := by
  have := letters_any [ls] (some ⟨g, 0, none⟩) 1 1 w (fun b => S b ∨ b = g) (fun b hb => hb.elim (hS b) fun h => by subst h; exact hk.lt) (lets1_is h hk) (by simpa using hl) (by simpa using hl1)
  simpa using this
/-- A row of letters, appended to another one. -/
theorem OwnLets.more {w w' : World} {base base2 : Nat} {v v1 v' : Value} {ls ls' : List (List Bool)} {xs ys : List Value} (hbb : base ≤ base2) (hv : ∀ b, v.ownBlock = some b → b < base2)
    (h : ∀ i (h : i < ls.length), ∃ u, xs[i]? = some u ∧ LetIs w (Beside base w v) ls[i] u) (hx : xs.length = ls.length)
    (h' : ∀ i (h : i < ls'.length), ∃ u, ys[i]? = some u ∧ LetIs w (Beside base2 w v1) ls'[i] u)
    (hown : w'.ownsRow base 58 1 v' (ls.length + ls'.length) (xs ++ ys)) (hg : w.grownBy w' v.ownBlock) (hloc : v'.ownBlock = v.ownBlock ∨ v'.ownBlock = some w.heap.size) : OwnLets w' base v' (ls ++ ls') :=
  OwnLets.app h hx (fun i hi => by
    obtain ⟨u, h3, h4⟩ := h' i hi
    exact ⟨u, h3, h4.mono fun b hb => ⟨Nat.le_trans hbb hb.1, hb.2.1, fun e => by have := hv b e; have := hb.1; omega⟩⟩) hown hg hloc
theorem OwnLets.cells {w : World} {base : Nat} {v : Value} {ls : List (List Bool)} (h : OwnLets w base v ls) : ∃ xs : List Value, w.ownsRow base 58 1 v ls.length xs ∧ xs.length = ls.length ∧ (∀ u ∈ xs, u.oneCell' = true) ∧ ∀ i (h : i < ls.length), ∃ u, xs[i]? = some u ∧ LetIs w (Beside base w v) ls[i] u := by
  obtain ⟨xs, h1, h2⟩ := h
  refine ⟨xs, h1, own_len h1, fun u hu => ?_, h2⟩
  obtain ⟨i, hi, rfl⟩ := List.getElem_of_mem hu
  obtain ⟨u, h3, h4⟩ := h2 i (by have := own_len h1; omega)
  obtain ⟨A, c, rfl⟩ := LetIs.form h4
  rw [List.getElem?_eq_getElem hi, Option.some.injEq] at h3
  rw [h3]
  rfl

theorem flatten_rep {α : Type} (l : List α) (k : Nat) : (List.replicate k l).flatten.length = k * l.length := by simp

set_option maxRecDepth 100000 in
set_option maxHeartbeats 2000000 in
theorem unroll_any (x : Wd) (A B : Option Addr) (c d : Nat) (n : Int) (k : Nat) (w : World) (S : Nat → Prop) (hS : Bd S w) (hx : x.size ≤ 10000) (h0 : 0 < x.cycle.length) (hk : (k : Int) = min (max n 0) 64)
    (hl : (∀ l ∈ x.stem, l.length ≤ 1000000000) ∧ ∀ l ∈ x.cycle, l.length ≤ 1000000000) (hw : WdIs w S x (.slice A x.stem.length c) (.slice B x.cycle.length d)) :
    Calls Try.prog 25 #[.agg #[.slice A x.stem.length c, .slice B x.cycle.length d], .int .i64 n] w (RetWd w (x.unroll k)) := by
  obtain ⟨i0, hi0, hz0, hz1, hz2⟩ := info_parts bools_info
  have hx2 := hx
  unfold Wd.size at hx2
  have hk64 : k ≤ 64 := by omega
  have h0' : ¬ x.cycle.length = 0 := by omega
  obtain ⟨_, hcd, hdm, hcell⟩ := hw.2.at_
  obtain ⟨_, hsc, hsm, hscell⟩ := hw.1.at_
  unfold maxLen at hdm hsm
  have HW := Lib.hid hw
  have HLL := Lib.hid hl
  have HSS := Lib.hid hS
  have HK := Lib.hid hk
  clear hw hl hS hcell hscell hk
  go_enter Try.func25, Try.ntmps25
  go_wp2_with fail
  obtain ⟨b1, b2, b3, hb0, hs0⟩ := boxes3' w 27 27 25 #[.slice A x.stem.length c, .slice B x.cycle.length d] #[.slice none 0 0, .slice none 0 0] #[.slice A x.stem.length c]
  generalize (((w.alloc (.cells #[.slice A x.stem.length c, .slice B x.cycle.length d] 27)).alloc (.cells #[.slice none 0 0, .slice none 0 0] 27)).alloc (.cells #[.slice A x.stem.length c] 25)) = W0 at *
  refine (letters_one x.stem _ _ _ W0 S (HSS.out.call hb0.size) (HW.out.call HSS.out hb0).1 b3 (by omega) HLL.out.1).mono ?_
  rintro e' w1 ⟨v1, rfl, hown1, hb1⟩
  have B1 := Lib.hid b1
  have B2 := Lib.hid b2
  have HB0 := Lib.hid hb0
  have HB1 := Lib.hid hb1
  have HO1 := Lib.hid hown1
  have l2 := b2.lt
  obtain ⟨xs1, hx1, _⟩ := hown1.len
  obtain ⟨A1, c1, rfl⟩ := own_shape hx1
  clear b1 b2 b3 hb0 hs0 hown1 hb1 hx1
  go_upto_region 4 with (fail)
  go_cut [17, 18] from 15 to 18 (fun a17 a18 W => a17 = .int .i64 k ∧ a18 = .int .i64 0 ∧ W = w1)
  case first =>
    go_wp2_with fail
    all_goals
      go_meet
      case rel => exact ⟨congrArg (Value.int .i64) (by have := HK.out; omega), rfl, rfl⟩
  case rest =>
    obtain ⟨rfl, rfl, rfl⟩ := hcut
    go_wp2_with fail
    go_loopw [5, 18] (fun v q wr => ∃ j : Nat, j ≤ k ∧ q = .int .i64 j ∧ OwnLets wr W0.heap.size v (x.stem ++ (List.replicate j x.cycle).flatten) ∧ Below W0.heap.size W0 wr) (fun _ q _ => k - (intOf q).toNat)
    case atStart => exact ⟨0, Nat.zero_le _, rfl, by simpa using HO1.out, HB1.out⟩
    case round =>
      obtain ⟨j, hj, rfl, hown, hb⟩ := hrel
      have c0 := (B1.out.call hb).cell 0
      have c1' := (B1.out.call hb).cell 1
      simp only [List.getElem?_toArray, List.getElem?_cons_zero, List.getElem?_cons_succ] at c0 c1'
      obtain ⟨ls, hls⟩ : ∃ ls, ls = x.stem ++ (List.replicate j x.cycle).flatten := ⟨_, rfl⟩
      rw [← hls] at hown
      have hlen : ls.length ≤ 1000000 := by
        have : j * x.cycle.length ≤ 64 * 10000 := Nat.mul_le_mul (by omega) (by omega)
        rw [hls, List.length_append, flatten_rep]; omega
      have HLS := Lib.hid hls
      have HBW := Lib.hid (below_call HB0.out hb)
      have HBR := Lib.hid hb
      have HOW := Lib.hid hown
      have hsl : ls.length + x.cycle.length ≤ 1010000 := by omega
      clear hls hb hown
      by_cases hlt : j < k
      · go_wp2_with fail
        have hbk := Blk.new wr 25 #[.slice B x.cycle.length d]
        have hbo := below_one wr (.cells #[.slice B x.cycle.length d] 25)
        refine (letters_one x.cycle _ _ _ _ S (HSS.out.call (below_call HBW.out hbo).size) (HW.out.call HSS.out (below_call HBW.out hbo)).2 hbk (by omega) HLL.out.2).mono ?_
        rintro e' w2 ⟨v2, rfl, hown2, hb2⟩
        have hb3 := below_call hbo hb2
        obtain ⟨xs, x1, x2, x3, x4⟩ := (HOW.out.call hb3).cells
        obtain ⟨ys, y1, y2, y3, y4⟩ := hown2.cells
        obtain ⟨g2, cap2, rfl, hg2, hg3⟩ := own_form y1 h0
        obtain ⟨A5, c5, rfl⟩ := own_shape x1
        have hcell2 := World.ownsRow.cells y1 (g := g2) rfl
        have hsz : wr.heap.size + 1 ≤ g2 := by simpa using hg2
        have hv5 : ∀ b, (Value.slice A5 ls.length c5).ownBlock = some b → b < wr.heap.size := fun b hb => ((HOW.out.len).choose_spec.1.lt b hb).2
        have HX1 := Lib.hid x1
        have HX4 := Lib.hid x4
        have HY4 := Lib.hid y4
        have HX2 := Lib.hid x2
        have HY2 := Lib.hid y2
        have HY3 := Lib.hid y3
        have HV5 := Lib.hid hv5
        have HC2 := Lib.hid hcell2
        have HB3 := Lib.hid hb3
        have HBC := Lib.hid (below_call HBR.out hb3)
        clear x1 x2 x3 x4 y1 y2 y3 y4 hown2 hb2 hcell2 hb3 hv5 hbk hbo
        go_wp2_with (at_builtin; refine wpList_append_own_at _ rfl _ _ 25 rfl W0.heap.size 58 i0 (.slice none 0 0) 1 24 Try.underlying25 hi0 hz0 hz1 hz2 rfl (by decide) _ _ _ rfl HX1.out ⟨g2, 0, none⟩ x.cycle.length _ ys rfl ?c1 HC2.out HY3.out ?c3 ?c4 ?c5 ?_)
        case c1 => rw [HY2.out]; simp
        case c3 => unfold maxLen; omega
        case c4 => omega
        case c5 => exact HBC.out.size
        intro v' w3 hown3 hgrow _ hloc
        have hb5 := below_grown HBC.out hgrow (own_ge HX1.out (Nat.le_refl _))
        have hfin : OwnLets w3 W0.heap.size v' (x.stem ++ (List.replicate (j + 1) x.cycle).flatten) := by
          rw [List.replicate_succ', List.flatten_append, ← List.append_assoc, ← HLS.out, List.flatten_singleton]
          exact OwnLets.more (base2 := wr.heap.size + 1) (by have := HBR.out.size; omega) (fun b e => by have := HV5.out b e; omega) HX4.out HX2.out (by simpa using HY4.out) hown3 hgrow hloc
        obtain ⟨xs3, hx3, _⟩ := hfin.len
        obtain ⟨A7, c7, rfl⟩ := own_shape hown3
        have HF := Lib.hid hfin
        have HB5 := Lib.hid hb5
        clear hfin hb5 hown3 hgrow hloc hx3
        go_wp2_with fail
        go_roundw
        case rel => exact ⟨j + 1, hlt, by go_num, HF.out, HB5.out⟩
        case measure => simp [intOf]; omega
      · obtain rfl : j = k := by omega
        obtain ⟨_, hx5, _⟩ := HOW.out.len
        obtain ⟨A5, c5, rfl⟩ := own_shape hx5
        clear hx5
        go_wp2_with fail
        have hbk := Blk.new wr 25 #[.slice B x.cycle.length d]
        have hbo := below_one wr (.cells #[.slice B x.cycle.length d] 25)
        refine (letters_one x.cycle _ _ _ _ S (HSS.out.call (below_call HBW.out hbo).size) (HW.out.call HSS.out (below_call HBW.out hbo)).2 hbk (by omega) HLL.out.2).mono ?_
        rintro e' w2 ⟨v2, rfl, hown2, hb2⟩
        have hb3 := below_call hbo hb2
        have hr1 := (HOW.out.call hb3).lets
        have hr2 := hown2.lets
        obtain ⟨A9, m9, c9, rfl⟩ := hr2.shape
        have hbz := (B2.out.call HBR.out).call hb3
        have f0 := hbz.frozen 0
        have f1 := hbz.frozen 1
        have g0 := hbz.cell 0
        have g1 := hbz.cell 1
        simp only [List.getElem?_toArray, List.getElem?_cons_zero, List.getElem?_cons_succ] at g0 g1
        have HBZ := Lib.hid hbz
        have HR1 := Lib.hid hr1
        have HR2 := Lib.hid hr2
        have HB3 := Lib.hid hb3
        clear hr1 hr2 hbz hown2 hb2 hb3 hbk hbo
        go_wp2_with fail
        have hb2 := blk_set2 HBZ.out (.slice A5 ls.length c5) (.slice A9 m9 c9)
        have r0 := hb2.cell 0
        have r1 := hb2.cell 1
        simp only [List.getElem?_toArray, List.getElem?_cons_zero, List.getElem?_cons_succ] at r0 r1
        refine bodyPost_ret (v := .agg #[.slice A5 ls.length c5, .slice A9 m9 c9]) (by simp [results, Try.results25, go_sem, r0, r1]) rfl ?_
        have hww := HB0.out.size
        have hwr := HBR.out.size
        have hw2 := HB3.out.size
        have st : ∀ {bs : Nat} {ls' : List (List Bool)} {v : Value}, LetsIs w2 (From bs w2) ls' v → w.heap.size + 1 < bs → LetsIs ((w2.setCell ⟨w.heap.size + 1, 0, none⟩ (.slice A5 ls.length c5)).setCell ⟨w.heap.size + 1, 1, none⟩ (.slice A9 m9 c9)) (From w.heap.size ((w2.setCell ⟨w.heap.size + 1, 0, none⟩ (.slice A5 ls.length c5)).setCell ⟨w.heap.size + 1, 1, none⟩ (.slice A9 m9 c9))) ls' v := fun h hb =>
          ((D.Is.store h (p := ⟨w.heap.size + 1, 0, none⟩) (by rintro ⟨h, _⟩; exact absurd h (by show ¬ _ ≤ w.heap.size + 1; omega)) _).store (p := ⟨w.heap.size + 1, 1, none⟩) (by rintro ⟨h, _⟩; exact absurd h (by show ¬ _ ≤ w.heap.size + 1; omega)) _).mono fun b hb' => ⟨by have := hb'.1; omega, by simpa using hb'.2⟩
        refine ⟨_, _, rfl, ⟨?_, ?_⟩, below_set (below_set (below_call HBW.out HB3.out) (by show w.heap.size ≤ w.heap.size + 1; omega)) (by show w.heap.size ≤ w.heap.size + 1; omega)⟩
        · rw [show (x.unroll j).stem = ls from HLS.out.symm]
          exact st HR1.out l2
        · exact st HR2.out (by simp; omega)
end Go.Proofs.Ytedbjkjncfinnaa
