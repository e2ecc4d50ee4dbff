/-
  Layer 15: Shift.
-/
import Derived.Test.YtedbjkjncfinnaaLetters
import Derived.Test.YtedbjkjncfinnaaSat
import Derived.Test.YtedbjkjncfinnaaJump
namespace Go.Proofs.Ytedbjkjncfinnaa
open Go.RowKit

def Wd.shift (x : Wd) (i : Nat) : Wd :=
  if x.stem.length ≤ x.place i then ⟨[], x.cycle.drop (x.place i - x.stem.length) ++ x.cycle.take (x.place i - x.stem.length)⟩ else ⟨x.stem.drop (x.place i), x.cycle⟩

/-- A word comes back, as new memory. -/
def RetWd (w : World) (y : Wd) (e : Ending) (w' : World) : Prop := ∃ u v, e = .returned (.agg #[u, v]) ∧ WdIs w' (From w.heap.size w') y u v ∧ Below w.heap.size w w'

section
variable {w w' : World} {S S' : Nat → Prop} {ls ls1 ls2 : List (List Bool)} {b o n d q : Nat}
theorem LetsIs.nil_ (w : World) (S : Nat → Prop) : LetsIs w S [] (.slice none 0 0) := D.Is.slice_mk rfl (Nat.le_refl _) (by decide) (by omega)
theorem LetsIs.shape {v : Value} (h : LetsIs w S ls v) : ∃ A m c, v = .slice A m c := by
  obtain ⟨A, c, h⟩ := h.form
  exact ⟨A, _, c, h⟩
theorem LetsIs.keep {v : Value} (h : LetsIs w S ls v) (hk : ∀ b, S b → S' b ∧ w'.heap[b]? = w.heap[b]?) : LetsIs w' S' ls v := D.Is.keep hk _ _ h
theorem LetsIs.drop_ (h : LetsIs w S ls (.slice (some ⟨b, o, none⟩) n d)) (hq : q ≤ n) : LetsIs w S (ls.drop q) (.slice (some ⟨b, o + q, none⟩) (n - q) (d - q)) := by
  obtain ⟨h1, h2, h3, h4⟩ := D.Is.slice_at h
  simp only [List.length_map] at h1 h4
  refine D.Is.slice_mk (by simp; omega) (by omega) (by omega) fun h0 => ?_
  obtain ⟨b', o', hA, hS, hx⟩ := h4 (by omega)
  cases hA
  refine ⟨b, o + q, rfl, hS, fun i hi => ?_⟩
  obtain ⟨cs, c1, c2, c3⟩ := hx (q + i) (by simp at hi; omega)
  refine ⟨cs, c1, fun j u hj => ?_, by simpa [List.getElem_drop] using c3⟩
  have := c2 j u hj
  rw [show o + q + i * 1 + j = o + (q + i) * 1 + j by omega]
  exact this
theorem LetsIs.take_ {A : Option Addr} (h : LetsIs w S ls (.slice A n d)) (hq : q ≤ n) : LetsIs w S (ls.take q) (.slice A q d) := by
  obtain ⟨h1, h2, h3, h4⟩ := D.Is.slice_at h
  simp only [List.length_map] at h1 h4
  refine D.Is.slice_mk (by simp; omega) (by omega) (by omega) fun h0 => ?_
  obtain ⟨b', o', hA, hS, hx⟩ := h4 (by omega)
  refine ⟨b', o', hA, hS, fun i hi => ?_⟩
  obtain ⟨cs, c1, c2, c3⟩ := hx i (by simp at hi; omega)
  exact ⟨cs, c1, c2, by simpa [List.getElem_take] using c3⟩
theorem lets1_is {g : Nat} {t : TypeId} {u : Value} (h1 : LetsIs w S ls1 u) (hk : Blk w g t #[u]) : D.Is w (fun b => S b ∨ b = g) (.slice 1 ([ls1].map letsD)) [.slice (some ⟨g, 0, none⟩) 1 1] := by
  refine D.Is.slice_mk rfl (Nat.le_refl _) (by decide) fun _ => ⟨g, 0, rfl, .inr rfl, fun i hi => ?_⟩
  obtain rfl : i = 0 := by simpa using hi
  refine ⟨[u], rfl, fun j x hj => ?_, D.Is.mono h1 fun _ h => .inl h⟩
  rcases j with _ | j
  · rw [hk.cell]; simpa using hj
  · simp at hj
theorem lets2_is {g : Nat} {t : TypeId} {u v : Value} (h1 : LetsIs w S ls1 u) (h2 : LetsIs w S ls2 v) (hk : Blk w g t #[u, v]) : D.Is w (fun b => S b ∨ b = g) (.slice 1 ([ls1, ls2].map letsD)) [.slice (some ⟨g, 0, none⟩) 2 2] := by
  refine D.Is.slice_mk rfl (Nat.le_refl _) (by decide) fun _ => ⟨g, 0, rfl, .inr rfl, fun i hi => ?_⟩
  rcases (show i = 0 ∨ i = 1 by simp at hi; omega) with rfl | rfl
  · refine ⟨[u], rfl, fun j x hj => ?_, D.Is.mono h1 fun _ h => .inl h⟩
    rcases j with _ | j
    · rw [hk.cell]; simpa using hj
    · simp at hj
  · refine ⟨[v], rfl, fun j x hj => ?_, D.Is.mono h2 fun _ h => .inl h⟩
    rcases j with _ | j
    · rw [hk.cell]; simpa using hj
    · simp at hj
end
theorem box_res (w : World) (t1 t2 : TypeId) (c1 c2 : Array Value) :
    Blk ((w.alloc (.cells c1 t1)).alloc (.cells c2 t2)) w.heap.size t1 c1 ∧ Blk ((w.alloc (.cells c1 t1)).alloc (.cells c2 t2)) (w.heap.size + 1) t2 c2 ∧ Below w.heap.size w ((w.alloc (.cells c1 t1)).alloc (.cells c2 t2)) ∧ ((w.alloc (.cells c1 t1)).alloc (.cells c2 t2)).heap.size = w.heap.size + 2 := by
  refine ⟨(Blk.new w t1 c1).alloc _, ?_, below_alloc (below_one _ _), by simp⟩
  have := Blk.new (w.alloc (.cells c1 t1)) t2 c2
  rwa [World.size_alloc] at this
theorem blk_set2 {w : World} {g : Nat} {t : TypeId} {x y : Value} (h : Blk w g t #[x, y]) (a b : Value) : Blk ((w.setCell ⟨g, 0, none⟩ a).setCell ⟨g, 1, none⟩ b) g t #[a, b] := by
  simpa using (h.set_ 0 a).set_ 1 b
theorem Jmp.at_ {F : Nat → Prop} {v w w' : World} {o : Obj} (h : Jmp (fun k => F k ∨ Iv v (v.alloc o) k) w w') {t : TypeId} {cs : Array Value} (hb : Blk w v.heap.size t cs) : Blk w' v.heap.size t cs :=
  (h.keep v.heap.size (.inr ⟨Nat.le_refl _, by simp⟩)).trans hb

set_option maxRecDepth 100000 in
theorem shift_none (A B : Option Addr) (a c d : Nat) (i : Int) (w : World) :
    Calls Try.prog 24 #[.agg #[.slice A a c, .slice B 0 d], .int .i64 i] w (RetWd w ⟨[], []⟩) := by
  go_enter Try.func24, Try.ntmps24
  go_wp2
  refine bodyPost_ret (v := .agg #[.slice none 0 0, .slice none 0 0]) (by simp [results, Try.results24, go_sem]) rfl ?_
  exact ⟨_, _, rfl, ⟨LetsIs.nil_ _ _, LetsIs.nil_ _ _⟩, below_alloc (below_one _ _)⟩

set_option maxRecDepth 100000 in
set_option maxHeartbeats 2000000 in
theorem shift_any (x : Wd) (A B : Option Addr) (c d : Nat) (n : Int) (w : World) (S : Nat → Prop) (hS : Bd S w) (hx : x.size ≤ 1000000) (h0 : 0 < x.cycle.length) (hn : n ≤ 9223372036854775807)
    (hl : (∀ l ∈ x.stem, l.length ≤ 1000000000) ∧ ∀ l ∈ x.cycle, l.length ≤ 1000000000) (hw : WdIs w S x (.slice A x.stem.length c) (.slice B x.cycle.length d)) :
    Calls Try.prog 24 #[.agg #[.slice A x.stem.length c, .slice B x.cycle.length d], .int .i64 n] w (RetWd w (x.shift n.toNat)) := by
  have hp := x.place_lt n.toNat h0
  have hx' : x.size ≤ 1000000000 := by omega
  unfold Wd.size at hp
  have hx2 := hx
  unfold Wd.size at hx2
  obtain ⟨_, hcd, hdm, hcell⟩ := hw.2.at_
  obtain ⟨b, o, rfl, hSb, hx3⟩ := hcell h0
  unfold maxLen at hdm
  obtain ⟨_, hsc, hsm, hscell⟩ := hw.1.at_
  unfold maxLen at hsm
  have HX3 := Lib.hid hx3
  clear hx3 hcell
  by_cases hk : x.stem.length ≤ x.place n.toNat
  · obtain ⟨q, hq⟩ : ∃ q, x.place n.toNat = x.stem.length + q := ⟨_, (Nat.add_sub_cancel' hk).symm⟩
    have hsh : x.shift n.toNat = ⟨[], x.cycle.drop q ++ x.cycle.take q⟩ := by
      unfold Wd.shift
      rw [if_pos hk, hq, Nat.add_sub_cancel_left]
    rw [hsh]
    have q0 : (0 : Int) ≤ (q : Int) := by omega
    have q1 : (q : Int) ≤ (x.cycle.length : Int) := by omega
    have q2 : (q : Int) ≤ (d : Int) := by omega
    have q3 : ¬ d = q := by omega
    have e1 : ((x.stem.length + q : Nat) : Int) - (x.stem.length : Int) = (q : Int) := by omega
    have e2 : IntKind.i64.wrap (((x.stem.length : Int) + (q : Int)) - (x.stem.length : Int)) = (q : Int) := by rw [show ((x.stem.length : Int) + (q : Int)) - (x.stem.length : Int) = (q : Int) by omega]; exact IntWalk.i64_in _ (by omega)
    have HW := Lib.hid hw
    have HLL := Lib.hid hl
    have HSS := Lib.hid hS
    have HQ := Lib.hid hq
    have q4 : q ≤ x.cycle.length := by omega
    clear hw hp hk hsh hq hl hS
    go_enter Try.func24, Try.ntmps24
    go_wp2_with fail
    obtain ⟨b1, b2, hb0, hs0⟩ := box_res w 27 27 #[.slice A x.stem.length c, .slice (some ⟨b, o, none⟩) x.cycle.length d] #[.slice none 0 0, .slice none 0 0]
    generalize ((w.alloc (.cells #[.slice A x.stem.length c, .slice (some ⟨b, o, none⟩) x.cycle.length d] 27)).alloc (.cells #[.slice none 0 0, .slice none 0 0] 27)) = W0 at *
    refine (wplace_any x A _ c d n _ hx' h0 hn).mono ?_
    rintro e' w1 ⟨rfl, hb1⟩
    rw [HQ.out]
    have b1' := b1.call hb1
    have b2' := b2.call hb1
    have c0 := b1'.cell 0
    have c1 := b1'.cell 1
    simp only [List.getElem?_toArray, List.getElem?_cons_zero, List.getElem?_cons_succ] at c0 c1
    have B1 := Lib.hid b1'
    have B2 := Lib.hid b2'
    have HB := Lib.hid (below_call hb0 hb1)
    have l2 := b2'.lt
    clear b1 b2 b1' b2' hb0 hb1 hs0
    have hbl : ∀ W', Below w1.heap.size w1 W' → W'.cell? ⟨w.heap.size, 0, none⟩ = some (.slice A x.stem.length c) ∧ W'.cell? ⟨w.heap.size, 1, none⟩ = some (.slice (some ⟨b, o, none⟩) x.cycle.length d) := fun W' h => by
      rw [(B1.out.call h).cell, (B1.out.call h).cell]
      exact ⟨rfl, rfl⟩
    have HBL := Lib.hid hbl
    clear hbl
    go_wp2_with fail
    refine wp_region_jump (L := #[false, false, false, false, false, false, false, false, false, false, false, false, false, false, false, true]) 15 (by kernel_rfl) (by kernel_rfl) (by kernel_rfl) ?_
    have hF0 : ∀ k, Lt w1.drew.heap.size k → k < w1.drew.heap.size := fun _ h => h
    refine wpJ_takeL (i := 0) (v := ?_) rfl (by kernel_rfl) (by kernel_rfl) (by kernel_rfl) (fun _ _ _ h => h) hF0 (Or.inl ⟨by rfl, ?_⟩) ?_
    rotate_left
    focus
      intro W' hj
      obtain ⟨c0, c1⟩ := HBL.out W' (Jmp.low hj)
      clear hj
      go_simp
      try with_reducible rfl
    simp only [Act.put, List.setIfInBounds_toArray, List.set_cons_zero, List.set_cons_succ]
    refine wpJ_takeL (i := 1) (v := ?_) rfl (by kernel_rfl) (by kernel_rfl) (by kernel_rfl) (fun _ _ _ h => h) hF0 (Or.inl ⟨by rfl, ?_⟩) ?_
    rotate_left
    focus
      intro W' hj
      obtain ⟨c0, c1⟩ := HBL.out W' (Jmp.low hj)
      clear hj
      go_simp
      try with_reducible rfl
    simp only [Act.put, List.setIfInBounds_toArray, List.set_cons_zero, List.set_cons_succ]
    refine wpJ_takeL (i := 2) (v := ?_) rfl (by kernel_rfl) (by kernel_rfl) (by kernel_rfl) (fun _ _ _ h => h) hF0 (Or.inl ⟨by rfl, ?_⟩) ?_
    rotate_left
    focus
      intro W' hj
      obtain ⟨c0, c1⟩ := HBL.out W' (Jmp.low hj)
      clear hj
      go_simp
      try with_reducible rfl
    simp only [Act.put, List.setIfInBounds_toArray, List.set_cons_zero, List.set_cons_succ]
    refine wpJ_takeL (i := 3) (v := ?_) rfl (by kernel_rfl) (by kernel_rfl) (by kernel_rfl) (fun _ _ _ h => h) hF0 (Or.inl ⟨by rfl, ?_⟩) ?_
    rotate_left
    focus
      intro W' hj
      obtain ⟨c0, c1⟩ := HBL.out W' (Jmp.low hj)
      clear hj
      go_simp
      try with_reducible rfl
    simp only [Act.put, List.setIfInBounds_toArray, List.set_cons_zero, List.set_cons_succ]
    refine wpJ_takeL (i := 4) (v := ?_) rfl (by kernel_rfl) (by kernel_rfl) (by kernel_rfl) (fun _ _ _ h => h) hF0 (Or.inl ⟨by rfl, ?_⟩) ?_
    rotate_left
    focus
      intro W' hj
      obtain ⟨c0, c1⟩ := HBL.out W' (Jmp.low hj)
      clear hj
      go_simp
      try with_reducible rfl
    simp only [Act.put, List.setIfInBounds_toArray, List.set_cons_zero, List.set_cons_succ]
    refine wpJ_takeL (i := 5) (v := ?_) rfl (by kernel_rfl) (by kernel_rfl) (by kernel_rfl) (fun _ _ _ h => h) hF0 (Or.inl ⟨by rfl, ?_⟩) ?_
    rotate_left
    focus
      intro W' hj
      obtain ⟨c0, c1⟩ := HBL.out W' (Jmp.low hj)
      clear hj
      go_simp
      try with_reducible rfl
    simp only [Act.put, List.setIfInBounds_toArray, List.set_cons_zero, List.set_cons_succ]
    refine wpJ_takeL (i := 6) (v := ?_) rfl (by kernel_rfl) (by kernel_rfl) (by kernel_rfl) (fun _ _ _ h => h) hF0 (Or.inl ⟨by rfl, ?_⟩) ?_
    rotate_left
    focus
      intro W' hj
      obtain ⟨c0, c1⟩ := HBL.out W' (Jmp.low hj)
      clear hj
      go_simp
      try with_reducible rfl
    simp only [Act.put, List.setIfInBounds_toArray, List.set_cons_zero, List.set_cons_succ]
    refine wpJ_takeL (i := 7) (v := ?_) rfl (by kernel_rfl) (by kernel_rfl) (by kernel_rfl) (fun _ _ _ h => h) hF0 (Or.inl ⟨by rfl, ?_⟩) ?_
    rotate_left
    focus
      intro W' hj
      obtain ⟨c0, c1⟩ := HBL.out W' (Jmp.low hj)
      clear hj
      go_simp
      try with_reducible rfl
    simp only [Act.put, List.setIfInBounds_toArray, List.set_cons_zero, List.set_cons_succ]
    refine wpJ_takeL (i := 8) (v := ?_) rfl (by kernel_rfl) (by kernel_rfl) (by kernel_rfl) (fun _ _ _ h => h) hF0 (Or.inl ⟨by rfl, ?_⟩) ?_
    rotate_left
    focus
      intro W' hj
      obtain ⟨c0, c1⟩ := HBL.out W' (Jmp.low hj)
      clear hj
      go_simp
      try with_reducible rfl
    simp only [Act.put, List.setIfInBounds_toArray, List.set_cons_zero, List.set_cons_succ]
    refine wpJ_takeL (i := 9) (v := ?_) rfl (by kernel_rfl) (by kernel_rfl) (by kernel_rfl) (fun _ _ _ h => h) hF0 (Or.inl ⟨by rfl, ?_⟩) ?_
    rotate_left
    focus
      intro W' hj
      obtain ⟨c0, c1⟩ := HBL.out W' (Jmp.low hj)
      clear hj
      go_simp
      try with_reducible rfl
    simp only [Act.put, List.setIfInBounds_toArray, List.set_cons_zero, List.set_cons_succ]
    refine wpJ_takeL (i := 10) (v := ?_) rfl (by kernel_rfl) (by kernel_rfl) (by kernel_rfl) (fun _ _ _ h => h) hF0 (Or.inl ⟨by rfl, ?_⟩) ?_
    rotate_left
    focus
      intro W' hj
      obtain ⟨c0, c1⟩ := HBL.out W' (Jmp.low hj)
      clear hj
      go_simp
      try with_reducible rfl
    simp only [Act.put, List.setIfInBounds_toArray, List.set_cons_zero, List.set_cons_succ]
    refine wpJ_takeL (i := 11) (v := ?_) rfl (by kernel_rfl) (by kernel_rfl) (by kernel_rfl) (fun _ _ _ h => h) hF0 (Or.inl ⟨by rfl, ?_⟩) ?_
    rotate_left
    focus
      intro W' hj
      obtain ⟨c0, c1⟩ := HBL.out W' (Jmp.low hj)
      clear hj
      go_simp
      try with_reducible rfl
    simp only [Act.put, List.setIfInBounds_toArray, List.set_cons_zero, List.set_cons_succ]
    refine wpJ_callL (i := 12) (by kernel_rfl) rfl fun v12 j12 K12 k12 => ?_
    go_wp2_with fail
    have b12 := below_one v12 (.cells #[.slice (some ⟨b, o + q, none⟩) (x.cycle.length - q) (d - q), .slice (some ⟨b, o, none⟩) q d] 25)
    have hbn12 := Lib.hid (Blk.new v12 25 #[.slice (some ⟨b, o + q, none⟩) (x.cycle.length - q) (d - q), .slice (some ⟨b, o, none⟩) q d])
    refine k12.out _ _ b12 ?_
    clear k12
    have hF13 := grow_F (j12.grow hF0) b12.size
    refine wpJ_callL (i := 13) (by kernel_rfl) rfl fun v13 j13 K13 k13 => ?_
    have hlow13 : Below w1.heap.size w1 v13 := Jmp.low (j12.back hF0 b12 j13)
    have hsz13 := hlow13.size
    have hww13 := below_call HB.out hlow13
    have hbk13 := Jmp.at_ j13 hbn12.out
    have hcy13 := (HW.out.call HSS.out hww13).2
    have hd13 := lets2_is (hcy13.drop_ (q := q) q4) (hcy13.take_ (q := q) q4) hbk13
    go_wp2_with fail
    refine (letters_any [x.cycle.drop q, x.cycle.take q] _ _ _ _ (fun b => S b ∨ b = v12.heap.size) (fun b hb => hb.elim (fun h => Nat.lt_of_lt_of_le (HSS.out b h) hww13.size) (fun h => by subst h; exact hbk13.lt)) hd13 (by simp; omega) (by intro l hl; simp only [List.flatten_cons, List.flatten_nil, List.append_nil, List.mem_append] at hl; rcases hl with h | h; exact HLL.out.2 l (List.mem_of_mem_drop h); exact HLL.out.2 l (List.mem_of_mem_take h))).mono ?_
    rintro e13 w13 ⟨r13, rfl, hown13, b13⟩
    have hr13 := hown13.lets
    obtain ⟨A13, m13, c13, rfl⟩ := hr13.shape
    have HR13 := Lib.hid hr13
    have HV13 := Lib.hid (show w1.heap.size ≤ v13.heap.size from hsz13)
    clear hr13 hown13 hlow13 hsz13 hww13 hbk13 hd13
    go_wp2_with fail
    refine k13.out _ _ b13 ?_
    clear k13
    have hF14 := grow_F (j13.grow hF13) b13.size
    refine wpJ_takeL (i := 14) (v := ?_) rfl (by kernel_rfl) (by kernel_rfl) (by kernel_rfl) (fun _ _ _ h => h) hF14 (Or.inl ⟨by rfl, ?_⟩) ?_
    rotate_left
    focus
      intro W' hj
      obtain ⟨c0, c1⟩ := HBL.out W' (Jmp.low (j12.back hF0 b12 (j13.back hF13 b13 hj)))
      clear hj
      go_simp
      try with_reducible rfl
    simp only [Act.put, List.setIfInBounds_toArray, List.set_cons_zero, List.set_cons_succ]
    refine wpJ_end (by kernel_rfl) (fun wz jz => ?_) _
    have hz := Jmp.low (j12.back hF0 b12 (j13.back hF13 b13 jz))
    have hbz := B2.out.call hz
    have f0 := hbz.frozen 0
    have f1 := hbz.frozen 1
    have g0 := hbz.cell 0
    have g1 := hbz.cell 1
    simp only [List.getElem?_toArray, List.getElem?_cons_zero, List.getElem?_cons_succ] at g0 g1
    refine ⟨by kernel_rfl, ?_⟩
    have HBZ := Lib.hid hbz
    have HZ := Lib.hid hz
    have lz := HZ.out.size
    have hres := HR13.out.keep (w' := wz) (S' := From v13.heap.size wz) (fun b hb => ⟨⟨hb.1, Nat.lt_of_lt_of_le hb.2 jz.size⟩, jz.keep b (.inr hb)⟩)
    have HRES := Lib.hid hres
    clear hres
    clear hbz hz
    go_wp2_with fail
    have hb2 := blk_set2 HBZ.out (.slice none 0 0) (.slice A13 m13 c13)
    have r0 := hb2.cell 0
    have r1 := hb2.cell 1
    simp only [List.getElem?_toArray, List.getElem?_cons_zero, List.getElem?_cons_succ] at r0 r1
    refine bodyPost_ret (v := .agg #[.slice none 0 0, .slice A13 m13 c13]) (by simp [results, Try.results24, go_sem, r0, r1]) rfl ?_
    have hwz : Below w.heap.size w ((wz.setCell ⟨w.heap.size + 1, 0, none⟩ (.slice none 0 0)).setCell ⟨w.heap.size + 1, 1, none⟩ (.slice A13 m13 c13)) := below_set (below_set (below_call HB.out HZ.out) (by show w.heap.size ≤ w.heap.size + 1; omega)) (by show w.heap.size ≤ w.heap.size + 1; omega)
    refine ⟨_, _, rfl, ⟨LetsIs.nil_ _ _, ?_⟩, hwz⟩
    have e3 : [x.cycle.drop q, x.cycle.take q].flatten = x.cycle.drop q ++ x.cycle.take q := by simp
    rw [← e3]
    exact ((HRES.out.store (p := ⟨w.heap.size + 1, 0, none⟩) (by rintro ⟨h, _⟩; exact absurd h (by show ¬ _ ≤ w.heap.size + 1; have := HV13.out; omega)) _).store (p := ⟨w.heap.size + 1, 1, none⟩) (by rintro ⟨h, _⟩; exact absurd h (by show ¬ _ ≤ w.heap.size + 1; have := HV13.out; omega)) _).mono fun b hb => ⟨Nat.le_trans HB.out.size (Nat.le_trans HV13.out hb.1), by simpa using hb.2⟩

  · obtain ⟨q, hq⟩ : ∃ q, x.place n.toNat = q := ⟨_, rfl⟩
    rw [hq] at hk hp
    have hsh : x.shift n.toNat = ⟨x.stem.drop q, x.cycle⟩ := by
      unfold Wd.shift
      rw [hq, if_neg hk]
    rw [hsh]
    obtain ⟨sb, so, rfl, hSs, hx4⟩ := hscell (by omega)
    have q0 : (0 : Int) ≤ (q : Int) := by omega
    have q1 : (q : Int) ≤ (x.stem.length : Int) := by omega
    have q2 : (q : Int) ≤ (c : Int) := by omega
    have q3 : ¬ c = q := by omega
    have q5 : decide (x.stem.length ≤ q) = false := by simp; omega
    have HW := Lib.hid hw
    have HLL := Lib.hid hl
    have HSS := Lib.hid hS
    have HQ := Lib.hid hq
    have q4 : q ≤ x.stem.length := by omega
    clear hw hp hk hsh hq hl hS hscell hx4
    go_enter Try.func24, Try.ntmps24
    go_wp2_with fail
    obtain ⟨b1, b2, hb0, hs0⟩ := box_res w 27 27 #[.slice (some ⟨sb, so, none⟩) x.stem.length c, .slice (some ⟨b, o, none⟩) x.cycle.length d] #[.slice none 0 0, .slice none 0 0]
    generalize ((w.alloc (.cells #[.slice (some ⟨sb, so, none⟩) x.stem.length c, .slice (some ⟨b, o, none⟩) x.cycle.length d] 27)).alloc (.cells #[.slice none 0 0, .slice none 0 0] 27)) = W0 at *
    refine (wplace_any x (some ⟨sb, so, none⟩) _ c d n _ hx' h0 hn).mono ?_
    rintro e' w1 ⟨rfl, hb1⟩
    rw [HQ.out]
    have b1' := b1.call hb1
    have b2' := b2.call hb1
    have c0 := b1'.cell 0
    have c1 := b1'.cell 1
    simp only [List.getElem?_toArray, List.getElem?_cons_zero, List.getElem?_cons_succ] at c0 c1
    have B1 := Lib.hid b1'
    have B2 := Lib.hid b2'
    have HB := Lib.hid (below_call hb0 hb1)
    have l2 := b2'.lt
    clear b1 b2 b1' b2' hb0 hb1 hs0
    have hbl : ∀ W', Below w1.heap.size w1 W' → W'.cell? ⟨w.heap.size, 0, none⟩ = some (.slice (some ⟨sb, so, none⟩) x.stem.length c) ∧ W'.cell? ⟨w.heap.size, 1, none⟩ = some (.slice (some ⟨b, o, none⟩) x.cycle.length d) := fun W' h => by
      rw [(B1.out.call h).cell, (B1.out.call h).cell]
      exact ⟨rfl, rfl⟩
    have HBL := Lib.hid hbl
    clear hbl
    go_wp2_with fail
    refine wp_region_jump (L := #[false, false, false, false, false, false, false, false, false, false, false, true]) 11 (by kernel_rfl) (by kernel_rfl) (by kernel_rfl) ?_
    have hF0 : ∀ k, Lt w1.drew.heap.size k → k < w1.drew.heap.size := fun _ h => h
    refine wpJ_takeL (i := 0) (v := ?_) rfl (by kernel_rfl) (by kernel_rfl) (by kernel_rfl) (fun _ _ _ h => h) hF0 (Or.inl ⟨by rfl, ?_⟩) ?_
    rotate_left
    focus
      intro W' hj
      obtain ⟨c0, c1⟩ := HBL.out W' (Jmp.low hj)
      clear hj
      go_simp
      try with_reducible rfl
    simp only [Act.put, List.setIfInBounds_toArray, List.set_cons_zero, List.set_cons_succ]
    refine wpJ_takeL (i := 1) (v := ?_) rfl (by kernel_rfl) (by kernel_rfl) (by kernel_rfl) (fun _ _ _ h => h) hF0 (Or.inl ⟨by rfl, ?_⟩) ?_
    rotate_left
    focus
      intro W' hj
      obtain ⟨c0, c1⟩ := HBL.out W' (Jmp.low hj)
      clear hj
      go_simp
      try with_reducible rfl
    simp only [Act.put, List.setIfInBounds_toArray, List.set_cons_zero, List.set_cons_succ]
    refine wpJ_takeL (i := 2) (v := ?_) rfl (by kernel_rfl) (by kernel_rfl) (by kernel_rfl) (fun _ _ _ h => h) hF0 (Or.inl ⟨by rfl, ?_⟩) ?_
    rotate_left
    focus
      intro W' hj
      obtain ⟨c0, c1⟩ := HBL.out W' (Jmp.low hj)
      clear hj
      go_simp
      try with_reducible rfl
    simp only [Act.put, List.setIfInBounds_toArray, List.set_cons_zero, List.set_cons_succ]
    refine wpJ_takeL (i := 3) (v := ?_) rfl (by kernel_rfl) (by kernel_rfl) (by kernel_rfl) (fun _ _ _ h => h) hF0 (Or.inl ⟨by rfl, ?_⟩) ?_
    rotate_left
    focus
      intro W' hj
      obtain ⟨c0, c1⟩ := HBL.out W' (Jmp.low hj)
      clear hj
      go_simp
      try with_reducible rfl
    simp only [Act.put, List.setIfInBounds_toArray, List.set_cons_zero, List.set_cons_succ]
    refine wpJ_takeL (i := 6) (v := ?_) rfl (by kernel_rfl) (by kernel_rfl) (by kernel_rfl) (fun _ _ _ h => h) hF0 (Or.inl ⟨by rfl, ?_⟩) ?_
    rotate_left
    focus
      intro W' hj
      obtain ⟨c0, c1⟩ := HBL.out W' (Jmp.low hj)
      clear hj
      go_simp
      try with_reducible rfl
    simp only [Act.put, List.setIfInBounds_toArray, List.set_cons_zero, List.set_cons_succ]
    refine wpJ_takeL (i := 7) (v := ?_) rfl (by kernel_rfl) (by kernel_rfl) (by kernel_rfl) (fun _ _ _ h => h) hF0 (Or.inl ⟨by rfl, ?_⟩) ?_
    rotate_left
    focus
      intro W' hj
      obtain ⟨c0, c1⟩ := HBL.out W' (Jmp.low hj)
      clear hj
      go_simp
      try with_reducible rfl
    simp only [Act.put, List.setIfInBounds_toArray, List.set_cons_zero, List.set_cons_succ]
    refine wpJ_call2 (i := 4) (j := 8) (by kernel_rfl) rfl rfl (fun v4 j4 K4 k4 => ?_) (fun v8 j8 K8 k8 => ?_)
    · skip
      go_wp2_with fail
      have b4 := below_one v4 (.cells #[.slice (some ⟨sb, so + q, none⟩) (x.stem.length - q) (c - q)] 25)
      have hbn4 := Lib.hid (Blk.new v4 25 #[.slice (some ⟨sb, so + q, none⟩) (x.stem.length - q) (c - q)])
      refine k4.out _ _ b4 ?_
      clear k4
      have hF5 := grow_F (j4.grow hF0) b4.size
      refine wpJ_call2 (i := 5) (j := 8) (by kernel_rfl) rfl rfl (fun v5 j5 K5 k5 => ?_) (fun v8 j8 K8 k8 => ?_)
      · skip
        have HG4_5_5 := Lib.hid (show Blk v5 v4.heap.size 25 _ from (j5.keep v4.heap.size (.inr ⟨Nat.le_refl _, by simp⟩)).trans hbn4.out)
        have HB4_5 := Lib.hid (show Blk v5 v4.heap.size 25 _ from HG4_5_5.out)
        have hlow5 : Below w1.heap.size w1 v5 := Jmp.low (j4.back hF0 b4 j5)
        have hsz5 := hlow5.size
        have hww5 := below_call HB.out hlow5
        have hbk5 := HB4_5.out
        have hcy5 := (HW.out.call HSS.out hww5).1
        have hd5 := lets1_is (hcy5.drop_ (q := q) q4) hbk5
        go_wp2_with fail
        refine (letters_any [x.stem.drop q] _ _ _ _ (fun b => S b ∨ b = v4.heap.size) (fun b hb => hb.elim (fun h => Nat.lt_of_lt_of_le (HSS.out b h) hww5.size) (fun h => by subst h; exact hbk5.lt)) hd5 (by simp; omega) (by intro l hl; simp only [List.flatten_cons, List.flatten_nil, List.append_nil] at hl; exact HLL.out.1 l (List.mem_of_mem_drop hl))).mono ?_
        rintro e5 w5 ⟨r5, rfl, hown5, b5⟩
        have hr5 := hown5.lets
        obtain ⟨A5, m5, c5, rfl⟩ := hr5.shape
        have HR5 := Lib.hid hr5
        have HV5 := Lib.hid (show w1.heap.size ≤ v5.heap.size from hsz5)
        clear hr5 hown5 hlow5 hsz5 hww5 hbk5 hd5
        go_wp2_with fail
        refine k5.out _ _ b5 ?_
        clear k5
        have hF6 := grow_F (j5.grow hF5) b5.size
        refine wpJ_callL (i := 8) (by kernel_rfl) rfl fun v8 j8 K8 k8 => ?_
        go_wp2_with fail
        have b8 := below_one v8 (.cells #[.slice (some ⟨b, o, none⟩) x.cycle.length d] 25)
        have hbn8 := Lib.hid (Blk.new v8 25 #[.slice (some ⟨b, o, none⟩) x.cycle.length d])
        refine k8.out _ _ b8 ?_
        clear k8
        have hF9 := grow_F (j8.grow hF6) b8.size
        refine wpJ_callL (i := 9) (by kernel_rfl) rfl fun v9 j9 K9 k9 => ?_
        have HG8_9_9 := Lib.hid (show Blk v9 v8.heap.size 25 _ from (j9.keep v8.heap.size (.inr ⟨Nat.le_refl _, by simp⟩)).trans hbn8.out)
        have HB8_9 := Lib.hid (show Blk v9 v8.heap.size 25 _ from HG8_9_9.out)
        have hlow9 : Below w1.heap.size w1 v9 := Jmp.low (j4.back hF0 b4 (j5.back hF5 b5 (j8.back hF6 b8 j9)))
        have hsz9 := hlow9.size
        have hww9 := below_call HB.out hlow9
        have hbk9 := HB8_9.out
        have hcy9 := (HW.out.call HSS.out hww9).2
        have hd9 := lets1_is hcy9 hbk9
        go_wp2_with fail
        refine (letters_any [x.cycle] _ _ _ _ (fun b => S b ∨ b = v8.heap.size) (fun b hb => hb.elim (fun h => Nat.lt_of_lt_of_le (HSS.out b h) hww9.size) (fun h => by subst h; exact hbk9.lt)) hd9 (by simp; omega) (by intro l hl; simp only [List.flatten_cons, List.flatten_nil, List.append_nil] at hl; exact HLL.out.2 l hl)).mono ?_
        rintro e9 w9 ⟨r9, rfl, hown9, b9⟩
        have hr9 := hown9.lets
        obtain ⟨A9, m9, c9, rfl⟩ := hr9.shape
        have HR9 := Lib.hid hr9
        have HV9 := Lib.hid (show w1.heap.size ≤ v9.heap.size from hsz9)
        clear hr9 hown9 hlow9 hsz9 hww9 hbk9 hd9
        go_wp2_with fail
        refine k9.out _ _ b9 ?_
        clear k9
        have hF10 := grow_F (j9.grow hF9) b9.size
        refine wpJ_takeL (i := 10) (v := ?_) rfl (by kernel_rfl) (by kernel_rfl) (by kernel_rfl) (fun _ _ _ h => h) hF10 (Or.inl ⟨by rfl, ?_⟩) ?_
        rotate_left
        focus
          intro W' hj
          obtain ⟨c0, c1⟩ := HBL.out W' (Jmp.low (j4.back hF0 b4 (j5.back hF5 b5 (j8.back hF6 b8 (j9.back hF9 b9 hj)))))
          clear hj
          go_simp
          try with_reducible rfl
        simp only [Act.put, List.setIfInBounds_toArray, List.set_cons_zero, List.set_cons_succ]
        refine wpJ_end (by kernel_rfl) (fun wz jz => ?_) _
        have hz := Jmp.low (j4.back hF0 b4 (j5.back hF5 b5 (j8.back hF6 b8 (j9.back hF9 b9 jz))))
        have hbz := B2.out.call hz
        have f0 := hbz.frozen 0
        have f1 := hbz.frozen 1
        have g0 := hbz.cell 0
        have g1 := hbz.cell 1
        simp only [List.getElem?_toArray, List.getElem?_cons_zero, List.getElem?_cons_succ] at g0 g1
        refine ⟨by kernel_rfl, ?_⟩
        have HBZ := Lib.hid hbz
        have HZ := Lib.hid hz
        have lz := HZ.out.size
        have HRES := Lib.hid (HR5.out.keep (w' := wz) (S' := From v5.heap.size wz) (fun b hb => ⟨⟨hb.1, Nat.lt_of_lt_of_le hb.2 (Nat.le_trans (Nat.le_trans j8.size (Nat.le_trans b8.size (Nat.le_trans j9.size b9.size))) jz.size)⟩, (jz.keep b (.inl (.inl (.inr hb)))).trans ((b9.block b (Nat.lt_of_lt_of_le hb.2 (Nat.le_trans j8.size (Nat.le_trans b8.size j9.size)))).trans ((j9.keep b (.inl (.inr hb))).trans ((b8.block b (Nat.lt_of_lt_of_le hb.2 j8.size)).trans (j8.keep b (.inr hb)))))⟩))
        have HRES2 := Lib.hid (HR9.out.keep (w' := wz) (S' := From v9.heap.size wz) (fun b hb => ⟨⟨hb.1, Nat.lt_of_lt_of_le hb.2 jz.size⟩, jz.keep b (.inr hb)⟩))
        clear hbz hz
        go_wp2_with fail
        have hb2 := blk_set2 HBZ.out (.slice A5 m5 c5) (.slice A9 m9 c9)
        have r0 := hb2.cell 0
        have r1 := hb2.cell 1
        simp only [List.getElem?_toArray, List.getElem?_cons_zero, List.getElem?_cons_succ] at r0 r1
        refine bodyPost_ret (v := .agg #[.slice A5 m5 c5, .slice A9 m9 c9]) (by simp [results, Try.results24, go_sem, r0, r1]) rfl ?_
        have hwz : Below w.heap.size w ((wz.setCell ⟨w.heap.size + 1, 0, none⟩ (.slice A5 m5 c5)).setCell ⟨w.heap.size + 1, 1, none⟩ (.slice A9 m9 c9)) := below_set (below_set (below_call HB.out HZ.out) (by show w.heap.size ≤ w.heap.size + 1; omega)) (by show w.heap.size ≤ w.heap.size + 1; omega)
        refine ⟨_, _, rfl, ⟨?_, ?_⟩, hwz⟩
        · have e3 : [x.stem.drop q].flatten = x.stem.drop q := by simp
          rw [← e3]
          exact ((HRES.out.store (p := ⟨w.heap.size + 1, 0, none⟩) (by rintro ⟨h, _⟩; exact absurd h (by show ¬ _ ≤ w.heap.size + 1; have := HV5.out; omega)) _).store (p := ⟨w.heap.size + 1, 1, none⟩) (by rintro ⟨h, _⟩; exact absurd h (by show ¬ _ ≤ w.heap.size + 1; have := HV5.out; omega)) _).mono fun b hb => ⟨Nat.le_trans HB.out.size (Nat.le_trans HV5.out hb.1), by simpa using hb.2⟩
        · have e3 : [x.cycle].flatten = x.cycle := by simp
          rw [← e3]
          exact ((HRES2.out.store (p := ⟨w.heap.size + 1, 0, none⟩) (by rintro ⟨h, _⟩; exact absurd h (by show ¬ _ ≤ w.heap.size + 1; have := HV9.out; omega)) _).store (p := ⟨w.heap.size + 1, 1, none⟩) (by rintro ⟨h, _⟩; exact absurd h (by show ¬ _ ≤ w.heap.size + 1; have := HV9.out; omega)) _).mono fun b hb => ⟨Nat.le_trans HB.out.size (Nat.le_trans HV9.out hb.1), by simpa using hb.2⟩

      · skip
        go_wp2_with fail
        have b8 := below_one v8 (.cells #[.slice (some ⟨b, o, none⟩) x.cycle.length d] 25)
        have hbn8 := Lib.hid (Blk.new v8 25 #[.slice (some ⟨b, o, none⟩) x.cycle.length d])
        refine k8.out _ _ b8 ?_
        clear k8
        have hF9 := grow_F (j8.grow hF5) b8.size
        refine wpJ_callL (i := 5) (by kernel_rfl) rfl fun v5 j5 K5 k5 => ?_
        have HG4_5_8 := Lib.hid (show Blk v8 v4.heap.size 25 _ from (j8.keep v4.heap.size (.inr ⟨Nat.le_refl _, by simp⟩)).trans hbn4.out)
        have HG4_5_5 := Lib.hid (show Blk v5 v4.heap.size 25 _ from (j5.keep v4.heap.size (.inl (.inr ⟨Nat.le_refl _, by simp⟩))).trans (HG4_5_8.out.call b8))
        have HB4_5 := Lib.hid (show Blk v5 v4.heap.size 25 _ from HG4_5_5.out)
        have hlow5 : Below w1.heap.size w1 v5 := Jmp.low (j4.back hF0 b4 (j8.back hF5 b8 j5))
        have hsz5 := hlow5.size
        have hww5 := below_call HB.out hlow5
        have hbk5 := HB4_5.out
        have hcy5 := (HW.out.call HSS.out hww5).1
        have hd5 := lets1_is (hcy5.drop_ (q := q) q4) hbk5
        go_wp2_with fail
        refine (letters_any [x.stem.drop q] _ _ _ _ (fun b => S b ∨ b = v4.heap.size) (fun b hb => hb.elim (fun h => Nat.lt_of_lt_of_le (HSS.out b h) hww5.size) (fun h => by subst h; exact hbk5.lt)) hd5 (by simp; omega) (by intro l hl; simp only [List.flatten_cons, List.flatten_nil, List.append_nil] at hl; exact HLL.out.1 l (List.mem_of_mem_drop hl))).mono ?_
        rintro e5 w5 ⟨r5, rfl, hown5, b5⟩
        have hr5 := hown5.lets
        obtain ⟨A5, m5, c5, rfl⟩ := hr5.shape
        have HR5 := Lib.hid hr5
        have HV5 := Lib.hid (show w1.heap.size ≤ v5.heap.size from hsz5)
        clear hr5 hown5 hlow5 hsz5 hww5 hbk5 hd5
        go_wp2_with fail
        refine k5.out _ _ b5 ?_
        clear k5
        have hF6 := grow_F (j5.grow hF9) b5.size
        refine wpJ_callL (i := 9) (by kernel_rfl) rfl fun v9 j9 K9 k9 => ?_
        have HG8_9_5 := Lib.hid (show Blk v5 v8.heap.size 25 _ from (j5.keep v8.heap.size (.inr ⟨Nat.le_refl _, by simp⟩)).trans hbn8.out)
        have HG8_9_9 := Lib.hid (show Blk v9 v8.heap.size 25 _ from (j9.keep v8.heap.size (.inl (.inr ⟨Nat.le_refl _, by simp⟩))).trans (HG8_9_5.out.call b5))
        have HB8_9 := Lib.hid (show Blk v9 v8.heap.size 25 _ from HG8_9_9.out)
        have hlow9 : Below w1.heap.size w1 v9 := Jmp.low (j4.back hF0 b4 (j8.back hF5 b8 (j5.back hF9 b5 j9)))
        have hsz9 := hlow9.size
        have hww9 := below_call HB.out hlow9
        have hbk9 := HB8_9.out
        have hcy9 := (HW.out.call HSS.out hww9).2
        have hd9 := lets1_is hcy9 hbk9
        go_wp2_with fail
        refine (letters_any [x.cycle] _ _ _ _ (fun b => S b ∨ b = v8.heap.size) (fun b hb => hb.elim (fun h => Nat.lt_of_lt_of_le (HSS.out b h) hww9.size) (fun h => by subst h; exact hbk9.lt)) hd9 (by simp; omega) (by intro l hl; simp only [List.flatten_cons, List.flatten_nil, List.append_nil] at hl; exact HLL.out.2 l hl)).mono ?_
        rintro e9 w9 ⟨r9, rfl, hown9, b9⟩
        have hr9 := hown9.lets
        obtain ⟨A9, m9, c9, rfl⟩ := hr9.shape
        have HR9 := Lib.hid hr9
        have HV9 := Lib.hid (show w1.heap.size ≤ v9.heap.size from hsz9)
        clear hr9 hown9 hlow9 hsz9 hww9 hbk9 hd9
        go_wp2_with fail
        refine k9.out _ _ b9 ?_
        clear k9
        have hF10 := grow_F (j9.grow hF6) b9.size
        refine wpJ_takeL (i := 10) (v := ?_) rfl (by kernel_rfl) (by kernel_rfl) (by kernel_rfl) (fun _ _ _ h => h) hF10 (Or.inl ⟨by rfl, ?_⟩) ?_
        rotate_left
        focus
          intro W' hj
          obtain ⟨c0, c1⟩ := HBL.out W' (Jmp.low (j4.back hF0 b4 (j8.back hF5 b8 (j5.back hF9 b5 (j9.back hF6 b9 hj)))))
          clear hj
          go_simp
          try with_reducible rfl
        simp only [Act.put, List.setIfInBounds_toArray, List.set_cons_zero, List.set_cons_succ]
        refine wpJ_end (by kernel_rfl) (fun wz jz => ?_) _
        have hz := Jmp.low (j4.back hF0 b4 (j8.back hF5 b8 (j5.back hF9 b5 (j9.back hF6 b9 jz))))
        have hbz := B2.out.call hz
        have f0 := hbz.frozen 0
        have f1 := hbz.frozen 1
        have g0 := hbz.cell 0
        have g1 := hbz.cell 1
        simp only [List.getElem?_toArray, List.getElem?_cons_zero, List.getElem?_cons_succ] at g0 g1
        refine ⟨by kernel_rfl, ?_⟩
        have HBZ := Lib.hid hbz
        have HZ := Lib.hid hz
        have lz := HZ.out.size
        have HRES := Lib.hid (HR5.out.keep (w' := wz) (S' := From v5.heap.size wz) (fun b hb => ⟨⟨hb.1, Nat.lt_of_lt_of_le hb.2 (Nat.le_trans (Nat.le_trans j9.size b9.size) jz.size)⟩, (jz.keep b (.inl (.inr hb))).trans ((b9.block b (Nat.lt_of_lt_of_le hb.2 j9.size)).trans (j9.keep b (.inr hb)))⟩))
        have HRES2 := Lib.hid (HR9.out.keep (w' := wz) (S' := From v9.heap.size wz) (fun b hb => ⟨⟨hb.1, Nat.lt_of_lt_of_le hb.2 jz.size⟩, jz.keep b (.inr hb)⟩))
        clear hbz hz
        go_wp2_with fail
        have hb2 := blk_set2 HBZ.out (.slice A5 m5 c5) (.slice A9 m9 c9)
        have r0 := hb2.cell 0
        have r1 := hb2.cell 1
        simp only [List.getElem?_toArray, List.getElem?_cons_zero, List.getElem?_cons_succ] at r0 r1
        refine bodyPost_ret (v := .agg #[.slice A5 m5 c5, .slice A9 m9 c9]) (by simp [results, Try.results24, go_sem, r0, r1]) rfl ?_
        have hwz : Below w.heap.size w ((wz.setCell ⟨w.heap.size + 1, 0, none⟩ (.slice A5 m5 c5)).setCell ⟨w.heap.size + 1, 1, none⟩ (.slice A9 m9 c9)) := below_set (below_set (below_call HB.out HZ.out) (by show w.heap.size ≤ w.heap.size + 1; omega)) (by show w.heap.size ≤ w.heap.size + 1; omega)
        refine ⟨_, _, rfl, ⟨?_, ?_⟩, hwz⟩
        · have e3 : [x.stem.drop q].flatten = x.stem.drop q := by simp
          rw [← e3]
          exact ((HRES.out.store (p := ⟨w.heap.size + 1, 0, none⟩) (by rintro ⟨h, _⟩; exact absurd h (by show ¬ _ ≤ w.heap.size + 1; have := HV5.out; omega)) _).store (p := ⟨w.heap.size + 1, 1, none⟩) (by rintro ⟨h, _⟩; exact absurd h (by show ¬ _ ≤ w.heap.size + 1; have := HV5.out; omega)) _).mono fun b hb => ⟨Nat.le_trans HB.out.size (Nat.le_trans HV5.out hb.1), by simpa using hb.2⟩
        · have e3 : [x.cycle].flatten = x.cycle := by simp
          rw [← e3]
          exact ((HRES2.out.store (p := ⟨w.heap.size + 1, 0, none⟩) (by rintro ⟨h, _⟩; exact absurd h (by show ¬ _ ≤ w.heap.size + 1; have := HV9.out; omega)) _).store (p := ⟨w.heap.size + 1, 1, none⟩) (by rintro ⟨h, _⟩; exact absurd h (by show ¬ _ ≤ w.heap.size + 1; have := HV9.out; omega)) _).mono fun b hb => ⟨Nat.le_trans HB.out.size (Nat.le_trans HV9.out hb.1), by simpa using hb.2⟩

    · skip
      go_wp2_with fail
      have b8 := below_one v8 (.cells #[.slice (some ⟨b, o, none⟩) x.cycle.length d] 25)
      have hbn8 := Lib.hid (Blk.new v8 25 #[.slice (some ⟨b, o, none⟩) x.cycle.length d])
      refine k8.out _ _ b8 ?_
      clear k8
      have hF9 := grow_F (j8.grow hF0) b8.size
      refine wpJ_callL (i := 4) (by kernel_rfl) rfl fun v4 j4 K4 k4 => ?_
      go_wp2_with fail
      have b4 := below_one v4 (.cells #[.slice (some ⟨sb, so + q, none⟩) (x.stem.length - q) (c - q)] 25)
      have hbn4 := Lib.hid (Blk.new v4 25 #[.slice (some ⟨sb, so + q, none⟩) (x.stem.length - q) (c - q)])
      refine k4.out _ _ b4 ?_
      clear k4
      have hF5 := grow_F (j4.grow hF9) b4.size
      refine wpJ_callL (i := 5) (by kernel_rfl) rfl fun v5 j5 K5 k5 => ?_
      have HG4_5_5 := Lib.hid (show Blk v5 v4.heap.size 25 _ from (j5.keep v4.heap.size (.inr ⟨Nat.le_refl _, by simp⟩)).trans hbn4.out)
      have HB4_5 := Lib.hid (show Blk v5 v4.heap.size 25 _ from HG4_5_5.out)
      have hlow5 : Below w1.heap.size w1 v5 := Jmp.low (j8.back hF0 b8 (j4.back hF9 b4 j5))
      have hsz5 := hlow5.size
      have hww5 := below_call HB.out hlow5
      have hbk5 := HB4_5.out
      have hcy5 := (HW.out.call HSS.out hww5).1
      have hd5 := lets1_is (hcy5.drop_ (q := q) q4) hbk5
      go_wp2_with fail
      refine (letters_any [x.stem.drop q] _ _ _ _ (fun b => S b ∨ b = v4.heap.size) (fun b hb => hb.elim (fun h => Nat.lt_of_lt_of_le (HSS.out b h) hww5.size) (fun h => by subst h; exact hbk5.lt)) hd5 (by simp; omega) (by intro l hl; simp only [List.flatten_cons, List.flatten_nil, List.append_nil] at hl; exact HLL.out.1 l (List.mem_of_mem_drop hl))).mono ?_
      rintro e5 w5 ⟨r5, rfl, hown5, b5⟩
      have hr5 := hown5.lets
      obtain ⟨A5, m5, c5, rfl⟩ := hr5.shape
      have HR5 := Lib.hid hr5
      have HV5 := Lib.hid (show w1.heap.size ≤ v5.heap.size from hsz5)
      clear hr5 hown5 hlow5 hsz5 hww5 hbk5 hd5
      go_wp2_with fail
      refine k5.out _ _ b5 ?_
      clear k5
      have hF6 := grow_F (j5.grow hF5) b5.size
      refine wpJ_callL (i := 9) (by kernel_rfl) rfl fun v9 j9 K9 k9 => ?_
      have HG8_9_4 := Lib.hid (show Blk v4 v8.heap.size 25 _ from (j4.keep v8.heap.size (.inr ⟨Nat.le_refl _, by simp⟩)).trans hbn8.out)
      have HG8_9_5 := Lib.hid (show Blk v5 v8.heap.size 25 _ from (j5.keep v8.heap.size (.inl (.inr ⟨Nat.le_refl _, by simp⟩))).trans (HG8_9_4.out.call b4))
      have HG8_9_9 := Lib.hid (show Blk v9 v8.heap.size 25 _ from (j9.keep v8.heap.size (.inl (.inl (.inr ⟨Nat.le_refl _, by simp⟩)))).trans (HG8_9_5.out.call b5))
      have HB8_9 := Lib.hid (show Blk v9 v8.heap.size 25 _ from HG8_9_9.out)
      have hlow9 : Below w1.heap.size w1 v9 := Jmp.low (j8.back hF0 b8 (j4.back hF9 b4 (j5.back hF5 b5 j9)))
      have hsz9 := hlow9.size
      have hww9 := below_call HB.out hlow9
      have hbk9 := HB8_9.out
      have hcy9 := (HW.out.call HSS.out hww9).2
      have hd9 := lets1_is hcy9 hbk9
      go_wp2_with fail
      refine (letters_any [x.cycle] _ _ _ _ (fun b => S b ∨ b = v8.heap.size) (fun b hb => hb.elim (fun h => Nat.lt_of_lt_of_le (HSS.out b h) hww9.size) (fun h => by subst h; exact hbk9.lt)) hd9 (by simp; omega) (by intro l hl; simp only [List.flatten_cons, List.flatten_nil, List.append_nil] at hl; exact HLL.out.2 l hl)).mono ?_
      rintro e9 w9 ⟨r9, rfl, hown9, b9⟩
      have hr9 := hown9.lets
      obtain ⟨A9, m9, c9, rfl⟩ := hr9.shape
      have HR9 := Lib.hid hr9
      have HV9 := Lib.hid (show w1.heap.size ≤ v9.heap.size from hsz9)
      clear hr9 hown9 hlow9 hsz9 hww9 hbk9 hd9
      go_wp2_with fail
      refine k9.out _ _ b9 ?_
      clear k9
      have hF10 := grow_F (j9.grow hF6) b9.size
      refine wpJ_takeL (i := 10) (v := ?_) rfl (by kernel_rfl) (by kernel_rfl) (by kernel_rfl) (fun _ _ _ h => h) hF10 (Or.inl ⟨by rfl, ?_⟩) ?_
      rotate_left
      focus
        intro W' hj
        obtain ⟨c0, c1⟩ := HBL.out W' (Jmp.low (j8.back hF0 b8 (j4.back hF9 b4 (j5.back hF5 b5 (j9.back hF6 b9 hj)))))
        clear hj
        go_simp
        try with_reducible rfl
      simp only [Act.put, List.setIfInBounds_toArray, List.set_cons_zero, List.set_cons_succ]
      refine wpJ_end (by kernel_rfl) (fun wz jz => ?_) _
      have hz := Jmp.low (j8.back hF0 b8 (j4.back hF9 b4 (j5.back hF5 b5 (j9.back hF6 b9 jz))))
      have hbz := B2.out.call hz
      have f0 := hbz.frozen 0
      have f1 := hbz.frozen 1
      have g0 := hbz.cell 0
      have g1 := hbz.cell 1
      simp only [List.getElem?_toArray, List.getElem?_cons_zero, List.getElem?_cons_succ] at g0 g1
      refine ⟨by kernel_rfl, ?_⟩
      have HBZ := Lib.hid hbz
      have HZ := Lib.hid hz
      have lz := HZ.out.size
      have HRES := Lib.hid (HR5.out.keep (w' := wz) (S' := From v5.heap.size wz) (fun b hb => ⟨⟨hb.1, Nat.lt_of_lt_of_le hb.2 (Nat.le_trans (Nat.le_trans j9.size b9.size) jz.size)⟩, (jz.keep b (.inl (.inr hb))).trans ((b9.block b (Nat.lt_of_lt_of_le hb.2 j9.size)).trans (j9.keep b (.inr hb)))⟩))
      have HRES2 := Lib.hid (HR9.out.keep (w' := wz) (S' := From v9.heap.size wz) (fun b hb => ⟨⟨hb.1, Nat.lt_of_lt_of_le hb.2 jz.size⟩, jz.keep b (.inr hb)⟩))
      clear hbz hz
      go_wp2_with fail
      have hb2 := blk_set2 HBZ.out (.slice A5 m5 c5) (.slice A9 m9 c9)
      have r0 := hb2.cell 0
      have r1 := hb2.cell 1
      simp only [List.getElem?_toArray, List.getElem?_cons_zero, List.getElem?_cons_succ] at r0 r1
      refine bodyPost_ret (v := .agg #[.slice A5 m5 c5, .slice A9 m9 c9]) (by simp [results, Try.results24, go_sem, r0, r1]) rfl ?_
      have hwz : Below w.heap.size w ((wz.setCell ⟨w.heap.size + 1, 0, none⟩ (.slice A5 m5 c5)).setCell ⟨w.heap.size + 1, 1, none⟩ (.slice A9 m9 c9)) := below_set (below_set (below_call HB.out HZ.out) (by show w.heap.size ≤ w.heap.size + 1; omega)) (by show w.heap.size ≤ w.heap.size + 1; omega)
      refine ⟨_, _, rfl, ⟨?_, ?_⟩, hwz⟩
      · have e3 : [x.stem.drop q].flatten = x.stem.drop q := by simp
        rw [← e3]
        exact ((HRES.out.store (p := ⟨w.heap.size + 1, 0, none⟩) (by rintro ⟨h, _⟩; exact absurd h (by show ¬ _ ≤ w.heap.size + 1; have := HV5.out; omega)) _).store (p := ⟨w.heap.size + 1, 1, none⟩) (by rintro ⟨h, _⟩; exact absurd h (by show ¬ _ ≤ w.heap.size + 1; have := HV5.out; omega)) _).mono fun b hb => ⟨Nat.le_trans HB.out.size (Nat.le_trans HV5.out hb.1), by simpa using hb.2⟩
      · have e3 : [x.cycle].flatten = x.cycle := by simp
        rw [← e3]
        exact ((HRES2.out.store (p := ⟨w.heap.size + 1, 0, none⟩) (by rintro ⟨h, _⟩; exact absurd h (by show ¬ _ ≤ w.heap.size + 1; have := HV9.out; omega)) _).store (p := ⟨w.heap.size + 1, 1, none⟩) (by rintro ⟨h, _⟩; exact absurd h (by show ¬ _ ≤ w.heap.size + 1; have := HV9.out; omega)) _).mono fun b hb => ⟨Nat.le_trans HB.out.size (Nat.le_trans HV9.out hb.1), by simpa using hb.2⟩

end Go.Proofs.Ytedbjkjncfinnaa
