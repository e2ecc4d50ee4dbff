/-
  Layer 15's law: what is plain holds where it should.
-/
import Derived.Test.YtedbjkjncfinnaaHoldsL
import Derived.Test.YtedbjkjncfinnaaLPlain
import Derived.Test.YtedbjkjncfinnaaWordB
namespace Go.Proofs.Ytedbjkjncfinnaa
open Go.RowKit

theorem wplain_at (f : Ltl) (k p : Int) (A : Option Addr) (n c : Nat) (dn : Bool) (w : World) (S : Nat → Prop) (g : Ltl) (hg : (f.norm.plain dn).ltl = g) (hS : Bd S w) (hf : Ltl.Is w S f [.int .i64 k, .int .i64 p, .slice A n c]) :
    Calls Try.prog 18 #[.agg #[.int .i64 k, .int .i64 p, .slice A n c], .bool dn] w (RetLtl w S g) := hg ▸ plain_any f k p A n c dn w S hS hf
theorem is_set3 {w : World} {S : Nat → Prop} {f : Ltl} {cs : List Value} {g : Nat} (h : Ltl.Is w S f cs) (hg : ¬ S g) (a b c : Value) : Ltl.Is (((w.setCell ⟨g, 0, none⟩ a).setCell ⟨g, 1, none⟩ b).setCell ⟨g, 2, none⟩ c) S f cs :=
  ((h.store (p := ⟨g, 0, none⟩) hg a).store (p := ⟨g, 1, none⟩) hg b).store (p := ⟨g, 2, none⟩) hg c
theorem size_set3 (w : World) (g : Nat) (a b c : Value) : (((w.setCell ⟨g, 0, none⟩ a).setCell ⟨g, 1, none⟩ b).setCell ⟨g, 2, none⟩ c).heap.size = w.heap.size := by simp

/-- The boxes of two plain properties. -/
structure PD (P D : Ltl) (gp gq : Nat) (A0 : Option Addr) (n0 c0 : Nat) (A1 : Option Addr) (n1 c1 : Nat) (W : World) : Prop where
  b1 : Blk W gp 24 #[.int .i64 P.kind, .int .i64 P.prop, .slice A0 n0 c0]
  b2 : Blk W gq 24 #[.int .i64 D.kind, .int .i64 D.prop, .slice A1 n1 c1]
  hp : Ltl.Is W (Lt W.heap.size) P [.int .i64 P.kind, .int .i64 P.prop, .slice A0 n0 c0]
  hd : Ltl.Is W (Lt W.heap.size) D [.int .i64 D.kind, .int .i64 D.prop, .slice A1 n1 c1]
section
variable {P D : Ltl} {gp gq : Nat} {A0 : Option Addr} {n0 c0 : Nat} {A1 : Option Addr} {n1 c1 : Nat} {W W' : World}
theorem PD.call (h : PD P D gp gq A0 n0 c0 A1 n1 c1 W) (hb : Below W.heap.size W W') : PD P D gp gq A0 n0 c0 A1 n1 c1 W' := ⟨h.b1.call hb, h.b2.call hb, lt_call h.hp hb, lt_call h.hd hb⟩
theorem PD.cells (h : PD P D gp gq A0 n0 c0 A1 n1 c1 W) : W.cell? ⟨gp, 0, none⟩ = some (.int .i64 P.kind) ∧ W.cell? ⟨gp, 1, none⟩ = some (.int .i64 P.prop) ∧ W.cell? ⟨gp, 2, none⟩ = some (.slice A0 n0 c0) ∧
    W.cell? ⟨gq, 0, none⟩ = some (.int .i64 D.kind) ∧ W.cell? ⟨gq, 1, none⟩ = some (.int .i64 D.prop) ∧ W.cell? ⟨gq, 2, none⟩ = some (.slice A1 n1 c1) := by
  rw [h.b1.cell, h.b1.cell, h.b1.cell, h.b2.cell, h.b2.cell, h.b2.cell]
  exact ⟨rfl, rfl, rfl, rfl, rfl, rfl⟩
end
theorem sat_P (x : Wd) (t : T) (d : Bool) (i : Nat) (v : Bool) (h : t.sat x i = v) : (t.plain d).ltl.norm.sat x i = (d != v) := by rw [T.ltl_norm, T.sat_plain, h]
theorem plain_P (t : T) (a b c : Bool) (h : (a != b) = c) : ((t.plain a).ltl.norm.plain b).ltl = (t.plain c).ltl := by rw [T.ltl_norm, T.plain_plain, h]
theorem same_P (t : T) (a : Bool) : (t.plain a).ltl.norm.same (t.plain a).ltl.norm = true := (T.same_iff _ _).2 rfl

set_option maxRecDepth 100000 in
set_option maxHeartbeats 8000000 in
theorem wordTurns_any (f : Ltl) (x : Wd) (k p : Int) (K : Option Addr) (n e : Nat) (A B : Option Addr) (c d : Nat) (i : Int) (w : World) (hbig : x.size ≤ 9223372036854775807) (hi : i ≤ 9223372036854775807)
    (hf : Ltl.Is w (Lt w.heap.size) f [.int .i64 k, .int .i64 p, .slice K n e]) (hw : WdIs w (Lt w.heap.size) x (.slice A x.stem.length c) (.slice B x.cycle.length d)) :
    Calls Try.prog 5 #[.agg #[.int .i64 k, .int .i64 p, .slice K n e], .agg #[.slice A x.stem.length c, .slice B x.cycle.length d], .int .i64 i] w fun e w' => e = .returned (.bool true) ∧ Below w.heap.size w w' := by
  have HB0 := Lib.hid (BxW.new hf hw)
  clear hf hw
  go_enter Try.func5, Try.ntmps5
  go_wp2_with fail
  generalize ((w.alloc (.cells #[.int .i64 k, .int .i64 p, .slice K n e] 24)).alloc (.cells #[.slice A x.stem.length c, .slice B x.cycle.length d] 27)) = W0 at *
  refine (alive15_any W0).mono ?_
  rintro e1 w1 ⟨rfl, b1⟩
  have HB1 := Lib.hid (HB0.out.call b1)
  clear b1
  obtain ⟨y0, y1, y2, y3, y4⟩ := HB1.out.cells
  go_wp2_with fail
  refine (few15_any f x k p K n e A B c d w1 hbig HB1.out.hf HB1.out.hw).mono ?_
  rintro e2 w2 ⟨rfl, b2⟩
  have HB2 := Lib.hid (HB1.out.call b2)
  clear b2 y0 y1 y2 y3 y4
  obtain ⟨y0, y1, y2, y3, y4⟩ := HB2.out.cells
  cases hsb : smallB f x with
  | false =>
    clear hsb
    go_wp2
    go_ret
    exact ⟨rfl, HB2.out.below⟩
  | true =>
    have hsm := (small_size hsb).1
    clear hsb
    by_cases h0 : x.cycle.length = 0
    · have hq : ((x.cycle.length : Int) == 0) = true := by simpa using h0
      clear h0
      go_wp2
      go_ret
      exact ⟨rfl, HB2.out.below⟩
    · have hq : ((x.cycle.length : Int) == 0) = false := by simpa using h0
      have H0 := Lib.hid (show 0 < x.cycle.length by omega)
      clear h0
      obtain ⟨hv, hhv⟩ : ∃ hv, f.norm.sat x i.toNat = hv := ⟨_, rfl⟩
      have HV := Lib.hid hhv
      clear hhv
      go_wp2_with fail
      refine (wholds_val x f k p K n e A B c d i w2 hv HV.out (by omega) H0.out hi HB2.out.hf HB2.out.hw).mono ?_
      rintro e3 w3 ⟨rfl, b3⟩
      have HB3 := Lib.hid (HB2.out.call b3)
      clear b3 y0 y1 y2 y3 y4
      go_wp2_with fail
      refine wp_region_jump (L := #[false, false, false, false, false, false, true, true]) 6 (by kernel_rfl) (by kernel_rfl) (by kernel_rfl) ?_
      have hF0 : ∀ k, Lt w3.drew.heap.size k → k < w3.drew.heap.size := fun _ h => h
      refine wpJ_boxL (base := w3.heap.size) (i := 4) (Z := #[.int .i64 0, .int .i64 0, .slice none 0 0]) rfl (by kernel_rfl) (by kernel_rfl) (by kernel_rfl) (fun _ => by kernel_rfl) (fun _ _ _ _ h => h) hF0 (Nat.le_refl _) ?_
      refine wpJ_boxL (base := w3.heap.size) (i := 5) (Z := #[.int .i64 0, .int .i64 0, .slice none 0 0]) rfl (by kernel_rfl) (by kernel_rfl) (by kernel_rfl) (fun _ => by kernel_rfl) (fun _ _ _ _ h => h) hF0 (Nat.le_refl _) ?_
      refine wpJ_takeL (i := 0) (v := ?_) rfl (by kernel_rfl) (by kernel_rfl) (by kernel_rfl) (fun _ _ _ h => h) hF0 (Or.inl ⟨by rfl, ?_⟩) ?_
      rotate_left
      focus
        intro W' hj
        obtain ⟨y0, y1, y2, y3, y4⟩ := (HB3.out.call (Jmp.low hj)).cells
        clear hj
        go_simp
        try with_reducible rfl
      simp only [Act.put, List.setIfInBounds_toArray, List.set_cons_zero, List.set_cons_succ]
      refine wpJ_takeL (i := 2) (v := ?_) rfl (by kernel_rfl) (by kernel_rfl) (by kernel_rfl) (fun _ _ _ h => h) hF0 (Or.inl ⟨by rfl, ?_⟩) ?_
      rotate_left
      focus
        intro W' hj
        obtain ⟨y0, y1, y2, y3, y4⟩ := (HB3.out.call (Jmp.low hj)).cells
        clear hj
        go_simp
        try with_reducible rfl
      simp only [Act.put, List.setIfInBounds_toArray, List.set_cons_zero, List.set_cons_succ]
      refine wpJ_callL (i := 1) (by kernel_rfl) rfl fun v1 j1 K1 k1 => ?_
      have H1L := Lib.hid (Jmp.low j1).size
      go_wp2_with fail
      refine (wplain_at f k p K n e false v1 (Lt w3.heap.size) _ rfl (fun b h => Nat.lt_of_lt_of_le h (Jmp.low j1).size) (HB3.out.hf.call (Bd.lt _) (Jmp.low j1))).mono ?_
      rintro e1' w1' ⟨A1, n1, m1, rfl, hi1, b1⟩
      have HI1 := Lib.hid hi1
      clear hi1
      go_wp2_with fail
      refine k1.out _ _ b1 ?_
      clear k1
      have hF2 := grow_F (j1.grow hF0) b1.size
      refine wpJ_callL (i := 3) (by kernel_rfl) rfl fun v3 j3 K3 k3 => ?_
      have H3L := Lib.hid (Jmp.low (j1.back hF0 b1 j3)).size
      go_wp2_with fail
      refine (wplain_at f k p K n e true v3 (Lt w3.heap.size) _ rfl (fun b h => Nat.lt_of_lt_of_le h (Jmp.low (j1.back hF0 b1 j3)).size) (HB3.out.hf.call (Bd.lt _) (Jmp.low (j1.back hF0 b1 j3)))).mono ?_
      rintro e3' w3' ⟨A3, n3, m3, rfl, hi3, b3⟩
      have HI3 := Lib.hid hi3
      clear hi3
      go_wp2_with fail
      refine k3.out _ _ b3 ?_
      clear k3
      have hF4 := grow_F (j3.grow hF2) b3.size
      refine wpJ_end (by kernel_rfl) (fun wz jz => ?_) _
      have hlz := Jmp.low (j1.back hF0 b1 (j3.back hF2 b3 jz))
      have hP : Ltl.Is wz (fun b => (Lt w3.drew.heap.size b ∨ Iv v1 w1' b) ∨ Iv v3 w3' b) (f.norm.plain false).ltl [.int .i64 (f.norm.plain false).ltl.kind, .int .i64 (f.norm.plain false).ltl.prop, .slice A1 n1 m1] := D.Is.keep (fun b hb => ⟨.inl (hb.elim .inl .inr), (j3.back hF2 b3 jz).keep b (hb.elim (fun h => (.inl h)) .inr)⟩) _ _ HI1.out
      have hD : Ltl.Is wz (fun b => (Lt w3.drew.heap.size b ∨ Iv v1 w1' b) ∨ Iv v3 w3' b) (f.norm.plain true).ltl [.int .i64 (f.norm.plain true).ltl.kind, .int .i64 (f.norm.plain true).ltl.prop, .slice A3 n3 m3] := D.Is.keep (fun b hb => ⟨hb.elim (fun h => .inl (.inl h)) .inr, jz.keep b (hb.elim (fun h => (.inl (.inl h))) .inr)⟩) _ _ HI3.out
      have hFz : ∀ b, (fun b => (Lt w3.drew.heap.size b ∨ Iv v1 w1' b) ∨ Iv v3 w3' b) b → b < wz.heap.size := fun b hb => Nat.lt_of_lt_of_le (hF4 b hb) jz.size
      intro gq loq noq bkq gp lop nop bkp
      have hne : gp ≠ gq := fun h => nop (.inr h)
      have HBP := Lib.hid bkp
      have HBQ := Lib.hid bkq
      have HP := Lib.hid hP
      have HD := Lib.hid hD
      have HFZ := Lib.hid hFz
      have HNP := Lib.hid (show ¬ (fun b => (Lt w3.drew.heap.size b ∨ Iv v1 w1' b) ∨ Iv v3 w3' b) gp from fun h => nop (.inl h))
      have HNQ := Lib.hid (show ¬ (fun b => (Lt w3.drew.heap.size b ∨ Iv v1 w1' b) ∨ Iv v3 w3' b) gq from noq)
      have HLZ := Lib.hid hlz
      obtain ⟨x0, x1, x2⟩ := cells3 bkp
      obtain ⟨z0, z1, z2⟩ := cells3 bkq
      have fp0 := bkp.frozen 0
      have fp1 := bkp.frozen 1
      have fp2 := bkp.frozen 2
      have fq0 := bkq.frozen 0
      have fq1 := bkq.frozen 1
      have fq2 := bkq.frozen 2
      clear bkp bkq hlz nop noq jz hP hD hFz
      refine ⟨by kernel_rfl, ?_⟩
      simp only [Act.put, List.setIfInBounds_toArray, List.set_cons_zero, List.set_cons_succ]
      go_upto_region 7 with (fail)
      have hWZ : Below w3.heap.size w3 ((((((wz.setCell ⟨gp, 0, none⟩ (.int .i64 (f.norm.plain false).ltl.kind)).setCell ⟨gp, 1, none⟩ (.int .i64 (f.norm.plain false).ltl.prop)).setCell ⟨gp, 2, none⟩ (.slice A1 n1 m1)).setCell ⟨gq, 0, none⟩ (.int .i64 (f.norm.plain true).ltl.kind)).setCell ⟨gq, 1, none⟩ (.int .i64 (f.norm.plain true).ltl.prop)).setCell ⟨gq, 2, none⟩ (.slice A3 n3 m3)) := below_set3 (below_set3 HLZ.out lop (.int .i64 (f.norm.plain false).ltl.kind) (.int .i64 (f.norm.plain false).ltl.prop) (.slice A1 n1 m1)) loq (.int .i64 (f.norm.plain true).ltl.kind) (.int .i64 (f.norm.plain true).ltl.prop) (.slice A3 n3 m3)
      have HB4 := Lib.hid (HB3.out.call hWZ)
      have HPD := Lib.hid (show PD (f.norm.plain false).ltl (f.norm.plain true).ltl gp gq A1 n1 m1 A3 n3 m3 ((((((wz.setCell ⟨gp, 0, none⟩ (.int .i64 (f.norm.plain false).ltl.kind)).setCell ⟨gp, 1, none⟩ (.int .i64 (f.norm.plain false).ltl.prop)).setCell ⟨gp, 2, none⟩ (.slice A1 n1 m1)).setCell ⟨gq, 0, none⟩ (.int .i64 (f.norm.plain true).ltl.kind)).setCell ⟨gq, 1, none⟩ (.int .i64 (f.norm.plain true).ltl.prop)).setCell ⟨gq, 2, none⟩ (.slice A3 n3 m3)) from ⟨blk_far3 (blk_set3 HBP.out (.int .i64 (f.norm.plain false).ltl.kind) (.int .i64 (f.norm.plain false).ltl.prop) (.slice A1 n1 m1)) hne (.int .i64 (f.norm.plain true).ltl.kind) (.int .i64 (f.norm.plain true).ltl.prop) (.slice A3 n3 m3), blk_set3 (blk_far3 HBQ.out (Ne.symm hne) (.int .i64 (f.norm.plain false).ltl.kind) (.int .i64 (f.norm.plain false).ltl.prop) (.slice A1 n1 m1)) (.int .i64 (f.norm.plain true).ltl.kind) (.int .i64 (f.norm.plain true).ltl.prop) (.slice A3 n3 m3),
        (is_set3 (is_set3 HP.out HNP.out (.int .i64 (f.norm.plain false).ltl.kind) (.int .i64 (f.norm.plain false).ltl.prop) (.slice A1 n1 m1)) HNQ.out (.int .i64 (f.norm.plain true).ltl.kind) (.int .i64 (f.norm.plain true).ltl.prop) (.slice A3 n3 m3)).mono fun b hb => by show b < _; rw [size_set3, size_set3]; exact HFZ.out b hb,
        (is_set3 (is_set3 HD.out HNP.out (.int .i64 (f.norm.plain false).ltl.kind) (.int .i64 (f.norm.plain false).ltl.prop) (.slice A1 n1 m1)) HNQ.out (.int .i64 (f.norm.plain true).ltl.kind) (.int .i64 (f.norm.plain true).ltl.prop) (.slice A3 n3 m3)).mono fun b hb => by show b < _; rw [size_set3, size_set3]; exact HFZ.out b hb⟩)
      clear hWZ x0 x1 x2 z0 z1 z2 fp0 fp1 fp2 fq0 fq1 fq2 HP HD HFZ HNP HNQ HBP HBQ HLZ HI1 HI3 H1L H3L HB0 HB1 HB2 HB3
      generalize ((((((wz.setCell ⟨gp, 0, none⟩ (.int .i64 (f.norm.plain false).ltl.kind)).setCell ⟨gp, 1, none⟩ (.int .i64 (f.norm.plain false).ltl.prop)).setCell ⟨gp, 2, none⟩ (.slice A1 n1 m1)).setCell ⟨gq, 0, none⟩ (.int .i64 (f.norm.plain true).ltl.kind)).setCell ⟨gq, 1, none⟩ (.int .i64 (f.norm.plain true).ltl.prop)).setCell ⟨gq, 2, none⟩ (.slice A3 n3 m3)) = W4 at *
      have hn1 : ((!hv) != hv) = true := by cases hv <;> rfl
      have hn2 : (hv == hv) = true := by cases hv <;> rfl
      refine wp_region_jump (L := #[false, false, false, false, false, false, false, false, false, false, false, false, false, false, false, false, false, false, false, false, false, false, false, false, false, false, false, false, false, false, false, false, false, false, false, false, false, false, false, false, false, false, false, false, true]) 44 (by kernel_rfl) (by kernel_rfl) (by kernel_rfl) ?_
      have hF0 : ∀ k, Lt W4.drew.heap.size k → k < W4.drew.heap.size := fun _ h => h
      refine wpJ_takeL (i := 0) (v := ?_) rfl (by kernel_rfl) (by kernel_rfl) (by kernel_rfl) (fun _ _ _ h => h) hF0 (Or.inl ⟨by rfl, ?_⟩) ?_
      rotate_left
      focus
        intro W' hj
        obtain ⟨y0, y1, y2, y3, y4⟩ := (HB4.out.call (Jmp.low hj)).cells
        obtain ⟨z0, z1, z2, z3, z4, z5⟩ := (HPD.out.call (Jmp.low hj)).cells
        clear hj
        go_simp
        try with_reducible rfl
      simp only [Act.put, List.setIfInBounds_toArray, List.set_cons_zero, List.set_cons_succ]
      refine wpJ_takeL (i := 1) (v := ?_) rfl (by kernel_rfl) (by kernel_rfl) (by kernel_rfl) (fun _ _ _ h => h) hF0 (Or.inl ⟨by rfl, ?_⟩) ?_
      rotate_left
      focus
        intro W' hj
        obtain ⟨y0, y1, y2, y3, y4⟩ := (HB4.out.call (Jmp.low hj)).cells
        obtain ⟨z0, z1, z2, z3, z4, z5⟩ := (HPD.out.call (Jmp.low hj)).cells
        clear hj
        go_simp
        try with_reducible rfl
      simp only [Act.put, List.setIfInBounds_toArray, List.set_cons_zero, List.set_cons_succ]
      refine wpJ_takeL (i := 2) (v := ?_) rfl (by kernel_rfl) (by kernel_rfl) (by kernel_rfl) (fun _ _ _ h => h) hF0 (Or.inl ⟨by rfl, ?_⟩) ?_
      rotate_left
      focus
        intro W' hj
        obtain ⟨y0, y1, y2, y3, y4⟩ := (HB4.out.call (Jmp.low hj)).cells
        obtain ⟨z0, z1, z2, z3, z4, z5⟩ := (HPD.out.call (Jmp.low hj)).cells
        clear hj
        go_simp
        try with_reducible rfl
      simp only [Act.put, List.setIfInBounds_toArray, List.set_cons_zero, List.set_cons_succ]
      refine wpJ_takeL (i := 4) (v := ?_) rfl (by kernel_rfl) (by kernel_rfl) (by kernel_rfl) (fun _ _ _ h => h) hF0 (Or.inl ⟨by rfl, ?_⟩) ?_
      rotate_left
      focus
        intro W' hj
        obtain ⟨y0, y1, y2, y3, y4⟩ := (HB4.out.call (Jmp.low hj)).cells
        obtain ⟨z0, z1, z2, z3, z4, z5⟩ := (HPD.out.call (Jmp.low hj)).cells
        clear hj
        go_simp
        try with_reducible rfl
      simp only [Act.put, List.setIfInBounds_toArray, List.set_cons_zero, List.set_cons_succ]
      refine wpJ_callL (i := 3) (by kernel_rfl) rfl fun v3 j3 K3 k3 => ?_
      go_wp2_with fail
      refine (wholds_val x (f.norm.plain false).ltl _ _ A1 n1 m1 A B c d i v3 hv ((sat_P x f.norm false i.toNat hv HV.out).trans (by cases hv <;> rfl)) (by omega) H0.out hi (HPD.out.call (Jmp.low j3)).hp (HB4.out.call (Jmp.low j3)).hw).mono ?_
      rintro e3' w3' ⟨rfl, b3⟩
      go_wp2_with fail
      refine k3.out _ _ b3 ?_
      clear k3
      have hF4 := grow_F (j3.grow hF0) b3.size
      refine wpJ_takeL (i := 5) (v := ?_) rfl (by kernel_rfl) (by kernel_rfl) (by kernel_rfl) (fun _ _ _ h => h) hF4 (Or.inl ⟨by rfl, ?_⟩) ?_
      rotate_left
      focus
        intro W' hj
        obtain ⟨y0, y1, y2, y3, y4⟩ := (HB4.out.call (Jmp.low (j3.back hF0 b3 hj))).cells
        obtain ⟨z0, z1, z2, z3, z4, z5⟩ := (HPD.out.call (Jmp.low (j3.back hF0 b3 hj))).cells
        clear hj
        go_simp
        try with_reducible rfl
      simp only [Act.put, List.setIfInBounds_toArray, List.set_cons_zero, List.set_cons_succ]
      refine wpJ_takeL (i := 6) (v := ?_) rfl (by kernel_rfl) (by kernel_rfl) (by kernel_rfl) (fun _ _ _ h => h) hF4 (Or.inl ⟨by rfl, ?_⟩) ?_
      rotate_left
      focus
        intro W' hj
        obtain ⟨y0, y1, y2, y3, y4⟩ := (HB4.out.call (Jmp.low (j3.back hF0 b3 hj))).cells
        obtain ⟨z0, z1, z2, z3, z4, z5⟩ := (HPD.out.call (Jmp.low (j3.back hF0 b3 hj))).cells
        clear hj
        go_simp
        try with_reducible rfl
      simp only [Act.put, List.setIfInBounds_toArray, List.set_cons_zero, List.set_cons_succ]
      refine wpJ_takeL (i := 7) (v := ?_) rfl (by kernel_rfl) (by kernel_rfl) (by kernel_rfl) (fun _ _ _ h => h) hF4 (Or.inl ⟨by rfl, ?_⟩) ?_
      rotate_left
      focus
        intro W' hj
        obtain ⟨y0, y1, y2, y3, y4⟩ := (HB4.out.call (Jmp.low (j3.back hF0 b3 hj))).cells
        obtain ⟨z0, z1, z2, z3, z4, z5⟩ := (HPD.out.call (Jmp.low (j3.back hF0 b3 hj))).cells
        clear hj
        go_simp
        try with_reducible rfl
      simp only [Act.put, List.setIfInBounds_toArray, List.set_cons_zero, List.set_cons_succ]
      refine wpJ_takeL (i := 8) (v := ?_) rfl (by kernel_rfl) (by kernel_rfl) (by kernel_rfl) (fun _ _ _ h => h) hF4 (Or.inl ⟨by rfl, ?_⟩) ?_
      rotate_left
      focus
        intro W' hj
        obtain ⟨y0, y1, y2, y3, y4⟩ := (HB4.out.call (Jmp.low (j3.back hF0 b3 hj))).cells
        obtain ⟨z0, z1, z2, z3, z4, z5⟩ := (HPD.out.call (Jmp.low (j3.back hF0 b3 hj))).cells
        clear hj
        go_simp
        try with_reducible rfl
      simp only [Act.put, List.setIfInBounds_toArray, List.set_cons_zero, List.set_cons_succ]
      refine wpJ_takeL (i := 9) (v := ?_) rfl (by kernel_rfl) (by kernel_rfl) (by kernel_rfl) (fun _ _ _ h => h) hF4 (Or.inl ⟨by rfl, ?_⟩) ?_
      rotate_left
      focus
        intro W' hj
        obtain ⟨y0, y1, y2, y3, y4⟩ := (HB4.out.call (Jmp.low (j3.back hF0 b3 hj))).cells
        obtain ⟨z0, z1, z2, z3, z4, z5⟩ := (HPD.out.call (Jmp.low (j3.back hF0 b3 hj))).cells
        clear hj
        go_simp
        try with_reducible rfl
      simp only [Act.put, List.setIfInBounds_toArray, List.set_cons_zero, List.set_cons_succ]
      refine wpJ_takeL (i := 11) (v := ?_) rfl (by kernel_rfl) (by kernel_rfl) (by kernel_rfl) (fun _ _ _ h => h) hF4 (Or.inl ⟨by rfl, ?_⟩) ?_
      rotate_left
      focus
        intro W' hj
        obtain ⟨y0, y1, y2, y3, y4⟩ := (HB4.out.call (Jmp.low (j3.back hF0 b3 hj))).cells
        obtain ⟨z0, z1, z2, z3, z4, z5⟩ := (HPD.out.call (Jmp.low (j3.back hF0 b3 hj))).cells
        clear hj
        go_simp
        try with_reducible rfl
      simp only [Act.put, List.setIfInBounds_toArray, List.set_cons_zero, List.set_cons_succ]
      refine wpJ_callL (i := 10) (by kernel_rfl) rfl fun v10 j10 K10 k10 => ?_
      go_wp2_with fail
      refine (wholds_val x (f.norm.plain true).ltl _ _ A3 n3 m3 A B c d i v10 (!hv) ((sat_P x f.norm true i.toNat hv HV.out).trans (by cases hv <;> rfl)) (by omega) H0.out hi (HPD.out.call (Jmp.low (j3.back hF0 b3 j10))).hd (HB4.out.call (Jmp.low (j3.back hF0 b3 j10))).hw).mono ?_
      rintro e10' w10' ⟨rfl, b10⟩
      go_wp2_with fail
      refine k10.out _ _ b10 ?_
      clear k10
      have hF11 := grow_F (j10.grow hF4) b10.size
      refine wpJ_takeL (i := 12) (v := ?_) rfl (by kernel_rfl) (by kernel_rfl) (by kernel_rfl) (fun _ _ _ h => h) hF11 (Or.inl ⟨by rfl, ?_⟩) ?_
      rotate_left
      focus
        intro W' hj
        obtain ⟨y0, y1, y2, y3, y4⟩ := (HB4.out.call (Jmp.low (j3.back hF0 b3 (j10.back hF4 b10 hj)))).cells
        obtain ⟨z0, z1, z2, z3, z4, z5⟩ := (HPD.out.call (Jmp.low (j3.back hF0 b3 (j10.back hF4 b10 hj)))).cells
        clear hj
        go_simp
        try with_reducible rfl
      simp only [Act.put, List.setIfInBounds_toArray, List.set_cons_zero, List.set_cons_succ]
      refine wpJ_takeL (i := 13) (v := ?_) rfl (by kernel_rfl) (by kernel_rfl) (by kernel_rfl) (fun _ _ _ h => h) hF11 (Or.inl ⟨by rfl, ?_⟩) ?_
      rotate_left
      focus
        intro W' hj
        obtain ⟨y0, y1, y2, y3, y4⟩ := (HB4.out.call (Jmp.low (j3.back hF0 b3 (j10.back hF4 b10 hj)))).cells
        obtain ⟨z0, z1, z2, z3, z4, z5⟩ := (HPD.out.call (Jmp.low (j3.back hF0 b3 (j10.back hF4 b10 hj)))).cells
        clear hj
        go_simp
        try with_reducible rfl
      simp only [Act.put, List.setIfInBounds_toArray, List.set_cons_zero, List.set_cons_succ]
      refine wpJ_takeL (i := 14) (v := ?_) rfl (by kernel_rfl) (by kernel_rfl) (by kernel_rfl) (fun _ _ _ h => h) hF11 (Or.inl ⟨by rfl, ?_⟩) ?_
      rotate_left
      focus
        intro W' hj
        obtain ⟨y0, y1, y2, y3, y4⟩ := (HB4.out.call (Jmp.low (j3.back hF0 b3 (j10.back hF4 b10 hj)))).cells
        obtain ⟨z0, z1, z2, z3, z4, z5⟩ := (HPD.out.call (Jmp.low (j3.back hF0 b3 (j10.back hF4 b10 hj)))).cells
        clear hj
        go_simp
        try with_reducible rfl
      simp only [Act.put, List.setIfInBounds_toArray, List.set_cons_zero, List.set_cons_succ]
      refine wpJ_takeL (i := 15) (v := ?_) rfl (by kernel_rfl) (by kernel_rfl) (by kernel_rfl) (fun _ _ _ h => h) hF11 (Or.inl ⟨by rfl, ?_⟩) ?_
      rotate_left
      focus
        intro W' hj
        obtain ⟨y0, y1, y2, y3, y4⟩ := (HB4.out.call (Jmp.low (j3.back hF0 b3 (j10.back hF4 b10 hj)))).cells
        obtain ⟨z0, z1, z2, z3, z4, z5⟩ := (HPD.out.call (Jmp.low (j3.back hF0 b3 (j10.back hF4 b10 hj)))).cells
        clear hj
        go_simp
        try with_reducible rfl
      simp only [Act.put, List.setIfInBounds_toArray, List.set_cons_zero, List.set_cons_succ]
      refine wpJ_takeL (i := 17) (v := ?_) rfl (by kernel_rfl) (by kernel_rfl) (by kernel_rfl) (fun _ _ _ h => h) hF11 (Or.inl ⟨by rfl, ?_⟩) ?_
      rotate_left
      focus
        intro W' hj
        obtain ⟨y0, y1, y2, y3, y4⟩ := (HB4.out.call (Jmp.low (j3.back hF0 b3 (j10.back hF4 b10 hj)))).cells
        obtain ⟨z0, z1, z2, z3, z4, z5⟩ := (HPD.out.call (Jmp.low (j3.back hF0 b3 (j10.back hF4 b10 hj)))).cells
        clear hj
        go_simp
        try with_reducible rfl
      simp only [Act.put, List.setIfInBounds_toArray, List.set_cons_zero, List.set_cons_succ]
      refine wpJ_takeL (i := 18) (v := ?_) rfl (by kernel_rfl) (by kernel_rfl) (by kernel_rfl) (fun _ _ _ h => h) hF11 (Or.inl ⟨by rfl, ?_⟩) ?_
      rotate_left
      focus
        intro W' hj
        obtain ⟨y0, y1, y2, y3, y4⟩ := (HB4.out.call (Jmp.low (j3.back hF0 b3 (j10.back hF4 b10 hj)))).cells
        obtain ⟨z0, z1, z2, z3, z4, z5⟩ := (HPD.out.call (Jmp.low (j3.back hF0 b3 (j10.back hF4 b10 hj)))).cells
        clear hj
        go_simp
        try with_reducible rfl
      simp only [Act.put, List.setIfInBounds_toArray, List.set_cons_zero, List.set_cons_succ]
      refine wpJ_takeL (i := 20) (v := ?_) rfl (by kernel_rfl) (by kernel_rfl) (by kernel_rfl) (fun _ _ _ h => h) hF11 (Or.inl ⟨by rfl, ?_⟩) ?_
      rotate_left
      focus
        intro W' hj
        obtain ⟨y0, y1, y2, y3, y4⟩ := (HB4.out.call (Jmp.low (j3.back hF0 b3 (j10.back hF4 b10 hj)))).cells
        obtain ⟨z0, z1, z2, z3, z4, z5⟩ := (HPD.out.call (Jmp.low (j3.back hF0 b3 (j10.back hF4 b10 hj)))).cells
        clear hj
        go_simp
        try with_reducible rfl
      simp only [Act.put, List.setIfInBounds_toArray, List.set_cons_zero, List.set_cons_succ]
      refine wpJ_callL (i := 16) (by kernel_rfl) rfl fun v16 j16 K16 k16 => ?_
      have H16L := Lib.hid (Jmp.low (j3.back hF0 b3 (j10.back hF4 b10 j16))).size
      go_wp2_with fail
      refine (wplain_at (f.norm.plain true).ltl _ _ A3 n3 m3 true v16 (Lt W4.heap.size) (f.norm.plain false).ltl (plain_P f.norm true true false rfl) (fun b h => Nat.lt_of_lt_of_le h (Jmp.low (j3.back hF0 b3 (j10.back hF4 b10 j16))).size) (HPD.out.hd.call (Bd.lt _) (Jmp.low (j3.back hF0 b3 (j10.back hF4 b10 j16))))).mono ?_
      rintro e16' w16' ⟨A16, n16, m16, rfl, hi16, b16⟩
      have HI16 := Lib.hid hi16
      clear hi16
      go_wp2_with fail
      refine k16.out _ _ b16 ?_
      clear k16
      have hF17 := grow_F (j16.grow hF11) b16.size
      refine wpJ_callL (i := 19) (by kernel_rfl) rfl fun v19 j19 K19 k19 => ?_
      go_wp2_with fail
      refine (wholds_val x (f.norm.plain false).ltl _ _ A16 n16 m16 A B c d i v19 hv ((sat_P x f.norm false i.toNat hv HV.out).trans (by cases hv <;> rfl)) (by omega) H0.out hi (is_jump2 HI16.out (fun b h => Nat.lt_of_lt_of_le h (Nat.le_trans H16L.out b16.size)) j19 (fun b hb => hb.elim .inr (fun h => (.inl (.inl (.inl h)))))) (HB4.out.call (Jmp.low (j3.back hF0 b3 (j10.back hF4 b10 (j16.back hF11 b16 j19))))).hw).mono ?_
      rintro e19' w19' ⟨rfl, b19⟩
      go_wp2_with fail
      refine k19.out _ _ b19 ?_
      clear k19
      have hF20 := grow_F (j19.grow hF17) b19.size
      refine wpJ_takeL (i := 21) (v := ?_) rfl (by kernel_rfl) (by kernel_rfl) (by kernel_rfl) (fun _ _ _ h => h) hF20 (Or.inl ⟨by rfl, ?_⟩) ?_
      rotate_left
      focus
        intro W' hj
        obtain ⟨y0, y1, y2, y3, y4⟩ := (HB4.out.call (Jmp.low (j3.back hF0 b3 (j10.back hF4 b10 (j16.back hF11 b16 (j19.back hF17 b19 hj)))))).cells
        obtain ⟨z0, z1, z2, z3, z4, z5⟩ := (HPD.out.call (Jmp.low (j3.back hF0 b3 (j10.back hF4 b10 (j16.back hF11 b16 (j19.back hF17 b19 hj)))))).cells
        clear hj
        go_simp
        try with_reducible rfl
      simp only [Act.put, List.setIfInBounds_toArray, List.set_cons_zero, List.set_cons_succ]
      refine wpJ_takeL (i := 22) (v := ?_) rfl (by kernel_rfl) (by kernel_rfl) (by kernel_rfl) (fun _ _ _ h => h) hF20 (Or.inl ⟨by rfl, ?_⟩) ?_
      rotate_left
      focus
        intro W' hj
        obtain ⟨y0, y1, y2, y3, y4⟩ := (HB4.out.call (Jmp.low (j3.back hF0 b3 (j10.back hF4 b10 (j16.back hF11 b16 (j19.back hF17 b19 hj)))))).cells
        obtain ⟨z0, z1, z2, z3, z4, z5⟩ := (HPD.out.call (Jmp.low (j3.back hF0 b3 (j10.back hF4 b10 (j16.back hF11 b16 (j19.back hF17 b19 hj)))))).cells
        clear hj
        go_simp
        try with_reducible rfl
      simp only [Act.put, List.setIfInBounds_toArray, List.set_cons_zero, List.set_cons_succ]
      refine wpJ_takeL (i := 23) (v := ?_) rfl (by kernel_rfl) (by kernel_rfl) (by kernel_rfl) (fun _ _ _ h => h) hF20 (Or.inl ⟨by rfl, ?_⟩) ?_
      rotate_left
      focus
        intro W' hj
        obtain ⟨y0, y1, y2, y3, y4⟩ := (HB4.out.call (Jmp.low (j3.back hF0 b3 (j10.back hF4 b10 (j16.back hF11 b16 (j19.back hF17 b19 hj)))))).cells
        obtain ⟨z0, z1, z2, z3, z4, z5⟩ := (HPD.out.call (Jmp.low (j3.back hF0 b3 (j10.back hF4 b10 (j16.back hF11 b16 (j19.back hF17 b19 hj)))))).cells
        clear hj
        go_simp
        try with_reducible rfl
      simp only [Act.put, List.setIfInBounds_toArray, List.set_cons_zero, List.set_cons_succ]
      refine wpJ_takeL (i := 24) (v := ?_) rfl (by kernel_rfl) (by kernel_rfl) (by kernel_rfl) (fun _ _ _ h => h) hF20 (Or.inl ⟨by rfl, ?_⟩) ?_
      rotate_left
      focus
        intro W' hj
        obtain ⟨y0, y1, y2, y3, y4⟩ := (HB4.out.call (Jmp.low (j3.back hF0 b3 (j10.back hF4 b10 (j16.back hF11 b16 (j19.back hF17 b19 hj)))))).cells
        obtain ⟨z0, z1, z2, z3, z4, z5⟩ := (HPD.out.call (Jmp.low (j3.back hF0 b3 (j10.back hF4 b10 (j16.back hF11 b16 (j19.back hF17 b19 hj)))))).cells
        clear hj
        go_simp
        try with_reducible rfl
      simp only [Act.put, List.setIfInBounds_toArray, List.set_cons_zero, List.set_cons_succ]
      refine wpJ_takeL (i := 26) (v := ?_) rfl (by kernel_rfl) (by kernel_rfl) (by kernel_rfl) (fun _ _ _ h => h) hF20 (Or.inl ⟨by rfl, ?_⟩) ?_
      rotate_left
      focus
        intro W' hj
        obtain ⟨y0, y1, y2, y3, y4⟩ := (HB4.out.call (Jmp.low (j3.back hF0 b3 (j10.back hF4 b10 (j16.back hF11 b16 (j19.back hF17 b19 hj)))))).cells
        obtain ⟨z0, z1, z2, z3, z4, z5⟩ := (HPD.out.call (Jmp.low (j3.back hF0 b3 (j10.back hF4 b10 (j16.back hF11 b16 (j19.back hF17 b19 hj)))))).cells
        clear hj
        go_simp
        try with_reducible rfl
      simp only [Act.put, List.setIfInBounds_toArray, List.set_cons_zero, List.set_cons_succ]
      refine wpJ_callL (i := 25) (by kernel_rfl) rfl fun v25 j25 K25 k25 => ?_
      have H25L := Lib.hid (Jmp.low (j3.back hF0 b3 (j10.back hF4 b10 (j16.back hF11 b16 (j19.back hF17 b19 j25))))).size
      go_wp2_with fail
      refine (wplain_at (f.norm.plain false).ltl _ _ A1 n1 m1 false v25 (Lt W4.heap.size) (f.norm.plain false).ltl (plain_P f.norm false false false rfl) (fun b h => Nat.lt_of_lt_of_le h (Jmp.low (j3.back hF0 b3 (j10.back hF4 b10 (j16.back hF11 b16 (j19.back hF17 b19 j25))))).size) (HPD.out.hp.call (Bd.lt _) (Jmp.low (j3.back hF0 b3 (j10.back hF4 b10 (j16.back hF11 b16 (j19.back hF17 b19 j25))))))).mono ?_
      rintro e25' w25' ⟨A25, n25, m25, rfl, hi25, b25⟩
      have HI25 := Lib.hid hi25
      clear hi25
      go_wp2_with fail
      refine k25.out _ _ b25 ?_
      clear k25
      have hF26 := grow_F (j25.grow hF20) b25.size
      refine wpJ_callL (i := 27) (by kernel_rfl) rfl fun v27 j27 K27 k27 => ?_
      go_wp2_with fail
      refine (same_val (f.norm.plain false).ltl (f.norm.plain false).ltl _ _ A25 n25 m25 _ _ A1 n1 m1 v27 true (same_P _ _) (is_jump2 HI25.out (fun b h => Nat.lt_of_lt_of_le h (Nat.le_trans H25L.out b25.size)) j27 (fun b hb => hb.elim .inr (fun h => (.inl (.inl (.inl (.inl (.inl h)))))))) (HPD.out.call (Jmp.low (j3.back hF0 b3 (j10.back hF4 b10 (j16.back hF11 b16 (j19.back hF17 b19 (j25.back hF20 b25 j27))))))).hp).mono ?_
      rintro e27' w27' ⟨rfl, b27⟩
      go_wp2_with fail
      refine k27.out _ _ b27 ?_
      clear k27
      have hF28 := grow_F (j27.grow hF26) b27.size
      refine wpJ_takeL (i := 28) (v := ?_) rfl (by kernel_rfl) (by kernel_rfl) (by kernel_rfl) (fun _ _ _ h => h) hF28 (Or.inl ⟨by rfl, ?_⟩) ?_
      rotate_left
      focus
        intro W' hj
        obtain ⟨y0, y1, y2, y3, y4⟩ := (HB4.out.call (Jmp.low (j3.back hF0 b3 (j10.back hF4 b10 (j16.back hF11 b16 (j19.back hF17 b19 (j25.back hF20 b25 (j27.back hF26 b27 hj)))))))).cells
        obtain ⟨z0, z1, z2, z3, z4, z5⟩ := (HPD.out.call (Jmp.low (j3.back hF0 b3 (j10.back hF4 b10 (j16.back hF11 b16 (j19.back hF17 b19 (j25.back hF20 b25 (j27.back hF26 b27 hj)))))))).cells
        clear hj
        go_simp
        try with_reducible rfl
      simp only [Act.put, List.setIfInBounds_toArray, List.set_cons_zero, List.set_cons_succ]
      refine wpJ_takeL (i := 29) (v := ?_) rfl (by kernel_rfl) (by kernel_rfl) (by kernel_rfl) (fun _ _ _ h => h) hF28 (Or.inl ⟨by rfl, ?_⟩) ?_
      rotate_left
      focus
        intro W' hj
        obtain ⟨y0, y1, y2, y3, y4⟩ := (HB4.out.call (Jmp.low (j3.back hF0 b3 (j10.back hF4 b10 (j16.back hF11 b16 (j19.back hF17 b19 (j25.back hF20 b25 (j27.back hF26 b27 hj)))))))).cells
        obtain ⟨z0, z1, z2, z3, z4, z5⟩ := (HPD.out.call (Jmp.low (j3.back hF0 b3 (j10.back hF4 b10 (j16.back hF11 b16 (j19.back hF17 b19 (j25.back hF20 b25 (j27.back hF26 b27 hj)))))))).cells
        clear hj
        go_simp
        try with_reducible rfl
      simp only [Act.put, List.setIfInBounds_toArray, List.set_cons_zero, List.set_cons_succ]
      refine wpJ_takeL (i := 30) (v := ?_) rfl (by kernel_rfl) (by kernel_rfl) (by kernel_rfl) (fun _ _ _ h => h) hF28 (Or.inl ⟨by rfl, ?_⟩) ?_
      rotate_left
      focus
        intro W' hj
        obtain ⟨y0, y1, y2, y3, y4⟩ := (HB4.out.call (Jmp.low (j3.back hF0 b3 (j10.back hF4 b10 (j16.back hF11 b16 (j19.back hF17 b19 (j25.back hF20 b25 (j27.back hF26 b27 hj)))))))).cells
        obtain ⟨z0, z1, z2, z3, z4, z5⟩ := (HPD.out.call (Jmp.low (j3.back hF0 b3 (j10.back hF4 b10 (j16.back hF11 b16 (j19.back hF17 b19 (j25.back hF20 b25 (j27.back hF26 b27 hj)))))))).cells
        clear hj
        go_simp
        try with_reducible rfl
      simp only [Act.put, List.setIfInBounds_toArray, List.set_cons_zero, List.set_cons_succ]
      refine wpJ_takeL (i := 33) (v := ?_) rfl (by kernel_rfl) (by kernel_rfl) (by kernel_rfl) (fun _ _ _ h => h) hF28 (Or.inl ⟨by rfl, ?_⟩) ?_
      rotate_left
      focus
        intro W' hj
        obtain ⟨y0, y1, y2, y3, y4⟩ := (HB4.out.call (Jmp.low (j3.back hF0 b3 (j10.back hF4 b10 (j16.back hF11 b16 (j19.back hF17 b19 (j25.back hF20 b25 (j27.back hF26 b27 hj)))))))).cells
        obtain ⟨z0, z1, z2, z3, z4, z5⟩ := (HPD.out.call (Jmp.low (j3.back hF0 b3 (j10.back hF4 b10 (j16.back hF11 b16 (j19.back hF17 b19 (j25.back hF20 b25 (j27.back hF26 b27 hj)))))))).cells
        clear hj
        go_simp
        try with_reducible rfl
      simp only [Act.put, List.setIfInBounds_toArray, List.set_cons_zero, List.set_cons_succ]
      refine wpJ_callL (i := 31) (by kernel_rfl) rfl fun v31 j31 K31 k31 => ?_
      have H31L := Lib.hid (Jmp.low (j3.back hF0 b3 (j10.back hF4 b10 (j16.back hF11 b16 (j19.back hF17 b19 (j25.back hF20 b25 (j27.back hF26 b27 j31))))))).size
      go_wp2_with fail
      refine (wplain_at f k p K n e true v31 (Lt W4.heap.size) (f.norm.plain true).ltl rfl (fun b h => Nat.lt_of_lt_of_le h (Jmp.low (j3.back hF0 b3 (j10.back hF4 b10 (j16.back hF11 b16 (j19.back hF17 b19 (j25.back hF20 b25 (j27.back hF26 b27 j31))))))).size) (HB4.out.hf.call (Bd.lt _) (Jmp.low (j3.back hF0 b3 (j10.back hF4 b10 (j16.back hF11 b16 (j19.back hF17 b19 (j25.back hF20 b25 (j27.back hF26 b27 j31))))))))).mono ?_
      rintro e31' w31' ⟨A31, n31, m31, rfl, hi31, b31⟩
      have HI31 := Lib.hid hi31
      clear hi31
      go_wp2_with fail
      refine k31.out _ _ b31 ?_
      clear k31
      have hF32 := grow_F (j31.grow hF28) b31.size
      refine wpJ_callL (i := 32) (by kernel_rfl) rfl fun v32 j32 K32 k32 => ?_
      go_wp2_with fail
      refine (wplain_at (f.norm.plain true).ltl _ _ A31 n31 m31 true v32 (Ext (Lt W4.heap.size) v31 w31') (f.norm.plain false).ltl (plain_P f.norm true true false rfl) (fun b hb => hb.elim (fun h => Nat.lt_of_lt_of_le h (Jmp.low (j3.back hF0 b3 (j10.back hF4 b10 (j16.back hF11 b16 (j19.back hF17 b19 (j25.back hF20 b25 (j27.back hF26 b27 (j31.back hF28 b31 j32)))))))).size) fun h => Nat.lt_of_lt_of_le h.2 j32.size) (D.Is.keep (fun b hb => ⟨hb, j32.keep b (hb.elim (fun h => (.inl (.inl (.inl (.inl (.inl (.inl (.inl h)))))))) .inr)⟩) _ _ HI31.out)).mono ?_
      rintro e32' w32' ⟨A32, n32, m32, rfl, hi32, b32⟩
      have H32L := Lib.hid (Jmp.low (j3.back hF0 b3 (j10.back hF4 b10 (j16.back hF11 b16 (j19.back hF17 b19 (j25.back hF20 b25 (j27.back hF26 b27 (j31.back hF28 b31 j32)))))))).size
      have H32M := Lib.hid j32.size
      have HI32 := Lib.hid hi32
      clear hi32
      go_wp2_with fail
      refine k32.out _ _ b32 ?_
      clear k32
      have hF33 := grow_F (j32.grow hF32) b32.size
      refine wpJ_callL (i := 34) (by kernel_rfl) rfl fun v34 j34 K34 k34 => ?_
      go_wp2_with fail
      refine (same_val (f.norm.plain false).ltl (f.norm.plain false).ltl _ _ A32 n32 m32 _ _ A1 n1 m1 v34 true (same_P _ _) (is_jump2 HI32.out (fun b hb => Nat.lt_of_lt_of_le (hb.elim (fun h => Nat.lt_of_lt_of_le h H32L.out) fun h => Nat.lt_of_lt_of_le h.2 H32M.out) b32.size) j34 (fun b hb => hb.elim .inr fun hb => .inl (hb.elim (fun h => (.inl (.inl (.inl (.inl (.inl (.inl (.inl h)))))))) .inr))) (HPD.out.call (Jmp.low (j3.back hF0 b3 (j10.back hF4 b10 (j16.back hF11 b16 (j19.back hF17 b19 (j25.back hF20 b25 (j27.back hF26 b27 (j31.back hF28 b31 (j32.back hF32 b32 j34)))))))))).hp).mono ?_
      rintro e34' w34' ⟨rfl, b34⟩
      go_wp2_with fail
      refine k34.out _ _ b34 ?_
      clear k34
      have hF35 := grow_F (j34.grow hF33) b34.size
      refine wpJ_takeL (i := 35) (v := ?_) rfl (by kernel_rfl) (by kernel_rfl) (by kernel_rfl) (fun _ _ _ h => h) hF35 (Or.inl ⟨by rfl, ?_⟩) ?_
      rotate_left
      focus
        intro W' hj
        obtain ⟨y0, y1, y2, y3, y4⟩ := (HB4.out.call (Jmp.low (j3.back hF0 b3 (j10.back hF4 b10 (j16.back hF11 b16 (j19.back hF17 b19 (j25.back hF20 b25 (j27.back hF26 b27 (j31.back hF28 b31 (j32.back hF32 b32 (j34.back hF33 b34 hj))))))))))).cells
        obtain ⟨z0, z1, z2, z3, z4, z5⟩ := (HPD.out.call (Jmp.low (j3.back hF0 b3 (j10.back hF4 b10 (j16.back hF11 b16 (j19.back hF17 b19 (j25.back hF20 b25 (j27.back hF26 b27 (j31.back hF28 b31 (j32.back hF32 b32 (j34.back hF33 b34 hj))))))))))).cells
        clear hj
        go_simp
        try with_reducible rfl
      simp only [Act.put, List.setIfInBounds_toArray, List.set_cons_zero, List.set_cons_succ]
      refine wpJ_takeL (i := 36) (v := ?_) rfl (by kernel_rfl) (by kernel_rfl) (by kernel_rfl) (fun _ _ _ h => h) hF35 (Or.inl ⟨by rfl, ?_⟩) ?_
      rotate_left
      focus
        intro W' hj
        obtain ⟨y0, y1, y2, y3, y4⟩ := (HB4.out.call (Jmp.low (j3.back hF0 b3 (j10.back hF4 b10 (j16.back hF11 b16 (j19.back hF17 b19 (j25.back hF20 b25 (j27.back hF26 b27 (j31.back hF28 b31 (j32.back hF32 b32 (j34.back hF33 b34 hj))))))))))).cells
        obtain ⟨z0, z1, z2, z3, z4, z5⟩ := (HPD.out.call (Jmp.low (j3.back hF0 b3 (j10.back hF4 b10 (j16.back hF11 b16 (j19.back hF17 b19 (j25.back hF20 b25 (j27.back hF26 b27 (j31.back hF28 b31 (j32.back hF32 b32 (j34.back hF33 b34 hj))))))))))).cells
        clear hj
        go_simp
        try with_reducible rfl
      simp only [Act.put, List.setIfInBounds_toArray, List.set_cons_zero, List.set_cons_succ]
      refine wpJ_takeL (i := 37) (v := ?_) rfl (by kernel_rfl) (by kernel_rfl) (by kernel_rfl) (fun _ _ _ h => h) hF35 (Or.inl ⟨by rfl, ?_⟩) ?_
      rotate_left
      focus
        intro W' hj
        obtain ⟨y0, y1, y2, y3, y4⟩ := (HB4.out.call (Jmp.low (j3.back hF0 b3 (j10.back hF4 b10 (j16.back hF11 b16 (j19.back hF17 b19 (j25.back hF20 b25 (j27.back hF26 b27 (j31.back hF28 b31 (j32.back hF32 b32 (j34.back hF33 b34 hj))))))))))).cells
        obtain ⟨z0, z1, z2, z3, z4, z5⟩ := (HPD.out.call (Jmp.low (j3.back hF0 b3 (j10.back hF4 b10 (j16.back hF11 b16 (j19.back hF17 b19 (j25.back hF20 b25 (j27.back hF26 b27 (j31.back hF28 b31 (j32.back hF32 b32 (j34.back hF33 b34 hj))))))))))).cells
        clear hj
        go_simp
        try with_reducible rfl
      simp only [Act.put, List.setIfInBounds_toArray, List.set_cons_zero, List.set_cons_succ]
      refine wpJ_callL (i := 38) (by kernel_rfl) rfl fun v38 j38 K38 k38 => ?_
      go_wp2_with fail
      refine (lplain_up (f.norm.plain false) (T.flat_plain _ _) (f.norm.plain false).ltl _ _ A1 n1 m1 (Lt v38.heap.size) v38 rfl (Bd.lt _) (HPD.out.call (Jmp.low (j3.back hF0 b3 (j10.back hF4 b10 (j16.back hF11 b16 (j19.back hF17 b19 (j25.back hF20 b25 (j27.back hF26 b27 (j31.back hF28 b31 (j32.back hF32 b32 (j34.back hF33 b34 j38))))))))))).hp).mono ?_
      rintro e38' w38' ⟨rfl, b38⟩
      go_wp2_with fail
      refine k38.out _ _ b38 ?_
      clear k38
      have hF39 := grow_F (j38.grow hF35) b38.size
      refine wpJ_takeL (i := 39) (v := ?_) rfl (by kernel_rfl) (by kernel_rfl) (by kernel_rfl) (fun _ _ _ h => h) hF39 (Or.inl ⟨by rfl, ?_⟩) ?_
      rotate_left
      focus
        intro W' hj
        obtain ⟨y0, y1, y2, y3, y4⟩ := (HB4.out.call (Jmp.low (j3.back hF0 b3 (j10.back hF4 b10 (j16.back hF11 b16 (j19.back hF17 b19 (j25.back hF20 b25 (j27.back hF26 b27 (j31.back hF28 b31 (j32.back hF32 b32 (j34.back hF33 b34 (j38.back hF35 b38 hj)))))))))))).cells
        obtain ⟨z0, z1, z2, z3, z4, z5⟩ := (HPD.out.call (Jmp.low (j3.back hF0 b3 (j10.back hF4 b10 (j16.back hF11 b16 (j19.back hF17 b19 (j25.back hF20 b25 (j27.back hF26 b27 (j31.back hF28 b31 (j32.back hF32 b32 (j34.back hF33 b34 (j38.back hF35 b38 hj)))))))))))).cells
        clear hj
        go_simp
        try with_reducible rfl
      simp only [Act.put, List.setIfInBounds_toArray, List.set_cons_zero, List.set_cons_succ]
      refine wpJ_takeL (i := 40) (v := ?_) rfl (by kernel_rfl) (by kernel_rfl) (by kernel_rfl) (fun _ _ _ h => h) hF39 (Or.inl ⟨by rfl, ?_⟩) ?_
      rotate_left
      focus
        intro W' hj
        obtain ⟨y0, y1, y2, y3, y4⟩ := (HB4.out.call (Jmp.low (j3.back hF0 b3 (j10.back hF4 b10 (j16.back hF11 b16 (j19.back hF17 b19 (j25.back hF20 b25 (j27.back hF26 b27 (j31.back hF28 b31 (j32.back hF32 b32 (j34.back hF33 b34 (j38.back hF35 b38 hj)))))))))))).cells
        obtain ⟨z0, z1, z2, z3, z4, z5⟩ := (HPD.out.call (Jmp.low (j3.back hF0 b3 (j10.back hF4 b10 (j16.back hF11 b16 (j19.back hF17 b19 (j25.back hF20 b25 (j27.back hF26 b27 (j31.back hF28 b31 (j32.back hF32 b32 (j34.back hF33 b34 (j38.back hF35 b38 hj)))))))))))).cells
        clear hj
        go_simp
        try with_reducible rfl
      simp only [Act.put, List.setIfInBounds_toArray, List.set_cons_zero, List.set_cons_succ]
      refine wpJ_takeL (i := 41) (v := ?_) rfl (by kernel_rfl) (by kernel_rfl) (by kernel_rfl) (fun _ _ _ h => h) hF39 (Or.inl ⟨by rfl, ?_⟩) ?_
      rotate_left
      focus
        intro W' hj
        obtain ⟨y0, y1, y2, y3, y4⟩ := (HB4.out.call (Jmp.low (j3.back hF0 b3 (j10.back hF4 b10 (j16.back hF11 b16 (j19.back hF17 b19 (j25.back hF20 b25 (j27.back hF26 b27 (j31.back hF28 b31 (j32.back hF32 b32 (j34.back hF33 b34 (j38.back hF35 b38 hj)))))))))))).cells
        obtain ⟨z0, z1, z2, z3, z4, z5⟩ := (HPD.out.call (Jmp.low (j3.back hF0 b3 (j10.back hF4 b10 (j16.back hF11 b16 (j19.back hF17 b19 (j25.back hF20 b25 (j27.back hF26 b27 (j31.back hF28 b31 (j32.back hF32 b32 (j34.back hF33 b34 (j38.back hF35 b38 hj)))))))))))).cells
        clear hj
        go_simp
        try with_reducible rfl
      simp only [Act.put, List.setIfInBounds_toArray, List.set_cons_zero, List.set_cons_succ]
      refine wpJ_callL (i := 42) (by kernel_rfl) rfl fun v42 j42 K42 k42 => ?_
      go_wp2_with fail
      refine (lplain_up (f.norm.plain true) (T.flat_plain _ _) (f.norm.plain true).ltl _ _ A3 n3 m3 (Lt v42.heap.size) v42 rfl (Bd.lt _) (HPD.out.call (Jmp.low (j3.back hF0 b3 (j10.back hF4 b10 (j16.back hF11 b16 (j19.back hF17 b19 (j25.back hF20 b25 (j27.back hF26 b27 (j31.back hF28 b31 (j32.back hF32 b32 (j34.back hF33 b34 (j38.back hF35 b38 j42)))))))))))).hd).mono ?_
      rintro e42' w42' ⟨rfl, b42⟩
      go_wp2_with fail
      refine k42.out _ _ b42 ?_
      clear k42
      have hF43 := grow_F (j42.grow hF39) b42.size
      refine wpJ_takeL (i := 43) (v := ?_) rfl (by kernel_rfl) (by kernel_rfl) (by kernel_rfl) (fun _ _ _ h => h) hF43 (Or.inl ⟨by rfl, ?_⟩) ?_
      rotate_left
      focus
        intro W' hj
        obtain ⟨y0, y1, y2, y3, y4⟩ := (HB4.out.call (Jmp.low (j3.back hF0 b3 (j10.back hF4 b10 (j16.back hF11 b16 (j19.back hF17 b19 (j25.back hF20 b25 (j27.back hF26 b27 (j31.back hF28 b31 (j32.back hF32 b32 (j34.back hF33 b34 (j38.back hF35 b38 (j42.back hF39 b42 hj))))))))))))).cells
        obtain ⟨z0, z1, z2, z3, z4, z5⟩ := (HPD.out.call (Jmp.low (j3.back hF0 b3 (j10.back hF4 b10 (j16.back hF11 b16 (j19.back hF17 b19 (j25.back hF20 b25 (j27.back hF26 b27 (j31.back hF28 b31 (j32.back hF32 b32 (j34.back hF33 b34 (j38.back hF35 b38 (j42.back hF39 b42 hj))))))))))))).cells
        clear hj
        go_simp
        try with_reducible rfl
      simp only [Act.put, List.setIfInBounds_toArray, List.set_cons_zero, List.set_cons_succ]
      refine wpJ_end (by kernel_rfl) (fun wz jz => ?_) _
      have hz := (HB4.out.call (Jmp.low (j3.back hF0 b3 (j10.back hF4 b10 (j16.back hF11 b16 (j19.back hF17 b19 (j25.back hF20 b25 (j27.back hF26 b27 (j31.back hF28 b31 (j32.back hF32 b32 (j34.back hF33 b34 (j38.back hF35 b38 (j42.back hF39 b42 jz))))))))))))).below
      refine ⟨by kernel_rfl, ?_⟩
      go_wp2
      go_ret
      exact ⟨rfl, hz⟩

end Go.Proofs.Ytedbjkjncfinnaa
