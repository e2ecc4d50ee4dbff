/-
  Layer 15, the reference: Holds.
-/
import Derived.Test.YtedbjkjncfinnaaRefL
import Derived.Test.YtedbjkjncfinnaaRefA
import Derived.Test.YtedbjkjncfinnaaSat
import Derived.Test.YtedbjkjncfinnaaJump
import Derived.Deep.DeepCutAuto
namespace Go.Proofs.Ytedbjkjncfinnaa
open Go.RowKit

theorem un_succ (f g : Nat → Bool) (m j : Nat) : un f g (m + 1) j = (g j || (f j && un f g m (j + 1))) := rfl
theorem fr_succ (f g : Nat → Bool) (m j : Nat) : fr f g (m + 1) j = (g j && (f j || fr f g m (j + 1))) := rfl
/-- What the reference's Holds says of a property, and hands on for smaller ones. -/
def RHoldsIs (x : Wd) (A B : Option Addr) (c d : Nat) (t : T) : Prop :=
  ∀ (f : Ltl) (k p : Int) (K : Option Addr) (n e : Nat) (S : Nat → Prop) (w : World) (i : Nat), Bd S w → f.norm = t → Ltl.Is w S f [.int .i64 k, .int .i64 p, .slice K n e] → WdIs w S x (.slice A x.stem.length c) (.slice B x.cycle.length d) → i ≤ 9223372036854775807 →
    Calls Try.prog 12 #[.agg #[.int .i64 k, .int .i64 p, .slice K n e], .agg #[.slice A x.stem.length c, .slice B x.cycle.length d], .int .i64 (i : Int)] w fun e' w' => e' = .returned (.bool (t.sat x i)) ∧ Below w.heap.size w w'

/-- The boxes of the property and of the word. -/
structure RH (x : Wd) (A B : Option Addr) (c d : Nat) (k p : Int) (K : Option Addr) (n e : Nat) (w W : World) : Prop where
  below : Below w.heap.size w W
  b1 : Blk W w.heap.size 24 #[.int .i64 k, .int .i64 p, .slice K n e]
  b2 : Blk W (w.heap.size + 1) 32 #[.slice A x.stem.length c, .slice B x.cycle.length d]
section
variable {x : Wd} {A B : Option Addr} {c d : Nat} {k p : Int} {K : Option Addr} {n e : Nat} {w W W' : World}
theorem RH.call (h : RH x A B c d k p K n e w W) (hb : Below W.heap.size W W') : RH x A B c d k p K n e w W' := ⟨below_call h.below hb, h.b1.call hb, h.b2.call hb⟩
theorem RH.drewN {m : Nat} (h : RH x A B c d k p K n e w W) : RH x A B c d k p K n e w (W.drewN m) := ⟨below_drewN h.below, h.b1, h.b2⟩
theorem RH.cells (h : RH x A B c d k p K n e w W) : W.cell? ⟨w.heap.size, 0, none⟩ = some (.int .i64 k) ∧ W.cell? ⟨w.heap.size, 1, none⟩ = some (.int .i64 p) ∧ W.cell? ⟨w.heap.size, 2, none⟩ = some (.slice K n e) ∧
    W.cell? ⟨w.heap.size + 1, 0, none⟩ = some (.slice A x.stem.length c) ∧ W.cell? ⟨w.heap.size + 1, 1, none⟩ = some (.slice B x.cycle.length d) := by
  rw [h.b1.cell, h.b1.cell, h.b1.cell, h.b2.cell, h.b2.cell]
  exact ⟨rfl, rfl, rfl, rfl, rfl⟩
end
theorem is_mk' {w : World} {S : Nat → Prop} {f : Ltl} {k p : Int} {v : Value} (h : Ltl.Is w S f [.int .i64 k, .int .i64 p, v]) : ∃ r, f = .mk k p r := by
  obtain ⟨k', p', r⟩ := f
  obtain ⟨A', n', c', hcs, _⟩ := h.form
  simp only [List.cons.injEq, Value.int.injEq, and_true, true_and] at hcs
  obtain ⟨rfl, rfl, _⟩ := hcs
  exact ⟨r, rfl⟩
theorem box_pair (w : World) (t1 t2 : TypeId) (c1 c2 : Array Value) : Blk ((w.alloc (.cells c1 t1)).alloc (.cells c2 t2)) w.heap.size t1 c1 ∧ Blk ((w.alloc (.cells c1 t1)).alloc (.cells c2 t2)) (w.heap.size + 1) t2 c2 ∧ Below w.heap.size w ((w.alloc (.cells c1 t1)).alloc (.cells c2 t2)) ∧ ((w.alloc (.cells c1 t1)).alloc (.cells c2 t2)).heap.size = w.heap.size + 2 := by
  refine ⟨(Blk.new w t1 c1).alloc _, ?_, below_alloc (below_one _ _), by simp⟩
  have := Blk.new (w.alloc (.cells c1 t1)) t2 c2
  rwa [World.size_alloc] at this
theorem cells3 {W : World} {g : Nat} {t : TypeId} {a b c : Value} (h : Blk W g t #[a, b, c]) : W.cell? ⟨g, 0, none⟩ = some a ∧ W.cell? ⟨g, 1, none⟩ = some b ∧ W.cell? ⟨g, 2, none⟩ = some c := by
  rw [h.cell, h.cell, h.cell]
  exact ⟨rfl, rfl, rfl⟩
theorem blk_set3 {w : World} {g : Nat} {t : TypeId} {x y z : Value} (h : Blk w g t #[x, y, z]) (a b c : Value) : Blk (((w.setCell ⟨g, 0, none⟩ a).setCell ⟨g, 1, none⟩ b).setCell ⟨g, 2, none⟩ c) g t #[a, b, c] := by
  simpa using ((h.set_ 0 a).set_ 1 b).set_ 2 c
theorem blk_far3 {w : World} {g g' : Nat} {t : TypeId} {cs : Array Value} (h : Blk w g t cs) (hp : g ≠ g') (a b c : Value) : Blk (((w.setCell ⟨g', 0, none⟩ a).setCell ⟨g', 1, none⟩ b).setCell ⟨g', 2, none⟩ c) g t cs :=
  ((h.far (p := ⟨g', 0, none⟩) hp a).far (p := ⟨g', 1, none⟩) hp b).far (p := ⟨g', 2, none⟩) hp c
theorem below_set3 {W w : World} {g : Nat} (h : Below W.heap.size W w) (hp : W.heap.size ≤ g) (a b c : Value) : Below W.heap.size W (((w.setCell ⟨g, 0, none⟩ a).setCell ⟨g, 1, none⟩ b).setCell ⟨g, 2, none⟩ c) :=
  below_set (below_set (below_set h hp) hp) hp
/-- The kids' boxes. -/
structure Kids (f : Ltl) (gp gq : Nat) (D0 : Option Addr) (m0 d0 : Nat) (D1 : Option Addr) (m1 d1 : Nat) (W : World) : Prop where
  b1 : Blk W gp 24 #[.int .i64 (f.kid 0).kind, .int .i64 (f.kid 0).prop, .slice D0 m0 d0]
  b2 : Blk W gq 24 #[.int .i64 (f.kid 1).kind, .int .i64 (f.kid 1).prop, .slice D1 m1 d1]
theorem Kids.call {f : Ltl} {gp gq : Nat} {D0 : Option Addr} {m0 d0 : Nat} {D1 : Option Addr} {m1 d1 : Nat} {W W' : World} (h : Kids f gp gq D0 m0 d0 D1 m1 d1 W) (hb : Below W.heap.size W W') : Kids f gp gq D0 m0 d0 D1 m1 d1 W' := ⟨h.b1.call hb, h.b2.call hb⟩

set_option maxRecDepth 100000 in
set_option maxHeartbeats 8000000 in
theorem rholds_up (x : Wd) (A B : Option Addr) (c d : Nat) (hx : x.size ≤ 1000000000) (h0 : 0 < x.cycle.length) : ∀ (m : Nat) (t : T), t.size ≤ m → RHoldsIs x A B c d t := by
  intro m
  induction m with
  | zero => intro t ht; have := t.size_pos; omega
  | succ m ih =>
    intro t ht f k p K n e S w i hS hn hf hw hi
    have IH := Lib.hid ih
    have HT := Lib.hid ht
    have HF := Lib.hid hf
    have HW := Lib.hid hw
    have HS := Lib.hid hS
    have HN := Lib.hid hn
    obtain ⟨k1, k2, kb, ks⟩ := box_pair w 24 32 #[.int .i64 k, .int .i64 p, .slice K n e] #[.slice A x.stem.length c, .slice B x.cycle.length d]
    have H0 := Lib.hid (show RH x A B c d k p K n e w _ from ⟨kb, k1, k2⟩)
    have hsz : x.stem.length + x.cycle.length = x.size := rfl
    have hpl := x.place_lt i h0
    have HPL := Lib.hid hpl
    have hxs : x.stem.length + x.cycle.length ≤ 1000000000 := hx
    have hm0 : (0 : Int) < (x.cycle.length : Int) := by omega
    clear ih ht hf hw hS hn k1 k2 kb ks hsz hpl
    go_enter Try.func12, Try.ntmps12
    go_upto_if 22 with (fail)
    generalize ((w.alloc (.cells #[.int .i64 k, .int .i64 p, .slice K n e] 24)).alloc (.cells #[.slice A x.stem.length c, .slice B x.cycle.length d] 32)) = W0 at *
    have c0 := H0.out.cells
    obtain ⟨c0, c1, c2, c3, c4⟩ := c0
    go_cut [2] from 23 to 35 (fun a W => a = .int .i64 ((x.place i : Nat) : Int) ∧ RH x A B c d k p K n e w W)
    case first =>
      by_cases hge : x.stem.length + x.cycle.length ≤ i
      · have hp : x.place i = x.stem.length + (i - x.stem.length) % x.cycle.length := by unfold Wd.place; rw [if_pos (by omega)]
        have hq : (0 : Int) ≤ (i : Int) - (x.stem.length : Int) := by omega
        have hm1 := Int.emod_lt_of_pos ((i : Int) - (x.stem.length : Int)) hm0
        have hm2 := Int.emod_nonneg ((i : Int) - (x.stem.length : Int)) (by omega : (x.cycle.length : Int) ≠ 0)
        have e1 : IntKind.i64.wrap ((i : Int) - (x.stem.length : Int)) = (i : Int) - (x.stem.length : Int) := IntWalk.i64_in _ (by omega)
        have e2 : IntKind.i64.wrap ((x.stem.length : Int) + ((i : Int) - (x.stem.length : Int)) % (x.cycle.length : Int)) = (x.stem.length : Int) + ((i : Int) - (x.stem.length : Int)) % (x.cycle.length : Int) := IntWalk.i64_in _ (by omega)
        have HP := Lib.hid hp
        clear hp
        go_wp2_with fail
        go_quiet (fail)
        go_wp2_with fail
        go_meet
        case rel => exact ⟨congrArg (Value.int .i64) (by rw [HP.out, show ((i : Int) - (x.stem.length : Int)) = ((i - x.stem.length : Nat) : Int) by omega]; rfl), H0.out.drewN⟩
      · have hp : x.place i = i := x.place_id i (by show i < x.stem.length + x.cycle.length; omega)
        have HP := Lib.hid hp
        clear hp
        have hge2 : decide ((x.stem.length : Int) + (x.cycle.length : Int) ≤ (i : Int)) = false := by rw [decide_eq_false_iff_not]; omega
        go_wp2_with fail
        go_meet
        case rel => exact ⟨congrArg (Value.int .i64) (by rw [HP.out]), H0.out⟩
    case rest =>
      obtain ⟨rfl, h1⟩ := hcut
      have H1 := Lib.hid h1
      clear h1 c0 c1 c2 c3 c4
      obtain ⟨c0, c1, c2, c3, c4⟩ := H1.out.cells
      obtain ⟨q, hq⟩ : ∃ q, x.place i = q := ⟨_, rfl⟩
      have HQ := Lib.hid hq
      have hql : q < x.size := hq ▸ HPL.out
      rw [hq]
      clear hq
      go_wp2_with fail
      obtain ⟨D0, m0, d0, hk0, hc0⟩ := rkid_exact f k p K n e 0 w S HF.out
      obtain ⟨D1, m1, d1, hk1, hc1⟩ := rkid_exact f k p K n e 1 w S HF.out
      have HK0 := Lib.hid hk0
      have HK1 := Lib.hid hk1
      have HC0 := Lib.hid hc0
      have HC1 := Lib.hid hc1
      clear hk0 hk1 hc0 hc1
      refine wp_region_jump (L := #[false, false, false, false, false, false, true, true]) 6 (by kernel_rfl) (by kernel_rfl) (by kernel_rfl) ?_
      have hF0 : ∀ k, Lt wc.drew.heap.size k → k < wc.drew.heap.size := fun _ h => h
      refine wpJ_boxL (base := wc.heap.size) (i := 4) (Z := #[.int .i64 0, .int .i64 0, .slice none 0 0]) rfl (by kernel_rfl) (by kernel_rfl) (by kernel_rfl) (fun _ => by kernel_rfl) (fun _ _ _ _ h => h) hF0 (Nat.le_refl _) ?_
      refine wpJ_boxL (base := wc.heap.size) (i := 5) (Z := #[.int .i64 0, .int .i64 0, .slice none 0 0]) rfl (by kernel_rfl) (by kernel_rfl) (by kernel_rfl) (fun _ => by kernel_rfl) (fun _ _ _ _ h => h) hF0 (Nat.le_refl _) ?_
      refine wpJ_takeL (i := 0) (v := ?_) rfl (by kernel_rfl) (by kernel_rfl) (by kernel_rfl) (fun _ _ _ h => h) hF0 (Or.inl ⟨by rfl, ?_⟩) ?_
      rotate_left
      focus
        intro W' hj
        obtain ⟨c0, c1, c2, c3, c4⟩ := (H1.out.call (Jmp.low hj)).cells
        clear hj
        go_simp
        try with_reducible rfl
      simp only [Act.put, List.setIfInBounds_toArray, List.set_cons_zero, List.set_cons_succ]
      refine wpJ_takeL (i := 2) (v := ?_) rfl (by kernel_rfl) (by kernel_rfl) (by kernel_rfl) (fun _ _ _ h => h) hF0 (Or.inl ⟨by rfl, ?_⟩) ?_
      rotate_left
      focus
        intro W' hj
        obtain ⟨c0, c1, c2, c3, c4⟩ := (H1.out.call (Jmp.low hj)).cells
        clear hj
        go_simp
        try with_reducible rfl
      simp only [Act.put, List.setIfInBounds_toArray, List.set_cons_zero, List.set_cons_succ]
      refine wpJ_callL (i := 1) (by kernel_rfl) rfl fun v1 j1 K1 k1 => ?_
      go_wp2_with fail
      refine (HC0.out _ _ rfl (below_call H1.out.below (Jmp.low j1))).mono ?_
      rintro e1 w1 ⟨rfl, b1⟩
      go_wp2_with fail
      refine k1.out _ _ b1 ?_
      clear k1
      have hF2 := grow_F (j1.grow hF0) b1.size
      refine wpJ_callL (i := 3) (by kernel_rfl) rfl fun v3 j3 K3 k3 => ?_
      go_wp2_with fail
      refine (HC1.out _ _ rfl (below_call H1.out.below (Jmp.low (j1.back hF0 b1 j3)))).mono ?_
      rintro e3 w3 ⟨rfl, b3⟩
      go_wp2_with fail
      refine k3.out _ _ b3 ?_
      clear k3
      have hF4 := grow_F (j3.grow hF2) b3.size
      refine wpJ_end (by kernel_rfl) (fun wz jz => ?_) _
      clear c0 c1 c2 c3 c4
      have hlz := Jmp.low (j1.back hF0 b1 (j3.back hF2 b3 jz))
      have HR0 := Lib.hid (H1.out.call hlz)
      have HLZ := Lib.hid hlz
      intro gq loq noq bkq gp lop nop bkp
      have hne : gp ≠ gq := fun h => nop (.inr h)
      have HBP := Lib.hid bkp
      have HBQ := Lib.hid bkq
      obtain ⟨x0, x1, x2⟩ := cells3 bkp
      obtain ⟨y0, y1, y2⟩ := cells3 bkq
      have fp0 := bkp.frozen 0
      have fp1 := bkp.frozen 1
      have fp2 := bkp.frozen 2
      have fq0 := bkq.frozen 0
      have fq1 := bkq.frozen 1
      have fq2 := bkq.frozen 2
      clear bkp bkq hlz nop noq jz
      refine ⟨by kernel_rfl, ?_⟩
      simp only [Act.put, List.setIfInBounds_toArray, List.set_cons_zero, List.set_cons_succ]
      go_upto_region 5 with (fail)
      have l1 := H1.out.b1.lt
      have l2 := H1.out.b2.lt
      have lw := H1.out.below.size
      have hk1 := blk_far3 (blk_set3 HBP.out (.int .i64 (f.kid 0).kind) (.int .i64 (f.kid 0).prop) (.slice D0 m0 d0)) hne (.int .i64 (f.kid 1).kind) (.int .i64 (f.kid 1).prop) (.slice D1 m1 d1)
      have hk2 := blk_set3 (blk_far3 HBQ.out (Ne.symm hne) (.int .i64 (f.kid 0).kind) (.int .i64 (f.kid 0).prop) (.slice D0 m0 d0)) (.int .i64 (f.kid 1).kind) (.int .i64 (f.kid 1).prop) (.slice D1 m1 d1)
      have hrz : RH x A B c d k p K n e w (((((((wz.setCell ⟨gp, 0, none⟩ (.int .i64 (f.kid 0).kind)).setCell ⟨gp, 1, none⟩ (.int .i64 (f.kid 0).prop)).setCell ⟨gp, 2, none⟩ (.slice D0 m0 d0)).setCell ⟨gq, 0, none⟩ (.int .i64 (f.kid 1).kind)).setCell ⟨gq, 1, none⟩ (.int .i64 (f.kid 1).prop)).setCell ⟨gq, 2, none⟩ (.slice D1 m1 d1))) :=
        ⟨below_set3 (below_set3 HR0.out.below (by omega) (.int .i64 (f.kid 0).kind) (.int .i64 (f.kid 0).prop) (.slice D0 m0 d0)) (by omega) (.int .i64 (f.kid 1).kind) (.int .i64 (f.kid 1).prop) (.slice D1 m1 d1), blk_far3 (blk_far3 HR0.out.b1 (by omega) (.int .i64 (f.kid 0).kind) (.int .i64 (f.kid 0).prop) (.slice D0 m0 d0)) (by omega) (.int .i64 (f.kid 1).kind) (.int .i64 (f.kid 1).prop) (.slice D1 m1 d1), blk_far3 (blk_far3 HR0.out.b2 (by omega) (.int .i64 (f.kid 0).kind) (.int .i64 (f.kid 0).prop) (.slice D0 m0 d0)) (by omega) (.int .i64 (f.kid 1).kind) (.int .i64 (f.kid 1).prop) (.slice D1 m1 d1)⟩
      have HRX := Lib.hid hrz
      have HKD := Lib.hid (show Kids f gp gq D0 m0 d0 D1 m1 d1 _ from ⟨hk1, hk2⟩)
      clear hk1 hk2 hrz x0 x1 x2 y0 y1 y2 fp0 fp1 fp2 fq0 fq1 fq2
      generalize (((((((wz.setCell ⟨gp, 0, none⟩ (.int .i64 (f.kid 0).kind)).setCell ⟨gp, 1, none⟩ (.int .i64 (f.kid 0).prop)).setCell ⟨gp, 2, none⟩ (.slice D0 m0 d0)).setCell ⟨gq, 0, none⟩ (.int .i64 (f.kid 1).kind)).setCell ⟨gq, 1, none⟩ (.int .i64 (f.kid 1).prop)).setCell ⟨gq, 2, none⟩ (.slice D1 m1 d1))) = WZ at *
      have HSAT : Hid (t.sat x i = t.sat x q) := Lib.hid (by rw [t.sat_round x i, HQ.out])
      have P0 : Hid (∀ (W' : World), Below w.heap.size w W' → ∀ (z : Nat) (a : T), (f.kid 0).norm = a → a.size ≤ m → z ≤ 9223372036854775807 → Calls Try.prog 12 #[.agg #[.int .i64 (f.kid 0).kind, .int .i64 (f.kid 0).prop, .slice D0 m0 d0], .agg #[.slice A x.stem.length c, .slice B x.cycle.length d], .int .i64 (z : Int)] W' fun e' w' => e' = .returned (.bool (a.sat x z)) ∧ Below W'.heap.size W' w') :=
        Lib.hid fun W' hb z a ha hs hz => IH.out a hs (f.kid 0) _ _ D0 m0 d0 S W' z (HS.out.call hb.size) ha (HK0.out.call HS.out hb) (HW.out.call HS.out hb) hz
      have P1 : Hid (∀ (W' : World), Below w.heap.size w W' → ∀ (z : Nat) (a : T), (f.kid 1).norm = a → a.size ≤ m → z ≤ 9223372036854775807 → Calls Try.prog 12 #[.agg #[.int .i64 (f.kid 1).kind, .int .i64 (f.kid 1).prop, .slice D1 m1 d1], .agg #[.slice A x.stem.length c, .slice B x.cycle.length d], .int .i64 (z : Int)] W' fun e' w' => e' = .returned (.bool (a.sat x z)) ∧ Below W'.heap.size W' w') :=
        Lib.hid fun W' hb z a ha hs hz => IH.out a hs (f.kid 1) _ _ D1 m1 d1 S W' z (HS.out.call hb.size) ha (HK1.out.call HS.out hb) (HW.out.call HS.out hb) hz
      have hkd : KindOf k p (f.kid 0) (f.kid 1) t := by
        obtain ⟨r, rfl⟩ := is_mk' HF.out
        rw [← HN.out]
        exact kind_of k p r
      have HKO := Lib.hid hkd
      have HLW := Lib.hid (show ∀ W', Below w.heap.size w W' → Calls Try.prog 36 #[.agg #[.slice A x.stem.length c, .slice B x.cycle.length d], .int .i64 (q : Int), .int .i64 p] W' fun e w' => e = .returned (.bool (hasAt (x.far q) p)) ∧ Below W'.heap.size W' w' from fun W' hb => rletter_any x A B c d q p W' S (by omega) (HS.out.call hb.size) hx h0 (HW.out.call HS.out hb))
      obtain ⟨c0, c1, c2, c3, c4⟩ := HRX.out.cells
      obtain ⟨u0, u1, u2⟩ := cells3 HKD.out.b1
      obtain ⟨v0, v1, v2⟩ := cells3 HKD.out.b2
      clear hkd IH HK0 HK1 HC0 HC1 HW HS HF HBP HBQ H1 HR0 HLZ l1 l2 lw lop loq hne
      cases t with
      | tt =>
        obtain rfl : k = 0 := HKO.out
        clear HKO
        go_wp2
        go_ret
        exact ⟨rfl, HRX.out.below⟩
      | ff =>
        obtain ⟨z0, z2, z3, z4, z5, z7, z8, z9, z10, z11, z12⟩ : _ ∧ _ := HKO.out
        have r0 : (k == 0) = false := by simpa using z0
        have r2 : (k == 2) = false := by simpa using z2
        have r3 : (k == 3) = false := by simpa using z3
        have r4 : (k == 4) = false := by simpa using z4
        have r5 : (k == 5) = false := by simpa using z5
        have r7 : (k == 7) = false := by simpa using z7
        have r8 : (k == 8) = false := by simpa using z8
        have r9 : (k == 9) = false := by simpa using z9
        have r10 : (k == 10) = false := by simpa using z10
        have r11 : (k == 11) = false := by simpa using z11
        have r12 : (k == 12) = false := by simpa using z12
        clear z0 z2 z3 z4 z5 z7 z8 z9 z10 z11 z12 HKO
        go_wp2
        go_ret
        exact ⟨rfl, HRX.out.below⟩
      | atom a =>
        obtain ⟨rfl, rfl⟩ : k = 2 ∧ p = a := HKO.out
        clear HKO
        go_wp2_with fail
        refine (HLW.out _ HRX.out.below).mono ?_
        rintro e' w5 ⟨rfl, b5⟩
        go_wp2
        go_ret
        exact ⟨by rw [HSAT.out]; rfl, below_call HRX.out.below b5⟩
      | not a =>
        obtain ⟨rfl, hn0⟩ : k = 3 ∧ (f.kid 0).norm = a := HKO.out
        have N0 := Lib.hid hn0
        have hsa : a.size ≤ m := by have := HT.out; simp only [T.size] at this; omega
        clear hn0
        clear HKO
        go_wp2_with fail
        refine (P0.out WZ HRX.out.below q a N0.out hsa (by omega)).mono ?_
        rintro e' w5 ⟨rfl, bw5⟩
        go_wp2
        go_ret
        exact ⟨by rw [HSAT.out]; rfl, below_call HRX.out.below bw5⟩
      | next a =>
        obtain ⟨rfl, hn0⟩ : k = 8 ∧ (f.kid 0).norm = a := HKO.out
        have N0 := Lib.hid hn0
        have hsa : a.size ≤ m := by have := HT.out; simp only [T.size] at this; omega
        clear hn0
        clear HKO
        go_wp2_with fail
        refine (P0.out WZ HRX.out.below (q + 1) a N0.out hsa (by omega)).mono ?_
        rintro e' w5 ⟨rfl, bw5⟩
        go_wp2
        go_ret
        exact ⟨by rw [HSAT.out]; rfl, below_call HRX.out.below bw5⟩
      | and a b =>
        obtain ⟨rfl, hn0, hn1⟩ : k = 4 ∧ (f.kid 0).norm = a ∧ (f.kid 1).norm = b := HKO.out
        have N0 := Lib.hid hn0
        have hsa : a.size ≤ m := by have := HT.out; simp only [T.size] at this; omega
        have N1 := Lib.hid hn1
        have hsb : b.size ≤ m := by have := HT.out; simp only [T.size] at this; omega
        clear hn0 hn1
        clear HKO
        go_wp2_with fail
        refine (P0.out WZ HRX.out.below q a N0.out hsa (by omega)).mono ?_
        rintro e' w5 ⟨rfl, bw5⟩
        have HR5 := Lib.hid (HRX.out.call bw5)
        have HK5 := Lib.hid (HKD.out.call bw5)
        clear c0 c1 c2 c3 c4 u0 u1 u2 v0 v1 v2 bw5
        obtain ⟨c0, c1, c2, c3, c4⟩ := HR5.out.cells
        obtain ⟨v0, v1, v2⟩ := cells3 HK5.out.b2
        cases hA : a.sat x q with
        | true =>
          have HA := Lib.hid hA
          clear hA
          go_wp2_with fail
          refine (P1.out w5 HR5.out.below q b N1.out hsb (by omega)).mono ?_
          rintro e' w6 ⟨rfl, bw6⟩
          go_wp2
          go_ret
          exact ⟨by rw [HSAT.out]; show _ = Ending.returned (.bool (a.sat x q && b.sat x q)); rw [HA.out]; rfl, below_call HR5.out.below bw6⟩
        | false =>
          have HA := Lib.hid hA
          clear hA
          go_wp2
          go_ret
          exact ⟨by rw [HSAT.out]; show _ = Ending.returned (.bool (a.sat x q && b.sat x q)); rw [HA.out]; rfl, HR5.out.below⟩
      | or a b =>
        obtain ⟨rfl, hn0, hn1⟩ : k = 5 ∧ (f.kid 0).norm = a ∧ (f.kid 1).norm = b := HKO.out
        have N0 := Lib.hid hn0
        have hsa : a.size ≤ m := by have := HT.out; simp only [T.size] at this; omega
        have N1 := Lib.hid hn1
        have hsb : b.size ≤ m := by have := HT.out; simp only [T.size] at this; omega
        clear hn0 hn1
        clear HKO
        go_wp2_with fail
        refine (P0.out WZ HRX.out.below q a N0.out hsa (by omega)).mono ?_
        rintro e' w5 ⟨rfl, bw5⟩
        have HR5 := Lib.hid (HRX.out.call bw5)
        have HK5 := Lib.hid (HKD.out.call bw5)
        clear c0 c1 c2 c3 c4 u0 u1 u2 v0 v1 v2 bw5
        obtain ⟨c0, c1, c2, c3, c4⟩ := HR5.out.cells
        obtain ⟨v0, v1, v2⟩ := cells3 HK5.out.b2
        cases hA : a.sat x q with
        | true =>
          have HA := Lib.hid hA
          clear hA
          go_wp2
          go_ret
          exact ⟨by rw [HSAT.out]; show _ = Ending.returned (.bool (a.sat x q || b.sat x q)); rw [HA.out]; rfl, HR5.out.below⟩
        | false =>
          have HA := Lib.hid hA
          clear hA
          go_wp2_with fail
          refine (P1.out w5 HR5.out.below q b N1.out hsb (by omega)).mono ?_
          rintro e' w6 ⟨rfl, bw6⟩
          go_wp2
          go_ret
          exact ⟨by rw [HSAT.out]; show _ = Ending.returned (.bool (a.sat x q || b.sat x q)); rw [HA.out]; rfl, below_call HR5.out.below bw6⟩
      | imp a b =>
        obtain ⟨rfl, hn0, hn1⟩ : k = 7 ∧ (f.kid 0).norm = a ∧ (f.kid 1).norm = b := HKO.out
        have N0 := Lib.hid hn0
        have hsa : a.size ≤ m := by have := HT.out; simp only [T.size] at this; omega
        have N1 := Lib.hid hn1
        have hsb : b.size ≤ m := by have := HT.out; simp only [T.size] at this; omega
        clear hn0 hn1
        clear HKO
        go_wp2_with fail
        refine (P0.out WZ HRX.out.below q a N0.out hsa (by omega)).mono ?_
        rintro e' w5 ⟨rfl, bw5⟩
        have HR5 := Lib.hid (HRX.out.call bw5)
        have HK5 := Lib.hid (HKD.out.call bw5)
        clear c0 c1 c2 c3 c4 u0 u1 u2 v0 v1 v2 bw5
        obtain ⟨c0, c1, c2, c3, c4⟩ := HR5.out.cells
        obtain ⟨v0, v1, v2⟩ := cells3 HK5.out.b2
        cases hA : a.sat x q with
        | true =>
          have HA := Lib.hid hA
          clear hA
          go_wp2_with fail
          refine (P1.out w5 HR5.out.below q b N1.out hsb (by omega)).mono ?_
          rintro e' w6 ⟨rfl, bw6⟩
          go_wp2
          go_ret
          exact ⟨by rw [HSAT.out]; show _ = Ending.returned (.bool (!(a.sat x q) || b.sat x q)); rw [HA.out]; rfl, below_call HR5.out.below bw6⟩
        | false =>
          have HA := Lib.hid hA
          clear hA
          go_wp2
          go_ret
          exact ⟨by rw [HSAT.out]; show _ = Ending.returned (.bool (!(a.sat x q) || b.sat x q)); rw [HA.out]; rfl, HR5.out.below⟩
      | all a =>
        obtain ⟨rfl, hn0⟩ : k = 9 ∧ (f.kid 0).norm = a := HKO.out
        have N0 := Lib.hid hn0
        have hsa : a.size ≤ m := by have := HT.out; simp only [T.size] at this; omega
        clear hn0
        clear HKO
        go_wp2_with fail
        go_loopw [10] (fun v wr => ∃ j : Nat, q ≤ j ∧ j ≤ q + x.size ∧ v = .int .i64 j ∧ RH x A B c d 9 p K n e w wr ∧ Kids f gp gq D0 m0 d0 D1 m1 d1 wr ∧ (T.all a).sat x i = fr (fun _ => false) (a.sat x) (q + x.size - j) j) (fun v _ => q + x.size - (intOf v).toNat)
        case atStart => exact ⟨q, Nat.le_refl _, by omega, rfl, HRX.out, HKD.out, by rw [HSAT.out, Nat.add_sub_cancel_left]; rfl⟩
        case round =>
          obtain ⟨j, hj1, hj2, rfl, hr, hkk, hst⟩ := hrel
          clear c0 c1 c2 c3 c4 u0 u1 u2 v0 v1 v2
          obtain ⟨c0, c1, c2, c3, c4⟩ := hr.cells
          obtain ⟨u0, u1, u2⟩ := cells3 hkk.b1
          obtain ⟨v0, v1, v2⟩ := cells3 hkk.b2
          have HRr := Lib.hid hr
          have HKr := Lib.hid hkk
          have hsz : x.size = x.stem.length + x.cycle.length := rfl
          have HSZ := Lib.hid hsz
          by_cases hlt : j < q + x.size
          · have hun : fr (fun _ => false) (a.sat x) (q + x.size - j) j = fr (fun _ => false) (a.sat x) ((q + x.size - (j + 1)) + 1) j := by rw [show q + x.size - j = (q + x.size - (j + 1)) + 1 by omega]
            have HST := Lib.hid (hst.trans hun)
            have hlt' : (j : Int) < (q : Int) + (x.stem.length : Int) + (x.cycle.length : Int) := by omega
            have HLT := Lib.hid hlt
            clear hst hun hsz hr hkk hlt
            go_wp2_with fail
            refine (P0.out wr HRr.out.below j a N0.out hsa (by omega)).mono ?_
            rintro e' w5 ⟨rfl, bw5⟩
            have HRw5 := Lib.hid (HRr.out.call bw5)
            have HKw5 := Lib.hid (HKr.out.call bw5)
            clear bw5 c0 c1 c2 c3 c4 u0 u1 u2 v0 v1 v2
            obtain ⟨c0, c1, c2, c3, c4⟩ := HRw5.out.cells
            obtain ⟨u0, u1, u2⟩ := cells3 HKw5.out.b1
            obtain ⟨v0, v1, v2⟩ := cells3 HKw5.out.b2
            cases hA : a.sat x j with
            | true =>
              have HA := Lib.hid hA
              clear hA
              go_wp2_with fail
              go_roundw
              case rel => exact ⟨j + 1, by omega, by have := HLT.out; omega, by go_num, HRw5.out, HKw5.out, by rw [HST.out]; rw [fr_succ, HA.out]; simp⟩
              case measure => simp [intOf]; have := HLT.out; omega
            | false =>
              have HA := Lib.hid hA
              clear hA
              go_wp2
              go_ret
              exact ⟨by rw [HST.out]; rw [fr_succ, HA.out]; simp, HRw5.out.below⟩
          · have hge : ¬ (j : Int) < (q : Int) + (x.stem.length : Int) + (x.cycle.length : Int) := by omega
            have HST := Lib.hid (show (T.all a).sat x i = fr (fun _ => false) (a.sat x) 0 j by rw [hst, show q + x.size - j = 0 by omega])
            clear hst hsz hr hkk hlt
            go_wp2
            go_ret
            exact ⟨by rw [HST.out]; rfl, HRr.out.below⟩
      | some_ a =>
        obtain ⟨rfl, hn0⟩ : k = 10 ∧ (f.kid 0).norm = a := HKO.out
        have N0 := Lib.hid hn0
        have hsa : a.size ≤ m := by have := HT.out; simp only [T.size] at this; omega
        clear hn0
        clear HKO
        go_wp2_with fail
        go_loopw [11] (fun v wr => ∃ j : Nat, q ≤ j ∧ j ≤ q + x.size ∧ v = .int .i64 j ∧ RH x A B c d 10 p K n e w wr ∧ Kids f gp gq D0 m0 d0 D1 m1 d1 wr ∧ (T.some_ a).sat x i = un (fun _ => true) (a.sat x) (q + x.size - j) j) (fun v _ => q + x.size - (intOf v).toNat)
        case atStart => exact ⟨q, Nat.le_refl _, by omega, rfl, HRX.out, HKD.out, by rw [HSAT.out, Nat.add_sub_cancel_left]; rfl⟩
        case round =>
          obtain ⟨j, hj1, hj2, rfl, hr, hkk, hst⟩ := hrel
          clear c0 c1 c2 c3 c4 u0 u1 u2 v0 v1 v2
          obtain ⟨c0, c1, c2, c3, c4⟩ := hr.cells
          obtain ⟨u0, u1, u2⟩ := cells3 hkk.b1
          obtain ⟨v0, v1, v2⟩ := cells3 hkk.b2
          have HRr := Lib.hid hr
          have HKr := Lib.hid hkk
          have hsz : x.size = x.stem.length + x.cycle.length := rfl
          have HSZ := Lib.hid hsz
          by_cases hlt : j < q + x.size
          · have hun : un (fun _ => true) (a.sat x) (q + x.size - j) j = un (fun _ => true) (a.sat x) ((q + x.size - (j + 1)) + 1) j := by rw [show q + x.size - j = (q + x.size - (j + 1)) + 1 by omega]
            have HST := Lib.hid (hst.trans hun)
            have hlt' : (j : Int) < (q : Int) + (x.stem.length : Int) + (x.cycle.length : Int) := by omega
            have HLT := Lib.hid hlt
            clear hst hun hsz hr hkk hlt
            go_wp2_with fail
            refine (P0.out wr HRr.out.below j a N0.out hsa (by omega)).mono ?_
            rintro e' w5 ⟨rfl, bw5⟩
            have HRw5 := Lib.hid (HRr.out.call bw5)
            have HKw5 := Lib.hid (HKr.out.call bw5)
            clear bw5 c0 c1 c2 c3 c4 u0 u1 u2 v0 v1 v2
            obtain ⟨c0, c1, c2, c3, c4⟩ := HRw5.out.cells
            obtain ⟨u0, u1, u2⟩ := cells3 HKw5.out.b1
            obtain ⟨v0, v1, v2⟩ := cells3 HKw5.out.b2
            cases hA : a.sat x j with
            | true =>
              have HA := Lib.hid hA
              clear hA
              go_wp2
              go_ret
              exact ⟨by rw [HST.out]; rw [un_succ, HA.out]; simp, HRw5.out.below⟩
            | false =>
              have HA := Lib.hid hA
              clear hA
              go_wp2_with fail
              go_roundw
              case rel => exact ⟨j + 1, by omega, by have := HLT.out; omega, by go_num, HRw5.out, HKw5.out, by rw [HST.out]; rw [un_succ, HA.out]; simp⟩
              case measure => simp [intOf]; have := HLT.out; omega
          · have hge : ¬ (j : Int) < (q : Int) + (x.stem.length : Int) + (x.cycle.length : Int) := by omega
            have HST := Lib.hid (show (T.some_ a).sat x i = un (fun _ => true) (a.sat x) 0 j by rw [hst, show q + x.size - j = 0 by omega])
            clear hst hsz hr hkk hlt
            go_wp2
            go_ret
            exact ⟨by rw [HST.out]; rfl, HRr.out.below⟩
      | until_ a b =>
        obtain ⟨rfl, hn0, hn1⟩ : k = 11 ∧ (f.kid 0).norm = a ∧ (f.kid 1).norm = b := HKO.out
        have N0 := Lib.hid hn0
        have hsa : a.size ≤ m := by have := HT.out; simp only [T.size] at this; omega
        have N1 := Lib.hid hn1
        have hsb : b.size ≤ m := by have := HT.out; simp only [T.size] at this; omega
        clear hn0 hn1
        clear HKO
        go_wp2_with fail
        go_loopw [12] (fun v wr => ∃ j : Nat, q ≤ j ∧ j ≤ q + x.size ∧ v = .int .i64 j ∧ RH x A B c d 11 p K n e w wr ∧ Kids f gp gq D0 m0 d0 D1 m1 d1 wr ∧ (T.until_ a b).sat x i = un (a.sat x) (b.sat x) (q + x.size - j) j) (fun v _ => q + x.size - (intOf v).toNat)
        case atStart => exact ⟨q, Nat.le_refl _, by omega, rfl, HRX.out, HKD.out, by rw [HSAT.out, Nat.add_sub_cancel_left]; rfl⟩
        case round =>
          obtain ⟨j, hj1, hj2, rfl, hr, hkk, hst⟩ := hrel
          clear c0 c1 c2 c3 c4 u0 u1 u2 v0 v1 v2
          obtain ⟨c0, c1, c2, c3, c4⟩ := hr.cells
          obtain ⟨u0, u1, u2⟩ := cells3 hkk.b1
          obtain ⟨v0, v1, v2⟩ := cells3 hkk.b2
          have HRr := Lib.hid hr
          have HKr := Lib.hid hkk
          have hsz : x.size = x.stem.length + x.cycle.length := rfl
          have HSZ := Lib.hid hsz
          by_cases hlt : j < q + x.size
          · have hun : un (a.sat x) (b.sat x) (q + x.size - j) j = un (a.sat x) (b.sat x) ((q + x.size - (j + 1)) + 1) j := by rw [show q + x.size - j = (q + x.size - (j + 1)) + 1 by omega]
            have HST := Lib.hid (hst.trans hun)
            have hlt' : (j : Int) < (q : Int) + (x.stem.length : Int) + (x.cycle.length : Int) := by omega
            have HLT := Lib.hid hlt
            clear hst hun hsz hr hkk hlt
            go_wp2_with fail
            refine (P1.out wr HRr.out.below j b N1.out hsb (by omega)).mono ?_
            rintro e' w5 ⟨rfl, bw5⟩
            have HRw5 := Lib.hid (HRr.out.call bw5)
            have HKw5 := Lib.hid (HKr.out.call bw5)
            clear bw5 c0 c1 c2 c3 c4 u0 u1 u2 v0 v1 v2
            obtain ⟨c0, c1, c2, c3, c4⟩ := HRw5.out.cells
            obtain ⟨u0, u1, u2⟩ := cells3 HKw5.out.b1
            obtain ⟨v0, v1, v2⟩ := cells3 HKw5.out.b2
            cases hA : b.sat x j with
            | true =>
              have HA := Lib.hid hA
              clear hA
              go_wp2
              go_ret
              exact ⟨by rw [HST.out]; rw [un_succ, HA.out]; simp, HRw5.out.below⟩
            | false =>
              have HA := Lib.hid hA
              clear hA
              go_wp2_with fail
              refine (P0.out w5 HRw5.out.below j a N0.out hsa (by omega)).mono ?_
              rintro e' w6 ⟨rfl, bw6⟩
              have HRw6 := Lib.hid (HRw5.out.call bw6)
              have HKw6 := Lib.hid (HKw5.out.call bw6)
              clear bw6 c0 c1 c2 c3 c4 u0 u1 u2 v0 v1 v2
              obtain ⟨c0, c1, c2, c3, c4⟩ := HRw6.out.cells
              obtain ⟨u0, u1, u2⟩ := cells3 HKw6.out.b1
              obtain ⟨v0, v1, v2⟩ := cells3 HKw6.out.b2
              cases hB : a.sat x j with
              | true =>
                have HB := Lib.hid hB
                clear hB
                go_wp2_with fail
                go_roundw
                case rel => exact ⟨j + 1, by omega, by have := HLT.out; omega, by go_num, HRw6.out, HKw6.out, by rw [HST.out]; rw [un_succ, HA.out, HB.out]; simp⟩
                case measure => simp [intOf]; have := HLT.out; omega
              | false =>
                have HB := Lib.hid hB
                clear hB
                go_wp2
                go_ret
                exact ⟨by rw [HST.out]; rw [un_succ, HA.out, HB.out]; simp, HRw6.out.below⟩
          · have hge : ¬ (j : Int) < (q : Int) + (x.stem.length : Int) + (x.cycle.length : Int) := by omega
            have HST := Lib.hid (show (T.until_ a b).sat x i = un (a.sat x) (b.sat x) 0 j by rw [hst, show q + x.size - j = 0 by omega])
            clear hst hsz hr hkk hlt
            go_wp2
            go_ret
            exact ⟨by rw [HST.out]; rfl, HRr.out.below⟩
      | free a b =>
        obtain ⟨rfl, hn0, hn1⟩ : k = 12 ∧ (f.kid 0).norm = a ∧ (f.kid 1).norm = b := HKO.out
        have N0 := Lib.hid hn0
        have hsa : a.size ≤ m := by have := HT.out; simp only [T.size] at this; omega
        have N1 := Lib.hid hn1
        have hsb : b.size ≤ m := by have := HT.out; simp only [T.size] at this; omega
        clear hn0 hn1
        clear HKO
        go_wp2_with fail
        go_loopw [13] (fun v wr => ∃ j : Nat, q ≤ j ∧ j ≤ q + x.size ∧ v = .int .i64 j ∧ RH x A B c d 12 p K n e w wr ∧ Kids f gp gq D0 m0 d0 D1 m1 d1 wr ∧ (T.free a b).sat x i = fr (a.sat x) (b.sat x) (q + x.size - j) j) (fun v _ => q + x.size - (intOf v).toNat)
        case atStart => exact ⟨q, Nat.le_refl _, by omega, rfl, HRX.out, HKD.out, by rw [HSAT.out, Nat.add_sub_cancel_left]; rfl⟩
        case round =>
          obtain ⟨j, hj1, hj2, rfl, hr, hkk, hst⟩ := hrel
          clear c0 c1 c2 c3 c4 u0 u1 u2 v0 v1 v2
          obtain ⟨c0, c1, c2, c3, c4⟩ := hr.cells
          obtain ⟨u0, u1, u2⟩ := cells3 hkk.b1
          obtain ⟨v0, v1, v2⟩ := cells3 hkk.b2
          have HRr := Lib.hid hr
          have HKr := Lib.hid hkk
          have hsz : x.size = x.stem.length + x.cycle.length := rfl
          have HSZ := Lib.hid hsz
          by_cases hlt : j < q + x.size
          · have hun : fr (a.sat x) (b.sat x) (q + x.size - j) j = fr (a.sat x) (b.sat x) ((q + x.size - (j + 1)) + 1) j := by rw [show q + x.size - j = (q + x.size - (j + 1)) + 1 by omega]
            have HST := Lib.hid (hst.trans hun)
            have hlt' : (j : Int) < (q : Int) + (x.stem.length : Int) + (x.cycle.length : Int) := by omega
            have HLT := Lib.hid hlt
            clear hst hun hsz hr hkk hlt
            go_wp2_with fail
            refine (P1.out wr HRr.out.below j b N1.out hsb (by omega)).mono ?_
            rintro e' w5 ⟨rfl, bw5⟩
            have HRw5 := Lib.hid (HRr.out.call bw5)
            have HKw5 := Lib.hid (HKr.out.call bw5)
            clear bw5 c0 c1 c2 c3 c4 u0 u1 u2 v0 v1 v2
            obtain ⟨c0, c1, c2, c3, c4⟩ := HRw5.out.cells
            obtain ⟨u0, u1, u2⟩ := cells3 HKw5.out.b1
            obtain ⟨v0, v1, v2⟩ := cells3 HKw5.out.b2
            cases hA : b.sat x j with
            | true =>
              have HA := Lib.hid hA
              clear hA
              go_wp2_with fail
              refine (P0.out w5 HRw5.out.below j a N0.out hsa (by omega)).mono ?_
              rintro e' w6 ⟨rfl, bw6⟩
              have HRw6 := Lib.hid (HRw5.out.call bw6)
              have HKw6 := Lib.hid (HKw5.out.call bw6)
              clear bw6 c0 c1 c2 c3 c4 u0 u1 u2 v0 v1 v2
              obtain ⟨c0, c1, c2, c3, c4⟩ := HRw6.out.cells
              obtain ⟨u0, u1, u2⟩ := cells3 HKw6.out.b1
              obtain ⟨v0, v1, v2⟩ := cells3 HKw6.out.b2
              cases hB : a.sat x j with
              | true =>
                have HB := Lib.hid hB
                clear hB
                go_wp2
                go_ret
                exact ⟨by rw [HST.out]; rw [fr_succ, HA.out, HB.out]; simp, HRw6.out.below⟩
              | false =>
                have HB := Lib.hid hB
                clear hB
                go_wp2_with fail
                go_roundw
                case rel => exact ⟨j + 1, by omega, by have := HLT.out; omega, by go_num, HRw6.out, HKw6.out, by rw [HST.out]; rw [fr_succ, HA.out, HB.out]; simp⟩
                case measure => simp [intOf]; have := HLT.out; omega
            | false =>
              have HA := Lib.hid hA
              clear hA
              go_wp2
              go_ret
              exact ⟨by rw [HST.out]; rw [fr_succ, HA.out]; simp, HRw5.out.below⟩
          · have hge : ¬ (j : Int) < (q : Int) + (x.stem.length : Int) + (x.cycle.length : Int) := by omega
            have HST := Lib.hid (show (T.free a b).sat x i = fr (a.sat x) (b.sat x) 0 j by rw [hst, show q + x.size - j = 0 by omega])
            clear hst hsz hr hkk hlt
            go_wp2
            go_ret
            exact ⟨by rw [HST.out]; rfl, HRr.out.below⟩

end Go.Proofs.Ytedbjkjncfinnaa
