/-
  Layer 15, the reference: Plain.
-/
import Derived.Test.YtedbjkjncfinnaaRefA
namespace Go.Proofs.Ytedbjkjncfinnaa
open Go.RowKit

/-- A weight that falls as the reference goes on. -/
def T.wt : T → Nat
  | .tt | .ff | .atom _ => 1
  | .not p | .next p => 1 + p.wt
  | .all p | .some_ p => 3 + p.wt
  | .and p q | .or p q | .until_ p q | .free p q => 1 + p.wt + q.wt
  | .imp p q => 3 + p.wt + q.wt

/-- What holds in the region 'RPlR', by which of its operations are done. -/
def RPlR (W : World) (w : World) (k p : Int) (A : Option Addr) (n c : Nat) (dn : Bool) (f0 f1 : Ltl) (A0 A1 : Option Addr) (n0 n1 c0 c1 : Nat) (L : Nat → Bool) (a : Act) (wx : World) : Prop :=
  ∃ vp vq x0 y0 x1 y1 : Value, ∃ gp gq : Nat, a = { tmps := #[.agg #[.int .i64 k, .int .i64 p, .slice A n c], .bool dn, .pointer (some ⟨w.heap.size, 0, none⟩), undef, .pointer (some ⟨w.heap.size + 1, 0, none⟩), vp, vq, x0, y0, x1, y1, undef, undef, undef, undef, undef, undef, undef, undef, undef, undef, undef, undef, undef, undef, undef, undef, undef, undef, undef, undef, undef, undef, undef, undef, undef, undef, undef, undef, undef, undef, undef, undef, undef, undef, undef, undef, undef, undef, undef, undef, undef, undef, undef, undef, undef, undef, undef, undef, undef, undef, undef, undef, undef, undef, undef, undef, undef, undef, undef, undef, undef, undef, undef, undef, undef, undef, undef, undef, undef, undef, undef, undef, undef, undef, undef, undef, undef, undef, undef, undef, undef, undef, undef, undef, undef, undef, undef, undef, undef, undef, undef, undef, undef, undef, undef, undef, undef, undef, undef, undef, undef], defers := [] } ∧ Below W.heap.size W wx ∧ (L 0 = true → x0 = .agg #[.int .i64 k, .int .i64 p, .slice A n c]) ∧ (L 2 = true → x1 = .agg #[.int .i64 k, .int .i64 p, .slice A n c]) ∧ (L 1 = true → y0 = .agg #[.int .i64 f0.kind, .int .i64 f0.prop, .slice A0 n0 c0]) ∧ (L 3 = true → y1 = .agg #[.int .i64 f1.kind, .int .i64 f1.prop, .slice A1 n1 c1]) ∧
    (L 4 = true → Own wx W.heap.size gp 24 vp (pick (L 6) #[.int .i64 f0.kind, .int .i64 f0.prop, .slice A0 n0 c0] #[.int .i64 0, .int .i64 0, .slice none 0 0])) ∧ (L 5 = true → Own wx W.heap.size gq 24 vq (pick (L 7) #[.int .i64 f1.kind, .int .i64 f1.prop, .slice A1 n1 c1] #[.int .i64 0, .int .i64 0, .slice none 0 0])) ∧ (L 4 = true → L 5 = true → gp ≠ gq)

/-- plumblineref15.Plain, of what is no greater than m. -/
def RPlainUp (m : Nat) : Prop := ∀ (t : T), t.wt ≤ m → ∀ (f : Ltl) (k p : Int) (A : Option Addr) (n c : Nat) (dn : Bool) (w : World) (S : Nat → Prop), Bd S w → f.norm = t → Ltl.Is w S f [.int .i64 k, .int .i64 p, .slice A n c] →
  Calls Try.prog 16 #[.agg #[.int .i64 k, .int .i64 p, .slice A n c], .bool dn] w (RetLtl w S (t.plain dn).ltl)

set_option maxRecDepth 100000 in
set_option maxHeartbeats 8000000 in
theorem rplain_up (m : Nat) (ih : RPlainUp m) : RPlainUp (m + 1) := by
  intro t ht f k p A n c dn w S hS hn hf
  have hkind : ∃ r, f = .mk k p r := by
    obtain ⟨k', p', r⟩ := f
    obtain ⟨_, _, _, hcs, _⟩ := hf.form
    simp only [List.cons.injEq, Value.int.injEq, true_and] at hcs
    obtain ⟨rfl, rfl, _⟩ := hcs
    exact ⟨r, rfl⟩
  obtain ⟨r, rfl⟩ := hkind
  have hk := kind_of k p r
  rw [hn] at hk
  obtain ⟨A0, n0, c0, hk0, hc0⟩ := rkid_exact _ k p A n c 0 w S hf
  obtain ⟨A1, n1, c1, hk1, hc1⟩ := rkid_exact _ k p A n c 1 w S hf
  generalize Ltl.kid (.mk k p r) 0 = f0 at *
  generalize Ltl.kid (.mk k p r) 1 = f1 at *
  have HK := Lib.hid hk
  have HS := Lib.hid hS
  have HT := Lib.hid ht
  have HI := Lib.hid ih
  have HC0 := Lib.hid hc0
  have HC1 := Lib.hid hc1
  have H0 := Lib.hid hk0
  have H1 := Lib.hid hk1
  clear hf hc0 hc1 hk0 hk1 hk hn ht ih hS
  go_enter Try.func16, Try.ntmps16
  go_wp2_with fail
  obtain ⟨W, hW⟩ : ∃ W, (w.alloc (Obj.cells #[.int .i64 k, .int .i64 p, .slice A n c] 24)).alloc (Obj.cells #[.int .i64 0, .int .i64 0, .slice none 0 0] 24) = W := ⟨_, rfl⟩
  have hbW : Below w.heap.size w W := by rw [← hW]; exact below_alloc (below_one _ _)
  have hzW : W.heap.size = w.heap.size + 2 := by rw [← hW]; simp
  have b0 : W.cell? ⟨w.heap.size, 0, none⟩ = some (.int .i64 k) := by rw [← hW]; simp [go_sem]
  have b1 : W.cell? ⟨w.heap.size, 1, none⟩ = some (.int .i64 p) := by rw [← hW]; simp [go_sem]
  have b2 : W.cell? ⟨w.heap.size, 2, none⟩ = some (.slice A n c) := by rw [← hW]; simp [go_sem]
  have bR : Blk W (w.heap.size + 1) 24 #[.int .i64 0, .int .i64 0, .slice none 0 0] := by rw [← hW]; simpa using Blk.new (w.alloc (Obj.cells #[.int .i64 k, .int .i64 p, .slice A n c] 24)) 24 #[.int .i64 0, .int .i64 0, .slice none 0 0]
  have l0 : w.heap.size < W.heap.size := by omega
  have l1 : w.heap.size + 1 < W.heap.size := by omega
  rw [hW]
  clear hW hzW
  have BR := Lib.hid bR
  clear bR
  refine wp_region_inv (by kernel_rfl) (by kernel_rfl) (RPlR W w k p A n c dn f0 f1 A0 A1 n0 n1 c0 c1) ?h0 ?step ?fin
  case h0 => exact ⟨undef, undef, undef, undef, undef, undef, 0, 0, rfl, (Below.refl _ _).drew, by simp, by simp, by simp, by simp, by simp, by simp, by simp⟩
  case step =>
    rintro i o ho L a wx ⟨vp, vq, x0, y0, x1, y1, gp, gq, rfl, hb, h0', h2', h1', h3', h4', h5', h45'⟩ hLi hpre hcl
    have h0 := Lib.hid h0'
    have h1 := Lib.hid h1'
    have h2 := Lib.hid h2'
    have h3 := Lib.hid h3'
    have h4 := Lib.hid h4'
    have h5 := Lib.hid h5'
    have h45 := Lib.hid h45'
    have hp := Lib.hid hpre
    have hL := Lib.hid hLi
    clear h0' h1' h2' h3' h4' h5' h45' hpre hLi
    match i, ho with
    | 0, ho =>
      simp only [List.getElem?_toArray, List.getElem?_cons_zero, Option.some.injEq] at ho
      subst ho
      clear hcl
      have rd := (bcell hb).1
      go_wp2
      exact ⟨_, _, _, _, _, _, gp, gq, rfl, hb, fun _ => rfl, fun h => h2.out (by simpa using h), fun h => h1.out (by simpa using h), fun h => h3.out (by simpa using h), fun h => by simpa using (h4.out (by simpa using h)), fun h => by simpa using (h5.out (by simpa using h)), fun h h' => h45.out (by simpa using h) (by simpa using h')⟩
    | 1, ho =>
      simp only [List.getElem?_toArray, List.getElem?_cons_zero, List.getElem?_cons_succ, Option.some.injEq] at ho
      subst ho
      clear hcl
      have q0 : L 0 = true := hp.out ⟨0, .data⟩ (by simp) rfl
      obtain rfl := h0.out q0
      clear q0
      go_wp2_with (go_at_call 35; refine (HC0.out _ _ rfl (hbW.trans (hb.mono hbW.size))).mono ?_; rintro e w' ⟨rfl, hb'⟩)
      exact ⟨_, _, _, _, _, _, gp, gq, rfl, below_call hb hb', fun _ => rfl, fun h => h2.out (by simpa using h), fun _ => rfl, fun h => h3.out (by simpa using h), fun h => by simpa using (h4.out (by simpa using h)).call hb', fun h => by simpa using (h5.out (by simpa using h)).call hb', fun h h' => h45.out (by simpa using h) (by simpa using h')⟩
    | 2, ho =>
      simp only [List.getElem?_toArray, List.getElem?_cons_zero, List.getElem?_cons_succ, Option.some.injEq] at ho
      subst ho
      clear hcl
      have rd := (bcell hb).1
      go_wp2
      exact ⟨_, _, _, _, _, _, gp, gq, rfl, hb, fun h => h0.out (by simpa using h), fun _ => rfl, fun h => h1.out (by simpa using h), fun h => h3.out (by simpa using h), fun h => by simpa using (h4.out (by simpa using h)), fun h => by simpa using (h5.out (by simpa using h)), fun h h' => h45.out (by simpa using h) (by simpa using h')⟩
    | 3, ho =>
      simp only [List.getElem?_toArray, List.getElem?_cons_zero, List.getElem?_cons_succ, Option.some.injEq] at ho
      subst ho
      clear hcl
      have q0 : L 2 = true := hp.out ⟨2, .data⟩ (by simp) rfl
      obtain rfl := h2.out q0
      clear q0
      go_wp2_with (go_at_call 35; refine (HC1.out _ _ rfl (hbW.trans (hb.mono hbW.size))).mono ?_; rintro e w' ⟨rfl, hb'⟩)
      exact ⟨_, _, _, _, _, _, gp, gq, rfl, below_call hb hb', fun h => h0.out (by simpa using h), fun _ => rfl, fun h => h1.out (by simpa using h), fun _ => rfl, fun h => by simpa using (h4.out (by simpa using h)).call hb', fun h => by simpa using (h5.out (by simpa using h)).call hb', fun h h' => h45.out (by simpa using h) (by simpa using h')⟩
    | 4, ho =>
      simp only [List.getElem?_toArray, List.getElem?_cons_zero, List.getElem?_cons_succ, Option.some.injEq] at ho
      subst ho
      have n6 : L 6 = false := by
        cases hq : L 6 with
        | false => rfl
        | true => exact absurd (hcl 6 _ rfl hq ⟨4, .data⟩ (by simp) rfl) (by rw [hL.out]; simp)
      clear hcl
      have n6' := Lib.hid n6
      clear n6
      go_wp2
      exact ⟨_, _, _, _, _, _, wx.heap.size, gq, rfl, below_alloc hb, fun h => h0.out (by simpa using h), fun h => h2.out (by simpa using h), fun h => h1.out (by simpa using h), fun h => h3.out (by simpa using h), fun _ => by simpa [n6'.out, pick] using Own.new 24 #[.int .i64 0, .int .i64 0, .slice none 0 0] hb.size, fun h => by simpa using (h5.out (by simpa using h)).call (below_one _ _), fun _ h => by have := (h5.out (by simpa using h)).2.2.lt; omega⟩
    | 5, ho =>
      simp only [List.getElem?_toArray, List.getElem?_cons_zero, List.getElem?_cons_succ, Option.some.injEq] at ho
      subst ho
      have n7 : L 7 = false := by
        cases hq : L 7 with
        | false => rfl
        | true => exact absurd (hcl 7 _ rfl hq ⟨5, .data⟩ (by simp) rfl) (by rw [hL.out]; simp)
      clear hcl
      have n7' := Lib.hid n7
      clear n7
      go_wp2
      exact ⟨_, _, _, _, _, _, gp, wx.heap.size, rfl, below_alloc hb, fun h => h0.out (by simpa using h), fun h => h2.out (by simpa using h), fun h => h1.out (by simpa using h), fun h => h3.out (by simpa using h), fun h => by simpa using (h4.out (by simpa using h)).call (below_one _ _), fun _ => by simpa [n7'.out, pick] using Own.new 24 #[.int .i64 0, .int .i64 0, .slice none 0 0] hb.size, fun h _ => by have := (h4.out (by simpa using h)).2.2.lt; omega⟩
    | 6, ho =>
      simp only [List.getElem?_toArray, List.getElem?_cons_zero, List.getElem?_cons_succ, Option.some.injEq] at ho
      subst ho
      clear hcl
      have q0 : L 4 = true := hp.out ⟨4, .data⟩ (by simp) rfl
      have q1 : L 1 = true := hp.out ⟨1, .data⟩ (by simp) rfl
      have ho := h4.out q0
      rw [hL.out] at ho
      simp only [pick] at ho
      obtain rfl := ho.2.1
      obtain rfl := h1.out q1
      have l1 := ho.1
      have e0 := ho.2.2.cell 0
      have e1 := ho.2.2.cell 1
      have e2 := ho.2.2.cell 2
      have r0 := ho.2.2.frozen 0
      have r1 := ho.2.2.frozen 1
      have r2 := ho.2.2.frozen 2
      simp only [List.getElem?_toArray, List.getElem?_cons_zero, List.getElem?_cons_succ] at e0 e1 e2
      have HO := Lib.hid ho
      have Q0 := Lib.hid q0
      have Q1 := Lib.hid q1
      clear ho q0 q1
      go_wp2
      exact ⟨_, _, _, _, _, _, gp, gq, rfl, below_set (below_set (below_set hb l1) l1) l1, fun h => h0.out (by simpa using h), fun h => h2.out (by simpa using h), fun _ => rfl, fun h => h3.out (by simpa using h), fun _ => by simpa [pick] using HO.out.set3 _ _ _, fun h => by simpa using (h5.out (by simpa using h)).far3 (Ne.symm (h45.out Q0.out (by simpa using h))) _ _ _, fun h h' => h45.out (by simpa using h) (by simpa using h')⟩
    | 7, ho =>
      simp only [List.getElem?_toArray, List.getElem?_cons_zero, List.getElem?_cons_succ, Option.some.injEq] at ho
      subst ho
      clear hcl
      have q0 : L 5 = true := hp.out ⟨5, .data⟩ (by simp) rfl
      have q1 : L 3 = true := hp.out ⟨3, .data⟩ (by simp) rfl
      have ho := h5.out q0
      rw [hL.out] at ho
      simp only [pick] at ho
      obtain rfl := ho.2.1
      obtain rfl := h3.out q1
      have l1 := ho.1
      have e0 := ho.2.2.cell 0
      have e1 := ho.2.2.cell 1
      have e2 := ho.2.2.cell 2
      have r0 := ho.2.2.frozen 0
      have r1 := ho.2.2.frozen 1
      have r2 := ho.2.2.frozen 2
      simp only [List.getElem?_toArray, List.getElem?_cons_zero, List.getElem?_cons_succ] at e0 e1 e2
      have HO := Lib.hid ho
      have Q0 := Lib.hid q0
      have Q1 := Lib.hid q1
      clear ho q0 q1
      go_wp2
      exact ⟨_, _, _, _, _, _, gp, gq, rfl, below_set (below_set (below_set hb l1) l1) l1, fun h => h0.out (by simpa using h), fun h => h2.out (by simpa using h), fun h => h1.out (by simpa using h), fun _ => rfl, fun h => by simpa using (h4.out (by simpa using h)).far3 (h45.out (by simpa using h) Q0.out) _ _ _, fun _ => by simpa [pick] using HO.out.set3 _ _ _, fun h h' => h45.out (by simpa using h) (by simpa using h')⟩
    | i + 8, ho => simp at ho
  case fin =>
    rintro L a wx ⟨vp, vq, x0, y0, x1, y1, gp, gq, rfl, hb, h0, h2, h1, h3, h4, h5, h45⟩ hall
    have q0 := hall 0 (by decide)
    have q1 := hall 1 (by decide)
    have q2 := hall 2 (by decide)
    have q3 := hall 3 (by decide)
    have q4 := hall 4 (by decide)
    have q5 := hall 5 (by decide)
    have q6 := hall 6 (by decide)
    have q7 := hall 7 (by decide)
    obtain rfl := h0 q0
    obtain rfl := h1 q1
    obtain rfl := h2 q2
    obtain rfl := h3 q3
    have hp := h4 q4
    have hq := h5 q5
    have hne := h45 q4 q5
    rw [q6] at hp
    rw [q7] at hq
    obtain rfl := hp.2.1
    obtain rfl := hq.2.1
    have ep0 := hp.2.2.cell 0
    have ep1 := hp.2.2.cell 1
    have ep2 := hp.2.2.cell 2
    have eq0 := hq.2.2.cell 0
    have eq1 := hq.2.2.cell 1
    have eq2 := hq.2.2.cell 2
    simp only [pick, List.getElem?_toArray, List.getElem?_cons_zero, List.getElem?_cons_succ] at ep0 ep1 ep2 eq0 eq1 eq2
    have lp := hp.2.2.lt
    have lq := hq.2.2.lt
    have lp' := hp.1
    have lq' := hq.1
    clear h0 h1 h2 h3 h4 h5 h45 q0 q1 q2 q3 q4 q5 q6 q7 hall hp hq L
    -- behind the region
    have hbwx : Below w.heap.size w wx := hbW.trans (hb.mono hbW.size)
    have m0 : wx.cell? ⟨w.heap.size, 0, none⟩ = some (.int .i64 k) := ((bcell hb).1 _ _ l0).trans b0
    have m1 : wx.cell? ⟨w.heap.size, 1, none⟩ = some (.int .i64 p) := ((bcell hb).1 _ _ l0).trans b1
    have bR := BR.out.below hb l1
    have s0 := bR.cell 0
    have s1 := bR.cell 1
    have s2 := bR.cell 2
    have z0 := bR.frozen 0
    have z1 := bR.frozen 1
    have z2 := bR.frozen 2
    simp only [List.getElem?_toArray, List.getElem?_cons_zero, List.getElem?_cons_succ] at s0 s1 s2
    have l0' : w.heap.size < wx.heap.size := Nat.lt_of_lt_of_le l0 hb.size
    have l1' : w.heap.size + 1 < wx.heap.size := Nat.lt_of_lt_of_le l1 hb.size
    have np : gp ≠ w.heap.size + 1 := by omega
    have nq : gq ≠ w.heap.size + 1 := by omega
    have HB := Lib.hid hb
    have HR := Lib.hid bR
    clear b0 b1 b2 l0 l1 BR hb bR hbW HC0 HC1 hne
    cases t with
    | tt =>
      obtain rfl : k = 0 := HK.out
      cases dn
      · go_wp2_with fail
        obtain ⟨e0, e1, e2⟩ := set3 (HR.out.call (Below.refl _ _)) (.int .i64 0) (.int .i64 0) (.slice none 0 0)
        refine bodyPost_ret (v := .agg #[.int .i64 0, .int .i64 0, .slice none 0 0]) (by simp [results, Try.results16, go_sem, e0, e1, e2]) rfl ?_
        exact ret_ltl (g := T.tt.ltl) HS.out hbwx l1' (Below.refl _ _) (leaf_is _ _ _ _)
      · go_wp2_with fail
        obtain ⟨e0, e1, e2⟩ := set3 (HR.out.call (Below.refl _ _)) (.int .i64 1) (.int .i64 0) (.slice none 0 0)
        refine bodyPost_ret (v := .agg #[.int .i64 1, .int .i64 0, .slice none 0 0]) (by simp [results, Try.results16, go_sem, e0, e1, e2]) rfl ?_
        exact ret_ltl (g := T.ff.ltl) HS.out hbwx l1' (Below.refl _ _) (leaf_is _ _ _ _)
    | ff =>
      obtain ⟨q0, q2, q3, q4, q5, q7, q8, q9, q10, q11, q12⟩ : _ ∧ _ := HK.out
      have r0 : (k == 0) = false := by simpa using q0
      have r2 : (k == 2) = false := by simpa using q2
      have r3 : (k == 3) = false := by simpa using q3
      have r4 : (k == 4) = false := by simpa using q4
      have r5 : (k == 5) = false := by simpa using q5
      have r7 : (k == 7) = false := by simpa using q7
      have r8 : (k == 8) = false := by simpa using q8
      have r9 : (k == 9) = false := by simpa using q9
      have r10 : (k == 10) = false := by simpa using q10
      have r11 : (k == 11) = false := by simpa using q11
      have r12 : (k == 12) = false := by simpa using q12
      clear q0 q2 q3 q4 q5 q7 q8 q9 q10 q11 q12
      cases dn
      · go_wp2_with fail
        obtain ⟨e0, e1, e2⟩ := set3 (HR.out.call (Below.refl _ _)) (.int .i64 1) (.int .i64 0) (.slice none 0 0)
        refine bodyPost_ret (v := .agg #[.int .i64 1, .int .i64 0, .slice none 0 0]) (by simp [results, Try.results16, go_sem, e0, e1, e2]) rfl ?_
        exact ret_ltl (g := T.ff.ltl) HS.out hbwx l1' (Below.refl _ _) (leaf_is _ _ _ _)
      · go_wp2_with fail
        obtain ⟨e0, e1, e2⟩ := set3 (HR.out.call (Below.refl _ _)) (.int .i64 0) (.int .i64 0) (.slice none 0 0)
        refine bodyPost_ret (v := .agg #[.int .i64 0, .int .i64 0, .slice none 0 0]) (by simp [results, Try.results16, go_sem, e0, e1, e2]) rfl ?_
        exact ret_ltl (g := T.tt.ltl) HS.out hbwx l1' (Below.refl _ _) (leaf_is _ _ _ _)
    | not a =>
      obtain ⟨rfl, hn0⟩ : k = 3 ∧ f0.norm = a := HK.out
      have P0 := Lib.hid (fun (dn : Bool) (wy : World) (hy : Below wx.heap.size wx wy) => HI.out a (by have := HT.out; simp only [T.wt] at this ⊢; omega) f0 _ _ A0 n0 c0 dn wy S (HS.out.call ((hbwx.trans (hy.mono hbwx.size)).size)) hn0 (H0.out.call HS.out (hbwx.trans (hy.mono hbwx.size))))
      clear HI HT HK hn0
      go_wp2_with ((go_at_call_of 16 (Value.int .i64 (Ltl.kind f0)); refine (P0.out _ _ ?_).mono ?_; (first | with_reducible exact Below.refl _ _ | with_reducible exact (Below.refl _ _).drew | with_reducible exact hb0); rintro e w1 ⟨B0, m0, d0, rfl, hi0, hb0⟩); obtain ⟨hc0, hf0⟩ := bcell hb0)
      obtain ⟨e0, e1, e2⟩ := set3 (HR.out.call hb0) (.int .i64 (a.plain !dn).ltl.kind) (.int .i64 (a.plain !dn).ltl.prop) (.slice B0 m0 d0)
      refine bodyPost_ret (v := .agg #[.int .i64 (a.plain !dn).ltl.kind, .int .i64 (a.plain !dn).ltl.prop, .slice B0 m0 d0]) (by simp [results, Try.results16, go_sem, e0, e1, e2]) rfl ?_
      exact ret_ltl (g := (a.plain !dn).ltl) HS.out hbwx l1' hb0 hi0
    | next a =>
      obtain ⟨rfl, hn0⟩ : k = 8 ∧ f0.norm = a := HK.out
      have P0 := Lib.hid (fun (dn : Bool) (wy : World) (hy : Below wx.heap.size wx wy) => HI.out a (by have := HT.out; simp only [T.wt] at this ⊢; omega) f0 _ _ A0 n0 c0 dn wy S (HS.out.call ((hbwx.trans (hy.mono hbwx.size)).size)) hn0 (H0.out.call HS.out (hbwx.trans (hy.mono hbwx.size))))
      clear HI HT HK hn0
      go_wp2_with ((go_at_call_of 16 (Value.int .i64 (Ltl.kind f0)); refine (P0.out _ _ ?_).mono ?_; (first | with_reducible exact Below.refl _ _ | with_reducible exact (Below.refl _ _).drew | with_reducible exact hb0); rintro e w1 ⟨B0, m0, d0, rfl, hi0, hb0⟩); obtain ⟨hc0, hf0⟩ := bcell hb0; have hl1 := Nat.lt_of_lt_of_le l1' hb0.size)
      rw [alloc_set3 hl1]
      obtain ⟨e0, e1, e2⟩ := set3 (HR.out.call (below_call hb0 (below_one _ (.cells #[.int .i64 (a.plain dn).ltl.kind, .int .i64 (a.plain dn).ltl.prop, .slice B0 m0 d0] 24)))) (.int .i64 8) (.int .i64 0) (.slice (some ⟨w1.heap.size, 0, none⟩) 1 1)
      refine bodyPost_ret (v := .agg #[.int .i64 8, .int .i64 0, .slice (some ⟨w1.heap.size, 0, none⟩) 1 1]) (by simp [results, Try.results16, go_sem, e0, e1, e2]) rfl ?_
      exact ret_ltl (g := (T.next (a.plain dn)).ltl) HS.out hbwx l1' (below_call hb0 (below_one _ (.cells #[.int .i64 (a.plain dn).ltl.kind, .int .i64 (a.plain dn).ltl.prop, .slice B0 m0 d0] 24))) (Ltl.Is.ext2 (one_is 8 (a.plain dn).ltl _ _ _ w1 _ (Ext S wx w1) _ ((HS.out.call hbwx.size).ext hb0.size) hi0 (below_one _ _) (Nat.le_refl _) (Blk.new _ _ _)) hb0.size (by simp))
    | and a b =>
      obtain ⟨rfl, hn0, hn1⟩ : k = 4 ∧ f0.norm = a ∧ f1.norm = b := HK.out
      have P0 := Lib.hid (fun (dn : Bool) (wy : World) (hy : Below wx.heap.size wx wy) => HI.out a (by have := HT.out; simp only [T.wt] at this ⊢; omega) f0 _ _ A0 n0 c0 dn wy S (HS.out.call ((hbwx.trans (hy.mono hbwx.size)).size)) hn0 (H0.out.call HS.out (hbwx.trans (hy.mono hbwx.size))))
      have P1 := Lib.hid (fun (dn : Bool) (wy : World) (hy : Below wx.heap.size wx wy) => HI.out b (by have := HT.out; simp only [T.wt] at this ⊢; omega) f1 _ _ A1 n1 c1 dn wy S (HS.out.call ((hbwx.trans (hy.mono hbwx.size)).size)) hn1 (H1.out.call HS.out (hbwx.trans (hy.mono hbwx.size))))
      clear HI HT HK hn0 hn1
      have hw1 : IntKind.i64.wrap (9 - 4) = 5 := by decide
      have hw2 : IntKind.i64.wrap 5 = 5 := by decide
      cases dn
      · go_wp2_with fail
        go_region_held3 (fun w' => (∀ b o, b < wx.heap.size → b ≠ w.heap.size + 1 → w'.cell? ⟨b, o, none⟩ = wx.cell? ⟨b, o, none⟩))
          (first | with_reducible exact kd_ | with_reducible exact kb_ hb0 | with_reducible exact kb_ hbb | with_reducible exact kb_ hbc | with_reducible exact st3 (kb_ hbc))
          (first | (go_at_call_of 16 (Value.int .i64 (Ltl.kind f0)); refine (P0.out _ _ ?_).mono ?_; (first | with_reducible exact Below.refl _ _ | with_reducible exact (Below.refl _ _).drew | with_reducible exact hb0); rintro e w1 ⟨B0, m0, d0, rfl, hi0, hb0⟩; have hb0 := below_undrew hb0; have hi0 := hi0.undrew) | (go_at_call_of 16 (Value.int .i64 (Ltl.kind f1)); refine (P1.out _ _ ?_).mono ?_; (first | with_reducible exact Below.refl _ _ | with_reducible exact (Below.refl _ _).drew | with_reducible exact hb0); rintro e w2 ⟨B1, m1, d1, rfl, hi1, hb1⟩; have hbb := below_call hb0 hb1) | (go_at_call 38; refine (rtwo_any _ (a.plain false).ltl (b.plain false).ltl _ _ _ _ _ _ _ (Ext S wx w2) ?_ ?_ ?_).mono ?_; (exact ((HS.out.call hbwx.size).ext (Nat.le_trans hb0.size hb1.size))); (exact Ltl.Is.ext_mono (hi0.call ((HS.out.call hbwx.size).ext hb0.size) hb1) (Nat.le_refl _) hb1.size); (exact hi1.ext_mono hb0.size (Nat.le_refl _)); rintro e w3 ⟨B2, m2, d2, rfl, hi2, hb2⟩; have hbc := below_call hbb hb2; obtain ⟨hc0, hf0⟩ := bcell hbc))
        go_wp2
        have hi3 := Ltl.Is.ext2 hi2 (Nat.le_trans hb0.size hb1.size) hb2.size
        obtain ⟨e0, e1, e2⟩ := set3 (HR.out.call hbc) (.int .i64 (Ltl.mk 4 0 [(a.plain false).ltl, (b.plain false).ltl]).kind) (.int .i64 (Ltl.mk 4 0 [(a.plain false).ltl, (b.plain false).ltl]).prop) (.slice B2 m2 d2)
        refine bodyPost_ret (v := .agg #[.int .i64 (Ltl.mk 4 0 [(a.plain false).ltl, (b.plain false).ltl]).kind, .int .i64 (Ltl.mk 4 0 [(a.plain false).ltl, (b.plain false).ltl]).prop, .slice B2 m2 d2]) (by simp [results, Try.results16, go_sem, e0, e1, e2]) rfl ?_
        exact ret_ltl (g := (Ltl.mk 4 0 [(a.plain false).ltl, (b.plain false).ltl])) HS.out hbwx l1' hbc hi3
      · go_wp2_with fail
        go_region_held3 (fun w' => (∀ b o, b < wx.heap.size → b ≠ w.heap.size + 1 → w'.cell? ⟨b, o, none⟩ = wx.cell? ⟨b, o, none⟩))
          (first | with_reducible exact kd_ | with_reducible exact kb_ hb0 | with_reducible exact kb_ hbb | with_reducible exact kb_ hbc | with_reducible exact st3 (kb_ hbc))
          (first | (go_at_call_of 16 (Value.int .i64 (Ltl.kind f0)); refine (P0.out _ _ ?_).mono ?_; (first | with_reducible exact Below.refl _ _ | with_reducible exact (Below.refl _ _).drew | with_reducible exact hb0); rintro e w1 ⟨B0, m0, d0, rfl, hi0, hb0⟩; have hb0 := below_undrew hb0; have hi0 := hi0.undrew) | (go_at_call_of 16 (Value.int .i64 (Ltl.kind f1)); refine (P1.out _ _ ?_).mono ?_; (first | with_reducible exact Below.refl _ _ | with_reducible exact (Below.refl _ _).drew | with_reducible exact hb0); rintro e w2 ⟨B1, m1, d1, rfl, hi1, hb1⟩; have hbb := below_call hb0 hb1) | (go_at_call 38; refine (rtwo_any _ (a.plain true).ltl (b.plain true).ltl _ _ _ _ _ _ _ (Ext S wx w2) ?_ ?_ ?_).mono ?_; (exact ((HS.out.call hbwx.size).ext (Nat.le_trans hb0.size hb1.size))); (exact Ltl.Is.ext_mono (hi0.call ((HS.out.call hbwx.size).ext hb0.size) hb1) (Nat.le_refl _) hb1.size); (exact hi1.ext_mono hb0.size (Nat.le_refl _)); rintro e w3 ⟨B2, m2, d2, rfl, hi2, hb2⟩; have hbc := below_call hbb hb2; obtain ⟨hc0, hf0⟩ := bcell hbc))
        go_wp2
        have hi3 := Ltl.Is.ext2 hi2 (Nat.le_trans hb0.size hb1.size) hb2.size
        obtain ⟨e0, e1, e2⟩ := set3 (HR.out.call hbc) (.int .i64 (Ltl.mk 5 0 [(a.plain true).ltl, (b.plain true).ltl]).kind) (.int .i64 (Ltl.mk 5 0 [(a.plain true).ltl, (b.plain true).ltl]).prop) (.slice B2 m2 d2)
        refine bodyPost_ret (v := .agg #[.int .i64 (Ltl.mk 5 0 [(a.plain true).ltl, (b.plain true).ltl]).kind, .int .i64 (Ltl.mk 5 0 [(a.plain true).ltl, (b.plain true).ltl]).prop, .slice B2 m2 d2]) (by simp [results, Try.results16, go_sem, e0, e1, e2]) rfl ?_
        exact ret_ltl (g := (Ltl.mk 5 0 [(a.plain true).ltl, (b.plain true).ltl])) HS.out hbwx l1' hbc hi3
    | or a b =>
      obtain ⟨rfl, hn0, hn1⟩ : k = 5 ∧ f0.norm = a ∧ f1.norm = b := HK.out
      have P0 := Lib.hid (fun (dn : Bool) (wy : World) (hy : Below wx.heap.size wx wy) => HI.out a (by have := HT.out; simp only [T.wt] at this ⊢; omega) f0 _ _ A0 n0 c0 dn wy S (HS.out.call ((hbwx.trans (hy.mono hbwx.size)).size)) hn0 (H0.out.call HS.out (hbwx.trans (hy.mono hbwx.size))))
      have P1 := Lib.hid (fun (dn : Bool) (wy : World) (hy : Below wx.heap.size wx wy) => HI.out b (by have := HT.out; simp only [T.wt] at this ⊢; omega) f1 _ _ A1 n1 c1 dn wy S (HS.out.call ((hbwx.trans (hy.mono hbwx.size)).size)) hn1 (H1.out.call HS.out (hbwx.trans (hy.mono hbwx.size))))
      clear HI HT HK hn0 hn1
      have hw1 : IntKind.i64.wrap (9 - 5) = 4 := by decide
      have hw2 : IntKind.i64.wrap 4 = 4 := by decide
      cases dn
      · go_wp2_with fail
        go_region_held3 (fun w' => (∀ b o, b < wx.heap.size → b ≠ w.heap.size + 1 → w'.cell? ⟨b, o, none⟩ = wx.cell? ⟨b, o, none⟩))
          (first | with_reducible exact kd_ | with_reducible exact kb_ hb0 | with_reducible exact kb_ hbb | with_reducible exact kb_ hbc | with_reducible exact st3 (kb_ hbc))
          (first | (go_at_call_of 16 (Value.int .i64 (Ltl.kind f0)); refine (P0.out _ _ ?_).mono ?_; (first | with_reducible exact Below.refl _ _ | with_reducible exact (Below.refl _ _).drew | with_reducible exact hb0); rintro e w1 ⟨B0, m0, d0, rfl, hi0, hb0⟩; have hb0 := below_undrew hb0; have hi0 := hi0.undrew) | (go_at_call_of 16 (Value.int .i64 (Ltl.kind f1)); refine (P1.out _ _ ?_).mono ?_; (first | with_reducible exact Below.refl _ _ | with_reducible exact (Below.refl _ _).drew | with_reducible exact hb0); rintro e w2 ⟨B1, m1, d1, rfl, hi1, hb1⟩; have hbb := below_call hb0 hb1) | (go_at_call 38; refine (rtwo_any _ (a.plain false).ltl (b.plain false).ltl _ _ _ _ _ _ _ (Ext S wx w2) ?_ ?_ ?_).mono ?_; (exact ((HS.out.call hbwx.size).ext (Nat.le_trans hb0.size hb1.size))); (exact Ltl.Is.ext_mono (hi0.call ((HS.out.call hbwx.size).ext hb0.size) hb1) (Nat.le_refl _) hb1.size); (exact hi1.ext_mono hb0.size (Nat.le_refl _)); rintro e w3 ⟨B2, m2, d2, rfl, hi2, hb2⟩; have hbc := below_call hbb hb2; obtain ⟨hc0, hf0⟩ := bcell hbc))
        go_wp2
        have hi3 := Ltl.Is.ext2 hi2 (Nat.le_trans hb0.size hb1.size) hb2.size
        obtain ⟨e0, e1, e2⟩ := set3 (HR.out.call hbc) (.int .i64 (Ltl.mk 5 0 [(a.plain false).ltl, (b.plain false).ltl]).kind) (.int .i64 (Ltl.mk 5 0 [(a.plain false).ltl, (b.plain false).ltl]).prop) (.slice B2 m2 d2)
        refine bodyPost_ret (v := .agg #[.int .i64 (Ltl.mk 5 0 [(a.plain false).ltl, (b.plain false).ltl]).kind, .int .i64 (Ltl.mk 5 0 [(a.plain false).ltl, (b.plain false).ltl]).prop, .slice B2 m2 d2]) (by simp [results, Try.results16, go_sem, e0, e1, e2]) rfl ?_
        exact ret_ltl (g := (Ltl.mk 5 0 [(a.plain false).ltl, (b.plain false).ltl])) HS.out hbwx l1' hbc hi3
      · go_wp2_with fail
        go_region_held3 (fun w' => (∀ b o, b < wx.heap.size → b ≠ w.heap.size + 1 → w'.cell? ⟨b, o, none⟩ = wx.cell? ⟨b, o, none⟩))
          (first | with_reducible exact kd_ | with_reducible exact kb_ hb0 | with_reducible exact kb_ hbb | with_reducible exact kb_ hbc | with_reducible exact st3 (kb_ hbc))
          (first | (go_at_call_of 16 (Value.int .i64 (Ltl.kind f0)); refine (P0.out _ _ ?_).mono ?_; (first | with_reducible exact Below.refl _ _ | with_reducible exact (Below.refl _ _).drew | with_reducible exact hb0); rintro e w1 ⟨B0, m0, d0, rfl, hi0, hb0⟩; have hb0 := below_undrew hb0; have hi0 := hi0.undrew) | (go_at_call_of 16 (Value.int .i64 (Ltl.kind f1)); refine (P1.out _ _ ?_).mono ?_; (first | with_reducible exact Below.refl _ _ | with_reducible exact (Below.refl _ _).drew | with_reducible exact hb0); rintro e w2 ⟨B1, m1, d1, rfl, hi1, hb1⟩; have hbb := below_call hb0 hb1) | (go_at_call 38; refine (rtwo_any _ (a.plain true).ltl (b.plain true).ltl _ _ _ _ _ _ _ (Ext S wx w2) ?_ ?_ ?_).mono ?_; (exact ((HS.out.call hbwx.size).ext (Nat.le_trans hb0.size hb1.size))); (exact Ltl.Is.ext_mono (hi0.call ((HS.out.call hbwx.size).ext hb0.size) hb1) (Nat.le_refl _) hb1.size); (exact hi1.ext_mono hb0.size (Nat.le_refl _)); rintro e w3 ⟨B2, m2, d2, rfl, hi2, hb2⟩; have hbc := below_call hbb hb2; obtain ⟨hc0, hf0⟩ := bcell hbc))
        go_wp2
        have hi3 := Ltl.Is.ext2 hi2 (Nat.le_trans hb0.size hb1.size) hb2.size
        obtain ⟨e0, e1, e2⟩ := set3 (HR.out.call hbc) (.int .i64 (Ltl.mk 4 0 [(a.plain true).ltl, (b.plain true).ltl]).kind) (.int .i64 (Ltl.mk 4 0 [(a.plain true).ltl, (b.plain true).ltl]).prop) (.slice B2 m2 d2)
        refine bodyPost_ret (v := .agg #[.int .i64 (Ltl.mk 4 0 [(a.plain true).ltl, (b.plain true).ltl]).kind, .int .i64 (Ltl.mk 4 0 [(a.plain true).ltl, (b.plain true).ltl]).prop, .slice B2 m2 d2]) (by simp [results, Try.results16, go_sem, e0, e1, e2]) rfl ?_
        exact ret_ltl (g := (Ltl.mk 4 0 [(a.plain true).ltl, (b.plain true).ltl])) HS.out hbwx l1' hbc hi3
    | until_ a b =>
      obtain ⟨rfl, hn0, hn1⟩ : k = 11 ∧ f0.norm = a ∧ f1.norm = b := HK.out
      have P0 := Lib.hid (fun (dn : Bool) (wy : World) (hy : Below wx.heap.size wx wy) => HI.out a (by have := HT.out; simp only [T.wt] at this ⊢; omega) f0 _ _ A0 n0 c0 dn wy S (HS.out.call ((hbwx.trans (hy.mono hbwx.size)).size)) hn0 (H0.out.call HS.out (hbwx.trans (hy.mono hbwx.size))))
      have P1 := Lib.hid (fun (dn : Bool) (wy : World) (hy : Below wx.heap.size wx wy) => HI.out b (by have := HT.out; simp only [T.wt] at this ⊢; omega) f1 _ _ A1 n1 c1 dn wy S (HS.out.call ((hbwx.trans (hy.mono hbwx.size)).size)) hn1 (H1.out.call HS.out (hbwx.trans (hy.mono hbwx.size))))
      clear HI HT HK hn0 hn1
      have hw1 : IntKind.i64.wrap (23 - 11) = 12 := by decide
      have hw2 : IntKind.i64.wrap 12 = 12 := by decide
      cases dn
      · go_wp2_with fail
        go_region_held3 (fun w' => (∀ b o, b < wx.heap.size → b ≠ w.heap.size + 1 → w'.cell? ⟨b, o, none⟩ = wx.cell? ⟨b, o, none⟩))
          (first | with_reducible exact kd_ | with_reducible exact kb_ hb0 | with_reducible exact kb_ hbb | with_reducible exact kb_ hbc | with_reducible exact st3 (kb_ hbc))
          (first | (go_at_call_of 16 (Value.int .i64 (Ltl.kind f0)); refine (P0.out _ _ ?_).mono ?_; (first | with_reducible exact Below.refl _ _ | with_reducible exact (Below.refl _ _).drew | with_reducible exact hb0); rintro e w1 ⟨B0, m0, d0, rfl, hi0, hb0⟩; have hb0 := below_undrew hb0; have hi0 := hi0.undrew) | (go_at_call_of 16 (Value.int .i64 (Ltl.kind f1)); refine (P1.out _ _ ?_).mono ?_; (first | with_reducible exact Below.refl _ _ | with_reducible exact (Below.refl _ _).drew | with_reducible exact hb0); rintro e w2 ⟨B1, m1, d1, rfl, hi1, hb1⟩; have hbb := below_call hb0 hb1) | (go_at_call 38; refine (rtwo_any _ (a.plain false).ltl (b.plain false).ltl _ _ _ _ _ _ _ (Ext S wx w2) ?_ ?_ ?_).mono ?_; (exact ((HS.out.call hbwx.size).ext (Nat.le_trans hb0.size hb1.size))); (exact Ltl.Is.ext_mono (hi0.call ((HS.out.call hbwx.size).ext hb0.size) hb1) (Nat.le_refl _) hb1.size); (exact hi1.ext_mono hb0.size (Nat.le_refl _)); rintro e w3 ⟨B2, m2, d2, rfl, hi2, hb2⟩; have hbc := below_call hbb hb2; obtain ⟨hc0, hf0⟩ := bcell hbc))
        go_wp2
        have hi3 := Ltl.Is.ext2 hi2 (Nat.le_trans hb0.size hb1.size) hb2.size
        obtain ⟨e0, e1, e2⟩ := set3 (HR.out.call hbc) (.int .i64 (Ltl.mk 11 0 [(a.plain false).ltl, (b.plain false).ltl]).kind) (.int .i64 (Ltl.mk 11 0 [(a.plain false).ltl, (b.plain false).ltl]).prop) (.slice B2 m2 d2)
        refine bodyPost_ret (v := .agg #[.int .i64 (Ltl.mk 11 0 [(a.plain false).ltl, (b.plain false).ltl]).kind, .int .i64 (Ltl.mk 11 0 [(a.plain false).ltl, (b.plain false).ltl]).prop, .slice B2 m2 d2]) (by simp [results, Try.results16, go_sem, e0, e1, e2]) rfl ?_
        exact ret_ltl (g := (Ltl.mk 11 0 [(a.plain false).ltl, (b.plain false).ltl])) HS.out hbwx l1' hbc hi3
      · go_wp2_with fail
        go_region_held3 (fun w' => (∀ b o, b < wx.heap.size → b ≠ w.heap.size + 1 → w'.cell? ⟨b, o, none⟩ = wx.cell? ⟨b, o, none⟩))
          (first | with_reducible exact kd_ | with_reducible exact kb_ hb0 | with_reducible exact kb_ hbb | with_reducible exact kb_ hbc | with_reducible exact st3 (kb_ hbc))
          (first | (go_at_call_of 16 (Value.int .i64 (Ltl.kind f0)); refine (P0.out _ _ ?_).mono ?_; (first | with_reducible exact Below.refl _ _ | with_reducible exact (Below.refl _ _).drew | with_reducible exact hb0); rintro e w1 ⟨B0, m0, d0, rfl, hi0, hb0⟩; have hb0 := below_undrew hb0; have hi0 := hi0.undrew) | (go_at_call_of 16 (Value.int .i64 (Ltl.kind f1)); refine (P1.out _ _ ?_).mono ?_; (first | with_reducible exact Below.refl _ _ | with_reducible exact (Below.refl _ _).drew | with_reducible exact hb0); rintro e w2 ⟨B1, m1, d1, rfl, hi1, hb1⟩; have hbb := below_call hb0 hb1) | (go_at_call 38; refine (rtwo_any _ (a.plain true).ltl (b.plain true).ltl _ _ _ _ _ _ _ (Ext S wx w2) ?_ ?_ ?_).mono ?_; (exact ((HS.out.call hbwx.size).ext (Nat.le_trans hb0.size hb1.size))); (exact Ltl.Is.ext_mono (hi0.call ((HS.out.call hbwx.size).ext hb0.size) hb1) (Nat.le_refl _) hb1.size); (exact hi1.ext_mono hb0.size (Nat.le_refl _)); rintro e w3 ⟨B2, m2, d2, rfl, hi2, hb2⟩; have hbc := below_call hbb hb2; obtain ⟨hc0, hf0⟩ := bcell hbc))
        go_wp2
        have hi3 := Ltl.Is.ext2 hi2 (Nat.le_trans hb0.size hb1.size) hb2.size
        obtain ⟨e0, e1, e2⟩ := set3 (HR.out.call hbc) (.int .i64 (Ltl.mk 12 0 [(a.plain true).ltl, (b.plain true).ltl]).kind) (.int .i64 (Ltl.mk 12 0 [(a.plain true).ltl, (b.plain true).ltl]).prop) (.slice B2 m2 d2)
        refine bodyPost_ret (v := .agg #[.int .i64 (Ltl.mk 12 0 [(a.plain true).ltl, (b.plain true).ltl]).kind, .int .i64 (Ltl.mk 12 0 [(a.plain true).ltl, (b.plain true).ltl]).prop, .slice B2 m2 d2]) (by simp [results, Try.results16, go_sem, e0, e1, e2]) rfl ?_
        exact ret_ltl (g := (Ltl.mk 12 0 [(a.plain true).ltl, (b.plain true).ltl])) HS.out hbwx l1' hbc hi3
    | free a b =>
      obtain ⟨rfl, hn0, hn1⟩ : k = 12 ∧ f0.norm = a ∧ f1.norm = b := HK.out
      have P0 := Lib.hid (fun (dn : Bool) (wy : World) (hy : Below wx.heap.size wx wy) => HI.out a (by have := HT.out; simp only [T.wt] at this ⊢; omega) f0 _ _ A0 n0 c0 dn wy S (HS.out.call ((hbwx.trans (hy.mono hbwx.size)).size)) hn0 (H0.out.call HS.out (hbwx.trans (hy.mono hbwx.size))))
      have P1 := Lib.hid (fun (dn : Bool) (wy : World) (hy : Below wx.heap.size wx wy) => HI.out b (by have := HT.out; simp only [T.wt] at this ⊢; omega) f1 _ _ A1 n1 c1 dn wy S (HS.out.call ((hbwx.trans (hy.mono hbwx.size)).size)) hn1 (H1.out.call HS.out (hbwx.trans (hy.mono hbwx.size))))
      clear HI HT HK hn0 hn1
      have hw1 : IntKind.i64.wrap (23 - 12) = 11 := by decide
      have hw2 : IntKind.i64.wrap 11 = 11 := by decide
      cases dn
      · go_wp2_with fail
        go_region_held3 (fun w' => (∀ b o, b < wx.heap.size → b ≠ w.heap.size + 1 → w'.cell? ⟨b, o, none⟩ = wx.cell? ⟨b, o, none⟩))
          (first | with_reducible exact kd_ | with_reducible exact kb_ hb0 | with_reducible exact kb_ hbb | with_reducible exact kb_ hbc | with_reducible exact st3 (kb_ hbc))
          (first | (go_at_call_of 16 (Value.int .i64 (Ltl.kind f0)); refine (P0.out _ _ ?_).mono ?_; (first | with_reducible exact Below.refl _ _ | with_reducible exact (Below.refl _ _).drew | with_reducible exact hb0); rintro e w1 ⟨B0, m0, d0, rfl, hi0, hb0⟩; have hb0 := below_undrew hb0; have hi0 := hi0.undrew) | (go_at_call_of 16 (Value.int .i64 (Ltl.kind f1)); refine (P1.out _ _ ?_).mono ?_; (first | with_reducible exact Below.refl _ _ | with_reducible exact (Below.refl _ _).drew | with_reducible exact hb0); rintro e w2 ⟨B1, m1, d1, rfl, hi1, hb1⟩; have hbb := below_call hb0 hb1) | (go_at_call 38; refine (rtwo_any _ (a.plain false).ltl (b.plain false).ltl _ _ _ _ _ _ _ (Ext S wx w2) ?_ ?_ ?_).mono ?_; (exact ((HS.out.call hbwx.size).ext (Nat.le_trans hb0.size hb1.size))); (exact Ltl.Is.ext_mono (hi0.call ((HS.out.call hbwx.size).ext hb0.size) hb1) (Nat.le_refl _) hb1.size); (exact hi1.ext_mono hb0.size (Nat.le_refl _)); rintro e w3 ⟨B2, m2, d2, rfl, hi2, hb2⟩; have hbc := below_call hbb hb2; obtain ⟨hc0, hf0⟩ := bcell hbc))
        go_wp2
        have hi3 := Ltl.Is.ext2 hi2 (Nat.le_trans hb0.size hb1.size) hb2.size
        obtain ⟨e0, e1, e2⟩ := set3 (HR.out.call hbc) (.int .i64 (Ltl.mk 12 0 [(a.plain false).ltl, (b.plain false).ltl]).kind) (.int .i64 (Ltl.mk 12 0 [(a.plain false).ltl, (b.plain false).ltl]).prop) (.slice B2 m2 d2)
        refine bodyPost_ret (v := .agg #[.int .i64 (Ltl.mk 12 0 [(a.plain false).ltl, (b.plain false).ltl]).kind, .int .i64 (Ltl.mk 12 0 [(a.plain false).ltl, (b.plain false).ltl]).prop, .slice B2 m2 d2]) (by simp [results, Try.results16, go_sem, e0, e1, e2]) rfl ?_
        exact ret_ltl (g := (Ltl.mk 12 0 [(a.plain false).ltl, (b.plain false).ltl])) HS.out hbwx l1' hbc hi3
      · go_wp2_with fail
        go_region_held3 (fun w' => (∀ b o, b < wx.heap.size → b ≠ w.heap.size + 1 → w'.cell? ⟨b, o, none⟩ = wx.cell? ⟨b, o, none⟩))
          (first | with_reducible exact kd_ | with_reducible exact kb_ hb0 | with_reducible exact kb_ hbb | with_reducible exact kb_ hbc | with_reducible exact st3 (kb_ hbc))
          (first | (go_at_call_of 16 (Value.int .i64 (Ltl.kind f0)); refine (P0.out _ _ ?_).mono ?_; (first | with_reducible exact Below.refl _ _ | with_reducible exact (Below.refl _ _).drew | with_reducible exact hb0); rintro e w1 ⟨B0, m0, d0, rfl, hi0, hb0⟩; have hb0 := below_undrew hb0; have hi0 := hi0.undrew) | (go_at_call_of 16 (Value.int .i64 (Ltl.kind f1)); refine (P1.out _ _ ?_).mono ?_; (first | with_reducible exact Below.refl _ _ | with_reducible exact (Below.refl _ _).drew | with_reducible exact hb0); rintro e w2 ⟨B1, m1, d1, rfl, hi1, hb1⟩; have hbb := below_call hb0 hb1) | (go_at_call 38; refine (rtwo_any _ (a.plain true).ltl (b.plain true).ltl _ _ _ _ _ _ _ (Ext S wx w2) ?_ ?_ ?_).mono ?_; (exact ((HS.out.call hbwx.size).ext (Nat.le_trans hb0.size hb1.size))); (exact Ltl.Is.ext_mono (hi0.call ((HS.out.call hbwx.size).ext hb0.size) hb1) (Nat.le_refl _) hb1.size); (exact hi1.ext_mono hb0.size (Nat.le_refl _)); rintro e w3 ⟨B2, m2, d2, rfl, hi2, hb2⟩; have hbc := below_call hbb hb2; obtain ⟨hc0, hf0⟩ := bcell hbc))
        go_wp2
        have hi3 := Ltl.Is.ext2 hi2 (Nat.le_trans hb0.size hb1.size) hb2.size
        obtain ⟨e0, e1, e2⟩ := set3 (HR.out.call hbc) (.int .i64 (Ltl.mk 11 0 [(a.plain true).ltl, (b.plain true).ltl]).kind) (.int .i64 (Ltl.mk 11 0 [(a.plain true).ltl, (b.plain true).ltl]).prop) (.slice B2 m2 d2)
        refine bodyPost_ret (v := .agg #[.int .i64 (Ltl.mk 11 0 [(a.plain true).ltl, (b.plain true).ltl]).kind, .int .i64 (Ltl.mk 11 0 [(a.plain true).ltl, (b.plain true).ltl]).prop, .slice B2 m2 d2]) (by simp [results, Try.results16, go_sem, e0, e1, e2]) rfl ?_
        exact ret_ltl (g := (Ltl.mk 11 0 [(a.plain true).ltl, (b.plain true).ltl])) HS.out hbwx l1' hbc hi3
    | all a =>
      obtain ⟨rfl, hn0⟩ : k = 9 ∧ f0.norm = a := HK.out
      have hG : (Ltl.mk 12 0 [.mk 1 0 [], f0]).norm = T.free .ff a := by simp [Ltl.norm, Ltl.norms, T.build, hn0]
      have HG := Lib.hid hG
      have hrec := HI.out (T.free .ff a) (by have := HT.out; simp only [T.wt] at this ⊢; omega)
      have HREC := Lib.hid hrec
      clear HI HT HK hn0 hG hrec
      have hf0 := H0.out.call HS.out hbwx
      have HF := Lib.hid hf0
      clear hf0
      go_wp2_with (first
        | (go_at_call 38; refine (rtwo_any _ (.mk 1 0 []) f0 _ _ _ _ _ _ _ S ?_ ?_ ?_).mono ?_; (exact HS.out.call hbwx.size); (exact leaf_is _ _ _ _); (exact HF.out); rintro e w1 ⟨B0, m0, d0, rfl, hi0, hb0⟩)
        | (go_at_call 16; refine (HREC.out _ _ _ _ _ _ _ _ (Ext S wx w1) ?_ HG.out hi0).mono ?_; (exact (HS.out.call hbwx.size).ext hb0.size); rintro e w2 ⟨B1, m1, d1, rfl, hi1, hb1⟩; have hbc := below_call hb0 hb1; obtain ⟨hc0, hf0⟩ := bcell hbc))
      have hi3 := Ltl.Is.ext2 hi1 hb0.size hb1.size
      rw [show ((T.all a).plain dn).ltl = ((T.free .ff a).plain dn).ltl from by cases dn <;> rfl]
      obtain ⟨e0, e1, e2⟩ := set3 (HR.out.call hbc) (.int .i64 ((T.free .ff a).plain dn).ltl.kind) (.int .i64 ((T.free .ff a).plain dn).ltl.prop) (.slice B1 m1 d1)
      refine bodyPost_ret (v := .agg #[.int .i64 ((T.free .ff a).plain dn).ltl.kind, .int .i64 ((T.free .ff a).plain dn).ltl.prop, .slice B1 m1 d1]) (by simp [results, Try.results16, go_sem, e0, e1, e2]) rfl ?_
      exact ret_ltl (g := ((T.free .ff a).plain dn).ltl) HS.out hbwx l1' hbc hi3
    | some_ a =>
      obtain ⟨rfl, hn0⟩ : k = 10 ∧ f0.norm = a := HK.out
      have hG : (Ltl.mk 11 0 [.mk 0 0 [], f0]).norm = T.until_ .tt a := by simp [Ltl.norm, Ltl.norms, T.build, hn0]
      have HG := Lib.hid hG
      have hrec := HI.out (T.until_ .tt a) (by have := HT.out; simp only [T.wt] at this ⊢; omega)
      have HREC := Lib.hid hrec
      clear HI HT HK hn0 hG hrec
      have hf0 := H0.out.call HS.out hbwx
      have HF := Lib.hid hf0
      clear hf0
      go_wp2_with (first
        | (go_at_call 38; refine (rtwo_any _ (.mk 0 0 []) f0 _ _ _ _ _ _ _ S ?_ ?_ ?_).mono ?_; (exact HS.out.call hbwx.size); (exact leaf_is _ _ _ _); (exact HF.out); rintro e w1 ⟨B0, m0, d0, rfl, hi0, hb0⟩)
        | (go_at_call 16; refine (HREC.out _ _ _ _ _ _ _ _ (Ext S wx w1) ?_ HG.out hi0).mono ?_; (exact (HS.out.call hbwx.size).ext hb0.size); rintro e w2 ⟨B1, m1, d1, rfl, hi1, hb1⟩; have hbc := below_call hb0 hb1; obtain ⟨hc0, hf0⟩ := bcell hbc))
      have hi3 := Ltl.Is.ext2 hi1 hb0.size hb1.size
      rw [show ((T.some_ a).plain dn).ltl = ((T.until_ .tt a).plain dn).ltl from by cases dn <;> rfl]
      obtain ⟨e0, e1, e2⟩ := set3 (HR.out.call hbc) (.int .i64 ((T.until_ .tt a).plain dn).ltl.kind) (.int .i64 ((T.until_ .tt a).plain dn).ltl.prop) (.slice B1 m1 d1)
      refine bodyPost_ret (v := .agg #[.int .i64 ((T.until_ .tt a).plain dn).ltl.kind, .int .i64 ((T.until_ .tt a).plain dn).ltl.prop, .slice B1 m1 d1]) (by simp [results, Try.results16, go_sem, e0, e1, e2]) rfl ?_
      exact ret_ltl (g := ((T.until_ .tt a).plain dn).ltl) HS.out hbwx l1' hbc hi3
    | imp a b =>
      obtain ⟨rfl, hn0, hn1⟩ : k = 7 ∧ f0.norm = a ∧ f1.norm = b := HK.out
      have hG : (Ltl.mk 5 0 [.mk 3 0 [f0], f1]).norm = T.or (.not a) b := by simp [Ltl.norm, Ltl.norms, T.build, hn0, hn1]
      have HG := Lib.hid hG
      have hrec := HI.out (T.or (.not a) b) (by have := HT.out; simp only [T.wt] at this ⊢; omega)
      have HREC := Lib.hid hrec
      clear HI HT HK hn0 hn1 hG hrec
      have hf0 := H0.out.call HS.out hbwx
      have HF := Lib.hid hf0
      have hf1 := H1.out.call HS.out hbwx
      have HF1 := Lib.hid hf1
      clear hf0 hf1
      go_wp2_with fail
      go_region_held3 (fun w' => (∀ b o, b < wx.heap.size → b ≠ w.heap.size + 1 → w'.cell? ⟨b, o, none⟩ = wx.cell? ⟨b, o, none⟩))
        (first | with_reducible exact kd_ | with_reducible exact kb_ hb0 | with_reducible exact kb_ hbb | with_reducible exact kb_ hbc | with_reducible exact st3 (kb_ hbc))
        (first
        | (go_at_call 39; refine (rnot_any f0 _ _ _ _ S ?_ ?_).mono ?_; (exact HS.out.call hbwx.size); (exact HF.out.call (HS.out.call hbwx.size) (below_drew (Below.refl _ _))); rintro e w1 ⟨B0, m0, d0, rfl, hi0, hb0⟩; have hb0 := below_undrew hb0; have hi0 := hi0.undrew)
        | (go_at_call 38; refine (rtwo_any _ (.mk 3 0 [f0]) f1 _ _ _ _ _ _ _ (Ext S wx w1) ?_ ?_ ?_).mono ?_; (exact (HS.out.call hbwx.size).ext hb0.size); (exact hi0); (exact (HF1.out.call (HS.out.call hbwx.size) hb0).into); rintro e w2 ⟨B1, m1, d1, rfl, hi1, hb1⟩; have hbb := below_call hb0 hb1)
        | (go_at_call 16; refine (HREC.out _ _ _ _ _ _ _ _ (Ext S wx w2) ?_ HG.out (Ltl.Is.ext2 hi1 hb0.size hb1.size)).mono ?_; (exact (HS.out.call hbwx.size).ext (Nat.le_trans hb0.size hb1.size)); rintro e w3 ⟨B2, m2, d2, rfl, hi2, hb2⟩; have hbc := below_call hbb hb2; obtain ⟨hc0, hf0⟩ := bcell hbc))
      go_wp2
      have hi3 := Ltl.Is.ext2 hi2 (Nat.le_trans hb0.size hb1.size) hb2.size
      rw [show ((T.imp a b).plain dn).ltl = ((T.or (.not a) b).plain dn).ltl from by cases dn <;> rfl]
      obtain ⟨e0, e1, e2⟩ := set3 (HR.out.call hbc) (.int .i64 ((T.or (.not a) b).plain dn).ltl.kind) (.int .i64 ((T.or (.not a) b).plain dn).ltl.prop) (.slice B2 m2 d2)
      refine bodyPost_ret (v := .agg #[.int .i64 ((T.or (.not a) b).plain dn).ltl.kind, .int .i64 ((T.or (.not a) b).plain dn).ltl.prop, .slice B2 m2 d2]) (by simp [results, Try.results16, go_sem, e0, e1, e2]) rfl ?_
      exact ret_ltl (g := ((T.or (.not a) b).plain dn).ltl) HS.out hbwx l1' hbc hi3
    | atom i =>
      obtain ⟨rfl, rfl⟩ : k = 2 ∧ p = i := HK.out
      clear HI HT HK
      cases dn
      · go_wp2_with fail
        obtain ⟨e0, e1, e2⟩ := set3 (HR.out.call (Below.refl _ _)) (.int .i64 2) (.int .i64 p) (.slice none 0 0)
        refine bodyPost_ret (v := .agg #[.int .i64 2, .int .i64 p, .slice none 0 0]) (by simp [results, Try.results16, go_sem, e0, e1, e2]) rfl ?_
        exact ret_ltl (g := (T.ltl (.atom p))) HS.out hbwx l1' (Below.refl _ _) (leaf_is _ _ _ _)
      · go_wp2_with (go_at_call 39; refine (rnot_any (.mk 2 p []) _ _ _ _ S ?_ ?_).mono ?_; (exact HS.out.call hbwx.size); (exact leaf_is _ _ _ _); rintro e w1 ⟨B0, m0, d0, rfl, hi0, hb0⟩; obtain ⟨hc0, hf0⟩ := bcell hb0)
        obtain ⟨e0, e1, e2⟩ := set3 (HR.out.call hb0) (.int .i64 (Ltl.mk 3 0 [.mk 2 p []]).kind) (.int .i64 (Ltl.mk 3 0 [.mk 2 p []]).prop) (.slice B0 m0 d0)
        refine bodyPost_ret (v := .agg #[.int .i64 (Ltl.mk 3 0 [.mk 2 p []]).kind, .int .i64 (Ltl.mk 3 0 [.mk 2 p []]).prop, .slice B0 m0 d0]) (by simp [results, Try.results16, go_sem, e0, e1, e2]) rfl ?_
        exact ret_ltl (g := (Ltl.mk 3 0 [.mk 2 p []])) HS.out hbwx l1' hb0 hi0

theorem rplain_all : ∀ m, RPlainUp m
  | 0 => fun t ht => by cases t <;> simp [T.wt] at ht
  | m + 1 => rplain_up m (rplain_all m)
theorem rplain_any (f : Ltl) (k p : Int) (A : Option Addr) (n c : Nat) (dn : Bool) (w : World) (S : Nat → Prop) (hS : Bd S w) (hf : Ltl.Is w S f [.int .i64 k, .int .i64 p, .slice A n c]) :
    Calls Try.prog 16 #[.agg #[.int .i64 k, .int .i64 p, .slice A n c], .bool dn] w (RetLtl w S (f.norm.plain dn).ltl) :=
  rplain_all _ f.norm (Nat.le_refl _) f k p A n c dn w S hS rfl hf
end Go.Proofs.Ytedbjkjncfinnaa
