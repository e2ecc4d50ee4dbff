/-
  Layer 15: word.two, word.Plain.
-/
import Derived.Test.YtedbjkjncfinnaaWordA
namespace Go.Proofs.Ytedbjkjncfinnaa
open Go.RowKit

theorem two_is (k : Int) (P Q : Ltl) (A B : Option Addr) (n c m d : Nat) (w w' : World) (S : Nat → Prop) (g : Nat) (hS : Bd S w) (hp : Ltl.Is w S P [.int .i64 P.kind, .int .i64 P.prop, .slice A n c]) (hq : Ltl.Is w S Q [.int .i64 Q.kind, .int .i64 Q.prop, .slice B m d])
    (hb : Below w.heap.size w w') (hw : w.heap.size ≤ g) (hg : Blk w' g 24 #[.int .i64 P.kind, .int .i64 P.prop, .slice A n c, .int .i64 Q.kind, .int .i64 Q.prop, .slice B m d]) :
    Ltl.Is w' (Ext S w w') (.mk k 0 [P, Q]) [.int .i64 k, .int .i64 0, .slice (some ⟨g, 0, none⟩) 2 2] := by
  refine Ltl.Is.mk_ rfl (by decide) (by decide) fun _ => ⟨g, 0, rfl, .inr ⟨hw, hg.lt⟩, fun i hi => ?_⟩
  match i, hi with
  | 0, _ => exact ⟨_, _, _, hg.cell 0, hg.cell 1, hg.cell 2, (hp.call hS hb).into⟩
  | 1, _ => exact ⟨_, _, _, hg.cell 3, hg.cell 4, hg.cell 5, (hq.call hS hb).into⟩
theorem one_is (k : Int) (P : Ltl) (A : Option Addr) (n c : Nat) (w w' : World) (S : Nat → Prop) (g : Nat) (hS : Bd S w) (hp : Ltl.Is w S P [.int .i64 P.kind, .int .i64 P.prop, .slice A n c])
    (hb : Below w.heap.size w w') (hw : w.heap.size ≤ g) (hg : Blk w' g 24 #[.int .i64 P.kind, .int .i64 P.prop, .slice A n c]) :
    Ltl.Is w' (Ext S w w') (.mk k 0 [P]) [.int .i64 k, .int .i64 0, .slice (some ⟨g, 0, none⟩) 1 1] := by
  refine Ltl.Is.mk_ rfl (by decide) (by decide) fun _ => ⟨g, 0, rfl, .inr ⟨hw, hg.lt⟩, fun i hi => ?_⟩
  match i, hi with
  | 0, _ => exact ⟨_, _, _, hg.cell 0, hg.cell 1, hg.cell 2, (hp.call hS hb).into⟩
theorem leaf_is (k p : Int) (w : World) (S : Nat → Prop) : Ltl.Is w S (.mk k p []) [.int .i64 k, .int .i64 p, .slice none 0 0] :=
  Ltl.Is.mk_ rfl (Nat.le_refl _) (by decide) (by omega)

theorem two_any (k : Int) (P Q : Ltl) (A B : Option Addr) (n c m d : Nat) (w : World) (S : Nat → Prop) (hS : Bd S w) (hp : Ltl.Is w S P [.int .i64 P.kind, .int .i64 P.prop, .slice A n c]) (hq : Ltl.Is w S Q [.int .i64 Q.kind, .int .i64 Q.prop, .slice B m d]) :
    Calls Try.prog 44 #[.int .i64 k, .agg #[.int .i64 P.kind, .int .i64 P.prop, .slice A n c], .agg #[.int .i64 Q.kind, .int .i64 Q.prop, .slice B m d]] w (RetLtl w S (.mk k 0 [P, Q])) := by
  have HP := Lib.hid hp
  have HQ := Lib.hid hq
  have HS := Lib.hid hS
  clear hp hq hS
  go_enter Try.func44, Try.ntmps44
  go_wp2
  refine bodyPost_ret (v := .agg #[.int .i64 k, .int .i64 0, .slice (some ⟨w.heap.size + 1 + 1 + 1, 0, none⟩) 2 2]) (by simp [results, Try.results44, go_sem]) rfl ?_
  have hb3 := below_alloc (o := .cells #[.int .i64 k, .int .i64 0, .slice (some ⟨w.heap.size + 1 + 1 + 1, 0, none⟩) 2 2] 24) (below_alloc (o := .cells #[.int .i64 Q.kind, .int .i64 Q.prop, .slice B m d] 24) (below_one w (.cells #[.int .i64 P.kind, .int .i64 P.prop, .slice A n c] 24)))
  refine ⟨_, _, _, rfl, two_is k P Q A B n c m d w _ S _ HS.out HP.out HQ.out (below_alloc hb3) (by omega) ?_, below_alloc hb3⟩
  have := Blk.new ((((w.alloc (.cells #[.int .i64 P.kind, .int .i64 P.prop, .slice A n c] 24)).alloc (.cells #[.int .i64 Q.kind, .int .i64 Q.prop, .slice B m d] 24)).alloc (.cells #[.int .i64 k, .int .i64 0, .slice (some ⟨w.heap.size + 1 + 1 + 1, 0, none⟩) 2 2] 24)))
    24 #[.int .i64 P.kind, .int .i64 P.prop, .slice A n c, .int .i64 Q.kind, .int .i64 Q.prop, .slice B m d]
  simpa using this

theorem alloc_set {w : World} {p : Addr} {u : Value} {o : Obj} (h : p.block < w.heap.size) : (w.setCell p u).alloc o = (w.alloc o).setCell p u := by
  unfold World.setCell
  show ({ heap := (w.heap.modify _ _).push o, tape := _, drawn := _, os := _, output := _ } : World) = { heap := (w.heap.push o).modify _ _, tape := _, drawn := _, os := _, output := _ }
  congr 1
  apply Array.ext_getElem?
  intro i
  simp only [Array.getElem?_push, Array.getElem?_modify, Array.size_modify]
  by_cases hi : i = w.heap.size
  · subst hi
    rw [if_pos rfl, if_neg (by omega), if_pos rfl]
  · rw [if_neg hi, if_neg hi]
theorem alloc_set3 {w : World} {g : Nat} {a b c : Value} {o : Obj} (h : g < w.heap.size) :
    (((w.setCell ⟨g, 0, none⟩ a).setCell ⟨g, 1, none⟩ b).setCell ⟨g, 2, none⟩ c).alloc o = ((((w.alloc o).setCell ⟨g, 0, none⟩ a).setCell ⟨g, 1, none⟩ b).setCell ⟨g, 2, none⟩ c) := by
  rw [alloc_set (by simpa [World.setCell] using h), alloc_set (by simpa [World.setCell] using h), alloc_set (by simpa using h)]

theorem kd_ {w : World} {n g : Nat} : ∀ b o, b < n → b ≠ g → w.drew.cell? ⟨b, o, none⟩ = w.cell? ⟨b, o, none⟩ := fun _ _ _ _ => rfl
theorem kb_ {w w' : World} {g : Nat} (hb : Below w.heap.size w w') : ∀ b o, b < w.heap.size → b ≠ g → w'.cell? ⟨b, o, none⟩ = w.cell? ⟨b, o, none⟩ := fun b o h _ => hb.cell (p := ⟨b, o, none⟩) h
theorem st3 {w wx : World} {n g : Nat} {x y z : Value} (h : ∀ b o, b < n → b ≠ g → w.cell? ⟨b, o, none⟩ = wx.cell? ⟨b, o, none⟩) : ∀ b o, b < n → b ≠ g → (((w.setCell ⟨g, 0, none⟩ x).setCell ⟨g, 1, none⟩ y).setCell ⟨g, 2, none⟩ z).cell? ⟨b, o, none⟩ = wx.cell? ⟨b, o, none⟩ := by
  intro b o hb hg
  rw [World.cell?_of_block (Below.heap_setCell _ ⟨g, 2, none⟩ z b hg), World.cell?_of_block (Below.heap_setCell _ ⟨g, 1, none⟩ y b hg), World.cell?_of_block (Below.heap_setCell _ ⟨g, 0, none⟩ x b hg)]
  exact h b o hb hg

/-- What stands in a box of three behind three stores. -/
theorem set3 {w : World} {g : Nat} {t : TypeId} {x y z : Value} (h : Blk w g t #[x, y, z]) (a b c : Value) :
    (((w.setCell ⟨g, 0, none⟩ a).setCell ⟨g, 1, none⟩ b).setCell ⟨g, 2, none⟩ c).cell? ⟨g, 0, none⟩ = some a ∧ (((w.setCell ⟨g, 0, none⟩ a).setCell ⟨g, 1, none⟩ b).setCell ⟨g, 2, none⟩ c).cell? ⟨g, 1, none⟩ = some b ∧
      (((w.setCell ⟨g, 0, none⟩ a).setCell ⟨g, 1, none⟩ b).setCell ⟨g, 2, none⟩ c).cell? ⟨g, 2, none⟩ = some c := by
  have h3 := ((h.set_ 0 a).set_ 1 b).set_ 2 c
  simp at h3
  exact ⟨h3.cell 0, h3.cell 1, h3.cell 2⟩

/-- The end: what stands in the result's own box. -/
theorem ret_ltl {w wx w' : World} {S : Nat → Prop} {g : Ltl} {A : Option Addr} {n c : Nat} (hS : Bd S w) (hwx : Below w.heap.size w wx) (hl : w.heap.size + 1 < wx.heap.size) (hb : Below wx.heap.size wx w') (h : Ltl.Is w' (Ext S wx w') g [.int .i64 g.kind, .int .i64 g.prop, .slice A n c]) :
    RetLtl w S g (.returned (.agg #[.int .i64 g.kind, .int .i64 g.prop, .slice A n c])) (((w'.setCell ⟨w.heap.size + 1, 0, none⟩ (.int .i64 g.kind)).setCell ⟨w.heap.size + 1, 1, none⟩ (.int .i64 g.prop)).setCell ⟨w.heap.size + 1, 2, none⟩ (.slice A n c)) := by
  have hn : ¬ Ext S wx w' (w.heap.size + 1) := by
    rintro (h | h)
    · have := hS _ h; omega
    · omega
  refine ⟨A, n, c, rfl, ?_, ?_⟩
  · refine Ltl.Is.mono (((h.store (p := ⟨w.heap.size + 1, 0, none⟩) hn _).store (p := ⟨w.heap.size + 1, 1, none⟩) hn _).store (p := ⟨w.heap.size + 1, 2, none⟩) hn _) ?_
    rintro b (hb | hb)
    · exact .inl hb
    · refine .inr ⟨?_, ?_⟩
      · have := hwx.size; omega
      · simpa [World.setCell] using hb.2
  · exact below_set (below_set (below_set (below_call hwx hb) (Nat.le_succ _)) (Nat.le_succ _)) (Nat.le_succ _)

/-- What holds in the region 'PlR', by which of its operations are done. -/
def PlR (W : World) (w : World) (k p : Int) (A : Option Addr) (n c : Nat) (dn : Bool) (f0 f1 : Ltl) (A0 A1 : Option Addr) (n0 n1 c0 c1 : Nat) (L : Nat → Bool) (a : Act) (wx : World) : Prop :=
  ∃ vp vq x0 y0 x1 y1 : Value, ∃ gp gq : Nat, a = { tmps := #[.agg #[.int .i64 k, .int .i64 p, .slice A n c], .bool dn, .pointer (some ⟨w.heap.size, 0, none⟩), undef, .pointer (some ⟨w.heap.size + 1, 0, none⟩), vp, vq, undef, x0, y0, x1, y1, undef, undef, undef, undef, undef, undef, undef, undef, undef, undef, undef, undef, undef, undef, undef, undef, undef, undef, undef, undef, undef, undef, undef, undef, undef, undef, undef, undef, undef, undef, undef, undef, undef, undef, undef, undef, undef, undef, undef, undef, undef, undef, undef, undef, undef, undef, undef, undef, undef, undef, undef, undef, undef, undef, undef, undef, undef, undef, undef, undef, undef, undef, undef, undef, undef, undef, undef, undef, undef, undef, undef, undef, undef, undef, undef, undef, undef, undef, undef, undef, undef, undef, undef, undef, undef], defers := [] } ∧ Below W.heap.size W wx ∧ (L 0 = true → x0 = .agg #[.int .i64 k, .int .i64 p, .slice A n c]) ∧ (L 2 = true → x1 = .agg #[.int .i64 k, .int .i64 p, .slice A n c]) ∧ (L 1 = true → y0 = .agg #[.int .i64 f0.kind, .int .i64 f0.prop, .slice A0 n0 c0]) ∧ (L 3 = true → y1 = .agg #[.int .i64 f1.kind, .int .i64 f1.prop, .slice A1 n1 c1]) ∧
    (L 4 = true → Own wx W.heap.size gp 24 vp (pick (L 6) #[.int .i64 f0.kind, .int .i64 f0.prop, .slice A0 n0 c0] #[.int .i64 0, .int .i64 0, .slice none 0 0])) ∧ (L 5 = true → Own wx W.heap.size gq 24 vq (pick (L 7) #[.int .i64 f1.kind, .int .i64 f1.prop, .slice A1 n1 c1] #[.int .i64 0, .int .i64 0, .slice none 0 0])) ∧ (L 4 = true → L 5 = true → gp ≠ gq)

/-- word.Plain, of what is no greater than m. -/
def PlainUp (m : Nat) : Prop := ∀ (t : T), t.size ≤ m → ∀ (f : Ltl) (k p : Int) (A : Option Addr) (n c : Nat) (dn : Bool) (w : World) (S : Nat → Prop), Bd S w → f.norm = t → Ltl.Is w S f [.int .i64 k, .int .i64 p, .slice A n c] →
  Calls Try.prog 18 #[.agg #[.int .i64 k, .int .i64 p, .slice A n c], .bool dn] w (RetLtl w S (t.plain dn).ltl)

set_option maxRecDepth 100000 in
set_option maxHeartbeats 8000000 in
theorem plain_up (m : Nat) (ih : PlainUp m) : PlainUp (m + 1) := by
  intro t ht f k p A n c dn w S hS hn hf
  have hkind : ∃ r, f = .mk k p r := by
    obtain ⟨k', p', r⟩ := f
    obtain ⟨_, _, _, hcs, _⟩ := hf.form
    simp only [List.cons.injEq, Value.int.injEq, true_and] at hcs
    obtain ⟨rfl, rfl, _⟩ := hcs
    exact ⟨r, rfl⟩
  obtain ⟨r, rfl⟩ := hkind
  have hk := kind_of k p r
  rw [hn] at hk
  obtain ⟨A0, n0, c0, hk0, hc0⟩ := kid_exact _ k p A n c 0 w S hf
  obtain ⟨A1, n1, c1, hk1, hc1⟩ := kid_exact _ k p A n c 1 w S hf
  generalize Ltl.kid (.mk k p r) 0 = f0 at *
  generalize Ltl.kid (.mk k p r) 1 = f1 at *
  have HK := Lib.hid hk
  have HS := Lib.hid hS
  have HT := Lib.hid ht
  have HI := Lib.hid ih
  have HC0 := Lib.hid hc0
  have HC1 := Lib.hid hc1
  have H0 := Lib.hid hk0
  have H1 := Lib.hid hk1
  clear hf hc0 hc1 hk0 hk1 hk hn ht ih hS
  go_enter Try.func18, Try.ntmps18
  go_wp2_with fail
  obtain ⟨W, hW⟩ : ∃ W, (w.alloc (Obj.cells #[.int .i64 k, .int .i64 p, .slice A n c] 24)).alloc (Obj.cells #[.int .i64 0, .int .i64 0, .slice none 0 0] 24) = W := ⟨_, rfl⟩
  have hbW : Below w.heap.size w W := by rw [← hW]; exact below_alloc (below_one _ _)
  have hzW : W.heap.size = w.heap.size + 2 := by rw [← hW]; simp
  have b0 : W.cell? ⟨w.heap.size, 0, none⟩ = some (.int .i64 k) := by rw [← hW]; simp [go_sem]
  have b1 : W.cell? ⟨w.heap.size, 1, none⟩ = some (.int .i64 p) := by rw [← hW]; simp [go_sem]
  have b2 : W.cell? ⟨w.heap.size, 2, none⟩ = some (.slice A n c) := by rw [← hW]; simp [go_sem]
  have bR : Blk W (w.heap.size + 1) 24 #[.int .i64 0, .int .i64 0, .slice none 0 0] := by rw [← hW]; simpa using Blk.new (w.alloc (Obj.cells #[.int .i64 k, .int .i64 p, .slice A n c] 24)) 24 #[.int .i64 0, .int .i64 0, .slice none 0 0]
  have l0 : w.heap.size < W.heap.size := by omega
  have l1 : w.heap.size + 1 < W.heap.size := by omega
  rw [hW]
  clear hW hzW
  have BR := Lib.hid bR
  clear bR
  refine wp_region_inv (by kernel_rfl) (by kernel_rfl) (PlR W w k p A n c dn f0 f1 A0 A1 n0 n1 c0 c1) ?h0 ?step ?fin
  case h0 => exact ⟨undef, undef, undef, undef, undef, undef, 0, 0, rfl, (Below.refl _ _).drew, by simp, by simp, by simp, by simp, by simp, by simp, by simp⟩
  case step =>
    rintro i o ho L a wx ⟨vp, vq, x0, y0, x1, y1, gp, gq, rfl, hb, h0', h2', h1', h3', h4', h5', h45'⟩ hLi hpre hcl
    have h0 := Lib.hid h0'
    have h1 := Lib.hid h1'
    have h2 := Lib.hid h2'
    have h3 := Lib.hid h3'
    have h4 := Lib.hid h4'
    have h5 := Lib.hid h5'
    have h45 := Lib.hid h45'
    have hp := Lib.hid hpre
    have hL := Lib.hid hLi
    clear h0' h1' h2' h3' h4' h5' h45' hpre hLi
    match i, ho with
    | 0, ho =>
      simp only [List.getElem?_toArray, List.getElem?_cons_zero, Option.some.injEq] at ho
      subst ho
      clear hcl
      have rd := (bcell hb).1
      go_wp2
      exact ⟨_, _, _, _, _, _, gp, gq, rfl, hb, fun _ => rfl, fun h => h2.out (by simpa using h), fun h => h1.out (by simpa using h), fun h => h3.out (by simpa using h), fun h => by simpa using (h4.out (by simpa using h)), fun h => by simpa using (h5.out (by simpa using h)), fun h h' => h45.out (by simpa using h) (by simpa using h')⟩
    | 1, ho =>
      simp only [List.getElem?_toArray, List.getElem?_cons_zero, List.getElem?_cons_succ, Option.some.injEq] at ho
      subst ho
      clear hcl
      have q0 : L 0 = true := hp.out ⟨0, .data⟩ (by simp) rfl
      obtain rfl := h0.out q0
      clear q0
      go_wp2_with (go_at_call 42; refine (HC0.out _ _ rfl (hbW.trans (hb.mono hbW.size))).mono ?_; rintro e w' ⟨rfl, hb'⟩)
      exact ⟨_, _, _, _, _, _, gp, gq, rfl, below_call hb hb', fun _ => rfl, fun h => h2.out (by simpa using h), fun _ => rfl, fun h => h3.out (by simpa using h), fun h => by simpa using (h4.out (by simpa using h)).call hb', fun h => by simpa using (h5.out (by simpa using h)).call hb', fun h h' => h45.out (by simpa using h) (by simpa using h')⟩
    | 2, ho =>
      simp only [List.getElem?_toArray, List.getElem?_cons_zero, List.getElem?_cons_succ, Option.some.injEq] at ho
      subst ho
      clear hcl
      have rd := (bcell hb).1
      go_wp2
      exact ⟨_, _, _, _, _, _, gp, gq, rfl, hb, fun h => h0.out (by simpa using h), fun _ => rfl, fun h => h1.out (by simpa using h), fun h => h3.out (by simpa using h), fun h => by simpa using (h4.out (by simpa using h)), fun h => by simpa using (h5.out (by simpa using h)), fun h h' => h45.out (by simpa using h) (by simpa using h')⟩
    | 3, ho =>
      simp only [List.getElem?_toArray, List.getElem?_cons_zero, List.getElem?_cons_succ, Option.some.injEq] at ho
      subst ho
      clear hcl
      have q0 : L 2 = true := hp.out ⟨2, .data⟩ (by simp) rfl
      obtain rfl := h2.out q0
      clear q0
      go_wp2_with (go_at_call 42; refine (HC1.out _ _ rfl (hbW.trans (hb.mono hbW.size))).mono ?_; rintro e w' ⟨rfl, hb'⟩)
      exact ⟨_, _, _, _, _, _, gp, gq, rfl, below_call hb hb', fun h => h0.out (by simpa using h), fun _ => rfl, fun h => h1.out (by simpa using h), fun _ => rfl, fun h => by simpa using (h4.out (by simpa using h)).call hb', fun h => by simpa using (h5.out (by simpa using h)).call hb', fun h h' => h45.out (by simpa using h) (by simpa using h')⟩
    | 4, ho =>
      simp only [List.getElem?_toArray, List.getElem?_cons_zero, List.getElem?_cons_succ, Option.some.injEq] at ho
      subst ho
      have n6 : L 6 = false := by
        cases hq : L 6 with
        | false => rfl
        | true => exact absurd (hcl 6 _ rfl hq ⟨4, .data⟩ (by simp) rfl) (by rw [hL.out]; simp)
      clear hcl
      have n6' := Lib.hid n6
      clear n6
      go_wp2
      exact ⟨_, _, _, _, _, _, wx.heap.size, gq, rfl, below_alloc hb, fun h => h0.out (by simpa using h), fun h => h2.out (by simpa using h), fun h => h1.out (by simpa using h), fun h => h3.out (by simpa using h), fun _ => by simpa [n6'.out, pick] using Own.new 24 #[.int .i64 0, .int .i64 0, .slice none 0 0] hb.size, fun h => by simpa using (h5.out (by simpa using h)).call (below_one _ _), fun _ h => by have := (h5.out (by simpa using h)).2.2.lt; omega⟩
    | 5, ho =>
      simp only [List.getElem?_toArray, List.getElem?_cons_zero, List.getElem?_cons_succ, Option.some.injEq] at ho
      subst ho
      have n7 : L 7 = false := by
        cases hq : L 7 with
        | false => rfl
        | true => exact absurd (hcl 7 _ rfl hq ⟨5, .data⟩ (by simp) rfl) (by rw [hL.out]; simp)
      clear hcl
      have n7' := Lib.hid n7
      clear n7
      go_wp2
      exact ⟨_, _, _, _, _, _, gp, wx.heap.size, rfl, below_alloc hb, fun h => h0.out (by simpa using h), fun h => h2.out (by simpa using h), fun h => h1.out (by simpa using h), fun h => h3.out (by simpa using h), fun h => by simpa using (h4.out (by simpa using h)).call (below_one _ _), fun _ => by simpa [n7'.out, pick] using Own.new 24 #[.int .i64 0, .int .i64 0, .slice none 0 0] hb.size, fun h _ => by have := (h4.out (by simpa using h)).2.2.lt; omega⟩
    | 6, ho =>
      simp only [List.getElem?_toArray, List.getElem?_cons_zero, List.getElem?_cons_succ, Option.some.injEq] at ho
      subst ho
      clear hcl
      have q0 : L 4 = true := hp.out ⟨4, .data⟩ (by simp) rfl
      have q1 : L 1 = true := hp.out ⟨1, .data⟩ (by simp) rfl
      have ho := h4.out q0
      rw [hL.out] at ho
      simp only [pick] at ho
      obtain rfl := ho.2.1
      obtain rfl := h1.out q1
      have l1 := ho.1
      have e0 := ho.2.2.cell 0
      have e1 := ho.2.2.cell 1
      have e2 := ho.2.2.cell 2
      have r0 := ho.2.2.frozen 0
      have r1 := ho.2.2.frozen 1
      have r2 := ho.2.2.frozen 2
      simp only [List.getElem?_toArray, List.getElem?_cons_zero, List.getElem?_cons_succ] at e0 e1 e2
      have HO := Lib.hid ho
      have Q0 := Lib.hid q0
      have Q1 := Lib.hid q1
      clear ho q0 q1
      go_wp2
      exact ⟨_, _, _, _, _, _, gp, gq, rfl, below_set (below_set (below_set hb l1) l1) l1, fun h => h0.out (by simpa using h), fun h => h2.out (by simpa using h), fun _ => rfl, fun h => h3.out (by simpa using h), fun _ => by simpa [pick] using HO.out.set3 _ _ _, fun h => by simpa using (h5.out (by simpa using h)).far3 (Ne.symm (h45.out Q0.out (by simpa using h))) _ _ _, fun h h' => h45.out (by simpa using h) (by simpa using h')⟩
    | 7, ho =>
      simp only [List.getElem?_toArray, List.getElem?_cons_zero, List.getElem?_cons_succ, Option.some.injEq] at ho
      subst ho
      clear hcl
      have q0 : L 5 = true := hp.out ⟨5, .data⟩ (by simp) rfl
      have q1 : L 3 = true := hp.out ⟨3, .data⟩ (by simp) rfl
      have ho := h5.out q0
      rw [hL.out] at ho
      simp only [pick] at ho
      obtain rfl := ho.2.1
      obtain rfl := h3.out q1
      have l1 := ho.1
      have e0 := ho.2.2.cell 0
      have e1 := ho.2.2.cell 1
      have e2 := ho.2.2.cell 2
      have r0 := ho.2.2.frozen 0
      have r1 := ho.2.2.frozen 1
      have r2 := ho.2.2.frozen 2
      simp only [List.getElem?_toArray, List.getElem?_cons_zero, List.getElem?_cons_succ] at e0 e1 e2
      have HO := Lib.hid ho
      have Q0 := Lib.hid q0
      have Q1 := Lib.hid q1
      clear ho q0 q1
      go_wp2
      exact ⟨_, _, _, _, _, _, gp, gq, rfl, below_set (below_set (below_set hb l1) l1) l1, fun h => h0.out (by simpa using h), fun h => h2.out (by simpa using h), fun h => h1.out (by simpa using h), fun _ => rfl, fun h => by simpa using (h4.out (by simpa using h)).far3 (h45.out (by simpa using h) Q0.out) _ _ _, fun _ => by simpa [pick] using HO.out.set3 _ _ _, fun h h' => h45.out (by simpa using h) (by simpa using h')⟩
    | i + 8, ho => simp at ho
  case fin =>
    rintro L a wx ⟨vp, vq, x0, y0, x1, y1, gp, gq, rfl, hb, h0, h2, h1, h3, h4, h5, h45⟩ hall
    have q0 := hall 0 (by decide)
    have q1 := hall 1 (by decide)
    have q2 := hall 2 (by decide)
    have q3 := hall 3 (by decide)
    have q4 := hall 4 (by decide)
    have q5 := hall 5 (by decide)
    have q6 := hall 6 (by decide)
    have q7 := hall 7 (by decide)
    obtain rfl := h0 q0
    obtain rfl := h1 q1
    obtain rfl := h2 q2
    obtain rfl := h3 q3
    have hp := h4 q4
    have hq := h5 q5
    have hne := h45 q4 q5
    rw [q6] at hp
    rw [q7] at hq
    obtain rfl := hp.2.1
    obtain rfl := hq.2.1
    have ep0 := hp.2.2.cell 0
    have ep1 := hp.2.2.cell 1
    have ep2 := hp.2.2.cell 2
    have eq0 := hq.2.2.cell 0
    have eq1 := hq.2.2.cell 1
    have eq2 := hq.2.2.cell 2
    simp only [pick, List.getElem?_toArray, List.getElem?_cons_zero, List.getElem?_cons_succ] at ep0 ep1 ep2 eq0 eq1 eq2
    have lp := hp.2.2.lt
    have lq := hq.2.2.lt
    have lp' := hp.1
    have lq' := hq.1
    clear h0 h1 h2 h3 h4 h5 h45 q0 q1 q2 q3 q4 q5 q6 q7 hall hp hq L
    -- behind the region
    have hbwx : Below w.heap.size w wx := hbW.trans (hb.mono hbW.size)
    have m0 : wx.cell? ⟨w.heap.size, 0, none⟩ = some (.int .i64 k) := ((bcell hb).1 _ _ l0).trans b0
    have m1 : wx.cell? ⟨w.heap.size, 1, none⟩ = some (.int .i64 p) := ((bcell hb).1 _ _ l0).trans b1
    have bR := BR.out.below hb l1
    have s0 := bR.cell 0
    have s1 := bR.cell 1
    have s2 := bR.cell 2
    have z0 := bR.frozen 0
    have z1 := bR.frozen 1
    have z2 := bR.frozen 2
    simp only [List.getElem?_toArray, List.getElem?_cons_zero, List.getElem?_cons_succ] at s0 s1 s2
    have l0' : w.heap.size < wx.heap.size := Nat.lt_of_lt_of_le l0 hb.size
    have l1' : w.heap.size + 1 < wx.heap.size := Nat.lt_of_lt_of_le l1 hb.size
    have np : gp ≠ w.heap.size + 1 := by omega
    have nq : gq ≠ w.heap.size + 1 := by omega
    have HB := Lib.hid hb
    have HR := Lib.hid bR
    clear b0 b1 b2 l0 l1 BR hb bR hbW HC0 HC1 hne
    cases t with
    | tt =>
      obtain rfl : k = 0 := HK.out
      cases dn
      · go_wp2_with (go_at_call 43; refine (turned_any _ _ _).mono ?_; rintro e w' ⟨rfl, rfl⟩)
        obtain ⟨e0, e1, e2⟩ := set3 (HR.out.call (Below.refl _ _)) (.int .i64 (turned 0 false)) (.int .i64 0) (.slice none 0 0)
        refine bodyPost_ret (v := .agg #[.int .i64 (turned 0 false), .int .i64 0, .slice none 0 0]) (by simp [results, Try.results18, go_sem, e0, e1, e2]) rfl ?_
        exact ret_ltl (g := T.tt.ltl) HS.out hbwx l1' (Below.refl _ _) (leaf_is _ _ _ _)
      · go_wp2_with (go_at_call 43; refine (turned_any _ _ _).mono ?_; rintro e w' ⟨rfl, rfl⟩)
        obtain ⟨e0, e1, e2⟩ := set3 (HR.out.call (Below.refl _ _)) (.int .i64 (turned 0 true)) (.int .i64 0) (.slice none 0 0)
        refine bodyPost_ret (v := .agg #[.int .i64 (turned 0 true), .int .i64 0, .slice none 0 0]) (by simp [results, Try.results18, go_sem, e0, e1, e2]) rfl ?_
        exact ret_ltl (g := T.ff.ltl) HS.out hbwx l1' (Below.refl _ _) (leaf_is _ _ _ _)
    | ff =>
      obtain ⟨q0, q2, q3, q4, q5, q7, q8, q9, q10, q11, q12⟩ : _ ∧ _ := HK.out
      have r0 : (k == 0) = false := by simpa using q0
      have r2 : (k == 2) = false := by simpa using q2
      have r3 : (k == 3) = false := by simpa using q3
      have r4 : (k == 4) = false := by simpa using q4
      have r5 : (k == 5) = false := by simpa using q5
      have r7 : (k == 7) = false := by simpa using q7
      have r8 : (k == 8) = false := by simpa using q8
      have r9 : (k == 9) = false := by simpa using q9
      have r10 : (k == 10) = false := by simpa using q10
      have r11 : (k == 11) = false := by simpa using q11
      have r12 : (k == 12) = false := by simpa using q12
      clear q0 q2 q3 q4 q5 q7 q8 q9 q10 q11 q12
      cases dn
      · go_wp2_with (go_at_call 43; refine (turned_any _ _ _).mono ?_; rintro e w' ⟨rfl, rfl⟩)
        obtain ⟨e0, e1, e2⟩ := set3 (HR.out.call (Below.refl _ _)) (.int .i64 (turned 1 false)) (.int .i64 0) (.slice none 0 0)
        refine bodyPost_ret (v := .agg #[.int .i64 (turned 1 false), .int .i64 0, .slice none 0 0]) (by simp [results, Try.results18, go_sem, e0, e1, e2]) rfl ?_
        exact ret_ltl (g := T.ff.ltl) HS.out hbwx l1' (Below.refl _ _) (leaf_is _ _ _ _)
      · go_wp2_with (go_at_call 43; refine (turned_any _ _ _).mono ?_; rintro e w' ⟨rfl, rfl⟩)
        obtain ⟨e0, e1, e2⟩ := set3 (HR.out.call (Below.refl _ _)) (.int .i64 (turned 1 true)) (.int .i64 0) (.slice none 0 0)
        refine bodyPost_ret (v := .agg #[.int .i64 (turned 1 true), .int .i64 0, .slice none 0 0]) (by simp [results, Try.results18, go_sem, e0, e1, e2]) rfl ?_
        exact ret_ltl (g := T.tt.ltl) HS.out hbwx l1' (Below.refl _ _) (leaf_is _ _ _ _)
    | not a =>
      obtain ⟨rfl, hn0⟩ : k = 3 ∧ f0.norm = a := HK.out
      have P0 := Lib.hid (fun (dn : Bool) (wy : World) (hy : Below wx.heap.size wx wy) => HI.out _ (by have := HT.out; simp only [T.size] at this; omega) f0 _ _ A0 n0 c0 dn wy S (HS.out.call ((hbwx.trans (hy.mono hbwx.size)).size)) hn0 (H0.out.call HS.out (hbwx.trans (hy.mono hbwx.size))))
      clear HI HT HK hn0
      go_wp2_with ((go_at_call_of 18 (Value.int .i64 (Ltl.kind f0)); refine (P0.out _ _ ?_).mono ?_; (first | with_reducible exact Below.refl _ _ | with_reducible exact (Below.refl _ _).drew | with_reducible exact hb0); rintro e w1 ⟨B0, m0, d0, rfl, hi0, hb0⟩); obtain ⟨hc0, hf0⟩ := bcell hb0)
      obtain ⟨e0, e1, e2⟩ := set3 (HR.out.call hb0) (.int .i64 (a.plain !dn).ltl.kind) (.int .i64 (a.plain !dn).ltl.prop) (.slice B0 m0 d0)
      refine bodyPost_ret (v := .agg #[.int .i64 (a.plain !dn).ltl.kind, .int .i64 (a.plain !dn).ltl.prop, .slice B0 m0 d0]) (by simp [results, Try.results18, go_sem, e0, e1, e2]) rfl ?_
      exact ret_ltl (g := (a.plain !dn).ltl) HS.out hbwx l1' hb0 hi0
    | next a =>
      obtain ⟨rfl, hn0⟩ : k = 8 ∧ f0.norm = a := HK.out
      have P0 := Lib.hid (fun (dn : Bool) (wy : World) (hy : Below wx.heap.size wx wy) => HI.out _ (by have := HT.out; simp only [T.size] at this; omega) f0 _ _ A0 n0 c0 dn wy S (HS.out.call ((hbwx.trans (hy.mono hbwx.size)).size)) hn0 (H0.out.call HS.out (hbwx.trans (hy.mono hbwx.size))))
      clear HI HT HK hn0
      go_wp2_with ((go_at_call_of 18 (Value.int .i64 (Ltl.kind f0)); refine (P0.out _ _ ?_).mono ?_; (first | with_reducible exact Below.refl _ _ | with_reducible exact (Below.refl _ _).drew | with_reducible exact hb0); rintro e w1 ⟨B0, m0, d0, rfl, hi0, hb0⟩); obtain ⟨hc0, hf0⟩ := bcell hb0; have hl1 := Nat.lt_of_lt_of_le l1' hb0.size)
      rw [alloc_set3 hl1]
      obtain ⟨e0, e1, e2⟩ := set3 (HR.out.call (below_call hb0 (below_one _ (.cells #[.int .i64 (a.plain dn).ltl.kind, .int .i64 (a.plain dn).ltl.prop, .slice B0 m0 d0] 24)))) (.int .i64 8) (.int .i64 0) (.slice (some ⟨w1.heap.size, 0, none⟩) 1 1)
      refine bodyPost_ret (v := .agg #[.int .i64 8, .int .i64 0, .slice (some ⟨w1.heap.size, 0, none⟩) 1 1]) (by simp [results, Try.results18, go_sem, e0, e1, e2]) rfl ?_
      exact ret_ltl (g := (T.next (a.plain dn)).ltl) HS.out hbwx l1' (below_call hb0 (below_one _ (.cells #[.int .i64 (a.plain dn).ltl.kind, .int .i64 (a.plain dn).ltl.prop, .slice B0 m0 d0] 24))) (Ltl.Is.ext2 (one_is 8 (a.plain dn).ltl _ _ _ w1 _ (Ext S wx w1) _ ((HS.out.call hbwx.size).ext hb0.size) hi0 (below_one _ _) (Nat.le_refl _) (Blk.new _ _ _)) hb0.size (by simp))
    | and a b =>
      obtain ⟨rfl, hn0, hn1⟩ : k = 4 ∧ f0.norm = a ∧ f1.norm = b := HK.out
      have P0 := Lib.hid (fun (dn : Bool) (wy : World) (hy : Below wx.heap.size wx wy) => HI.out _ (by have := HT.out; simp only [T.size] at this; omega) f0 _ _ A0 n0 c0 dn wy S (HS.out.call ((hbwx.trans (hy.mono hbwx.size)).size)) hn0 (H0.out.call HS.out (hbwx.trans (hy.mono hbwx.size))))
      have P1 := Lib.hid (fun (dn : Bool) (wy : World) (hy : Below wx.heap.size wx wy) => HI.out _ (by have := HT.out; simp only [T.size] at this; omega) f1 _ _ A1 n1 c1 dn wy S (HS.out.call ((hbwx.trans (hy.mono hbwx.size)).size)) hn1 (H1.out.call HS.out (hbwx.trans (hy.mono hbwx.size))))
      clear HI HT HK hn0 hn1
      go_wp2_with fail
      go_region_held3 (fun w' => (∀ b o, b < wx.heap.size → b ≠ w.heap.size + 1 → w'.cell? ⟨b, o, none⟩ = wx.cell? ⟨b, o, none⟩))
        (first | with_reducible exact kd_ | with_reducible exact kb_ hb0 | with_reducible exact kb_ hbb | with_reducible exact kb_ hbc | with_reducible exact st3 (kb_ hbc))
        (first | (go_at_call 43; refine (turned_any _ _ _).mono ?_; rintro e w' ⟨rfl, rfl⟩) | (go_at_call_of 18 (Value.int .i64 (Ltl.kind f0)); refine (P0.out _ _ ?_).mono ?_; (first | with_reducible exact Below.refl _ _ | with_reducible exact (Below.refl _ _).drew | with_reducible exact hb0); rintro e w1 ⟨B0, m0, d0, rfl, hi0, hb0⟩; have hb0 := below_undrew hb0; have hi0 := hi0.undrew) | (go_at_call_of 18 (Value.int .i64 (Ltl.kind f1)); refine (P1.out _ _ ?_).mono ?_; (first | with_reducible exact Below.refl _ _ | with_reducible exact (Below.refl _ _).drew | with_reducible exact hb0); rintro e w2 ⟨B1, m1, d1, rfl, hi1, hb1⟩; have hbb := below_call hb0 hb1) | (go_at_call 44; refine (two_any _ (a.plain dn).ltl (b.plain dn).ltl _ _ _ _ _ _ _ (Ext S wx w2) ?_ ?_ ?_).mono ?_; (exact ((HS.out.call hbwx.size).ext (Nat.le_trans hb0.size hb1.size))); (exact Ltl.Is.ext_mono (hi0.call ((HS.out.call hbwx.size).ext hb0.size) hb1) (Nat.le_refl _) hb1.size); (exact hi1.ext_mono hb0.size (Nat.le_refl _)); rintro e w3 ⟨B2, m2, d2, rfl, hi2, hb2⟩; have hbc := below_call hbb hb2; obtain ⟨hc0, hf0⟩ := bcell hbc))
      go_wp2
      have hi3 := Ltl.Is.ext2 hi2 (Nat.le_trans hb0.size hb1.size) hb2.size
      rw [show ((T.and a b).plain dn).ltl = (Ltl.mk (turned 4 dn) 0 [(a.plain dn).ltl, (b.plain dn).ltl]) from by cases dn <;> rfl]
      obtain ⟨e0, e1, e2⟩ := set3 (HR.out.call hbc) (.int .i64 (Ltl.mk (turned 4 dn) 0 [(a.plain dn).ltl, (b.plain dn).ltl]).kind) (.int .i64 (Ltl.mk (turned 4 dn) 0 [(a.plain dn).ltl, (b.plain dn).ltl]).prop) (.slice B2 m2 d2)
      refine bodyPost_ret (v := .agg #[.int .i64 (Ltl.mk (turned 4 dn) 0 [(a.plain dn).ltl, (b.plain dn).ltl]).kind, .int .i64 (Ltl.mk (turned 4 dn) 0 [(a.plain dn).ltl, (b.plain dn).ltl]).prop, .slice B2 m2 d2]) (by simp [results, Try.results18, go_sem, e0, e1, e2]) rfl ?_
      exact ret_ltl (g := (Ltl.mk (turned 4 dn) 0 [(a.plain dn).ltl, (b.plain dn).ltl])) HS.out hbwx l1' hbc hi3
    | or a b =>
      obtain ⟨rfl, hn0, hn1⟩ : k = 5 ∧ f0.norm = a ∧ f1.norm = b := HK.out
      have P0 := Lib.hid (fun (dn : Bool) (wy : World) (hy : Below wx.heap.size wx wy) => HI.out _ (by have := HT.out; simp only [T.size] at this; omega) f0 _ _ A0 n0 c0 dn wy S (HS.out.call ((hbwx.trans (hy.mono hbwx.size)).size)) hn0 (H0.out.call HS.out (hbwx.trans (hy.mono hbwx.size))))
      have P1 := Lib.hid (fun (dn : Bool) (wy : World) (hy : Below wx.heap.size wx wy) => HI.out _ (by have := HT.out; simp only [T.size] at this; omega) f1 _ _ A1 n1 c1 dn wy S (HS.out.call ((hbwx.trans (hy.mono hbwx.size)).size)) hn1 (H1.out.call HS.out (hbwx.trans (hy.mono hbwx.size))))
      clear HI HT HK hn0 hn1
      go_wp2_with fail
      go_region_held3 (fun w' => (∀ b o, b < wx.heap.size → b ≠ w.heap.size + 1 → w'.cell? ⟨b, o, none⟩ = wx.cell? ⟨b, o, none⟩))
        (first | with_reducible exact kd_ | with_reducible exact kb_ hb0 | with_reducible exact kb_ hbb | with_reducible exact kb_ hbc | with_reducible exact st3 (kb_ hbc))
        (first | (go_at_call 43; refine (turned_any _ _ _).mono ?_; rintro e w' ⟨rfl, rfl⟩) | (go_at_call_of 18 (Value.int .i64 (Ltl.kind f0)); refine (P0.out _ _ ?_).mono ?_; (first | with_reducible exact Below.refl _ _ | with_reducible exact (Below.refl _ _).drew | with_reducible exact hb0); rintro e w1 ⟨B0, m0, d0, rfl, hi0, hb0⟩; have hb0 := below_undrew hb0; have hi0 := hi0.undrew) | (go_at_call_of 18 (Value.int .i64 (Ltl.kind f1)); refine (P1.out _ _ ?_).mono ?_; (first | with_reducible exact Below.refl _ _ | with_reducible exact (Below.refl _ _).drew | with_reducible exact hb0); rintro e w2 ⟨B1, m1, d1, rfl, hi1, hb1⟩; have hbb := below_call hb0 hb1) | (go_at_call 44; refine (two_any _ (a.plain dn).ltl (b.plain dn).ltl _ _ _ _ _ _ _ (Ext S wx w2) ?_ ?_ ?_).mono ?_; (exact ((HS.out.call hbwx.size).ext (Nat.le_trans hb0.size hb1.size))); (exact Ltl.Is.ext_mono (hi0.call ((HS.out.call hbwx.size).ext hb0.size) hb1) (Nat.le_refl _) hb1.size); (exact hi1.ext_mono hb0.size (Nat.le_refl _)); rintro e w3 ⟨B2, m2, d2, rfl, hi2, hb2⟩; have hbc := below_call hbb hb2; obtain ⟨hc0, hf0⟩ := bcell hbc))
      go_wp2
      have hi3 := Ltl.Is.ext2 hi2 (Nat.le_trans hb0.size hb1.size) hb2.size
      rw [show ((T.or a b).plain dn).ltl = (Ltl.mk (turned 5 dn) 0 [(a.plain dn).ltl, (b.plain dn).ltl]) from by cases dn <;> rfl]
      obtain ⟨e0, e1, e2⟩ := set3 (HR.out.call hbc) (.int .i64 (Ltl.mk (turned 5 dn) 0 [(a.plain dn).ltl, (b.plain dn).ltl]).kind) (.int .i64 (Ltl.mk (turned 5 dn) 0 [(a.plain dn).ltl, (b.plain dn).ltl]).prop) (.slice B2 m2 d2)
      refine bodyPost_ret (v := .agg #[.int .i64 (Ltl.mk (turned 5 dn) 0 [(a.plain dn).ltl, (b.plain dn).ltl]).kind, .int .i64 (Ltl.mk (turned 5 dn) 0 [(a.plain dn).ltl, (b.plain dn).ltl]).prop, .slice B2 m2 d2]) (by simp [results, Try.results18, go_sem, e0, e1, e2]) rfl ?_
      exact ret_ltl (g := (Ltl.mk (turned 5 dn) 0 [(a.plain dn).ltl, (b.plain dn).ltl])) HS.out hbwx l1' hbc hi3
    | until_ a b =>
      obtain ⟨rfl, hn0, hn1⟩ : k = 11 ∧ f0.norm = a ∧ f1.norm = b := HK.out
      have P0 := Lib.hid (fun (dn : Bool) (wy : World) (hy : Below wx.heap.size wx wy) => HI.out _ (by have := HT.out; simp only [T.size] at this; omega) f0 _ _ A0 n0 c0 dn wy S (HS.out.call ((hbwx.trans (hy.mono hbwx.size)).size)) hn0 (H0.out.call HS.out (hbwx.trans (hy.mono hbwx.size))))
      have P1 := Lib.hid (fun (dn : Bool) (wy : World) (hy : Below wx.heap.size wx wy) => HI.out _ (by have := HT.out; simp only [T.size] at this; omega) f1 _ _ A1 n1 c1 dn wy S (HS.out.call ((hbwx.trans (hy.mono hbwx.size)).size)) hn1 (H1.out.call HS.out (hbwx.trans (hy.mono hbwx.size))))
      clear HI HT HK hn0 hn1
      go_wp2_with fail
      go_region_held3 (fun w' => (∀ b o, b < wx.heap.size → b ≠ w.heap.size + 1 → w'.cell? ⟨b, o, none⟩ = wx.cell? ⟨b, o, none⟩))
        (first | with_reducible exact kd_ | with_reducible exact kb_ hb0 | with_reducible exact kb_ hbb | with_reducible exact kb_ hbc | with_reducible exact st3 (kb_ hbc))
        (first | (go_at_call 43; refine (turned_any _ _ _).mono ?_; rintro e w' ⟨rfl, rfl⟩) | (go_at_call_of 18 (Value.int .i64 (Ltl.kind f0)); refine (P0.out _ _ ?_).mono ?_; (first | with_reducible exact Below.refl _ _ | with_reducible exact (Below.refl _ _).drew | with_reducible exact hb0); rintro e w1 ⟨B0, m0, d0, rfl, hi0, hb0⟩; have hb0 := below_undrew hb0; have hi0 := hi0.undrew) | (go_at_call_of 18 (Value.int .i64 (Ltl.kind f1)); refine (P1.out _ _ ?_).mono ?_; (first | with_reducible exact Below.refl _ _ | with_reducible exact (Below.refl _ _).drew | with_reducible exact hb0); rintro e w2 ⟨B1, m1, d1, rfl, hi1, hb1⟩; have hbb := below_call hb0 hb1) | (go_at_call 44; refine (two_any _ (a.plain dn).ltl (b.plain dn).ltl _ _ _ _ _ _ _ (Ext S wx w2) ?_ ?_ ?_).mono ?_; (exact ((HS.out.call hbwx.size).ext (Nat.le_trans hb0.size hb1.size))); (exact Ltl.Is.ext_mono (hi0.call ((HS.out.call hbwx.size).ext hb0.size) hb1) (Nat.le_refl _) hb1.size); (exact hi1.ext_mono hb0.size (Nat.le_refl _)); rintro e w3 ⟨B2, m2, d2, rfl, hi2, hb2⟩; have hbc := below_call hbb hb2; obtain ⟨hc0, hf0⟩ := bcell hbc))
      go_wp2
      have hi3 := Ltl.Is.ext2 hi2 (Nat.le_trans hb0.size hb1.size) hb2.size
      rw [show ((T.until_ a b).plain dn).ltl = (Ltl.mk (turned 11 dn) 0 [(a.plain dn).ltl, (b.plain dn).ltl]) from by cases dn <;> rfl]
      obtain ⟨e0, e1, e2⟩ := set3 (HR.out.call hbc) (.int .i64 (Ltl.mk (turned 11 dn) 0 [(a.plain dn).ltl, (b.plain dn).ltl]).kind) (.int .i64 (Ltl.mk (turned 11 dn) 0 [(a.plain dn).ltl, (b.plain dn).ltl]).prop) (.slice B2 m2 d2)
      refine bodyPost_ret (v := .agg #[.int .i64 (Ltl.mk (turned 11 dn) 0 [(a.plain dn).ltl, (b.plain dn).ltl]).kind, .int .i64 (Ltl.mk (turned 11 dn) 0 [(a.plain dn).ltl, (b.plain dn).ltl]).prop, .slice B2 m2 d2]) (by simp [results, Try.results18, go_sem, e0, e1, e2]) rfl ?_
      exact ret_ltl (g := (Ltl.mk (turned 11 dn) 0 [(a.plain dn).ltl, (b.plain dn).ltl])) HS.out hbwx l1' hbc hi3
    | free a b =>
      obtain ⟨rfl, hn0, hn1⟩ : k = 12 ∧ f0.norm = a ∧ f1.norm = b := HK.out
      have P0 := Lib.hid (fun (dn : Bool) (wy : World) (hy : Below wx.heap.size wx wy) => HI.out _ (by have := HT.out; simp only [T.size] at this; omega) f0 _ _ A0 n0 c0 dn wy S (HS.out.call ((hbwx.trans (hy.mono hbwx.size)).size)) hn0 (H0.out.call HS.out (hbwx.trans (hy.mono hbwx.size))))
      have P1 := Lib.hid (fun (dn : Bool) (wy : World) (hy : Below wx.heap.size wx wy) => HI.out _ (by have := HT.out; simp only [T.size] at this; omega) f1 _ _ A1 n1 c1 dn wy S (HS.out.call ((hbwx.trans (hy.mono hbwx.size)).size)) hn1 (H1.out.call HS.out (hbwx.trans (hy.mono hbwx.size))))
      clear HI HT HK hn0 hn1
      go_wp2_with fail
      go_region_held3 (fun w' => (∀ b o, b < wx.heap.size → b ≠ w.heap.size + 1 → w'.cell? ⟨b, o, none⟩ = wx.cell? ⟨b, o, none⟩))
        (first | with_reducible exact kd_ | with_reducible exact kb_ hb0 | with_reducible exact kb_ hbb | with_reducible exact kb_ hbc | with_reducible exact st3 (kb_ hbc))
        (first | (go_at_call 43; refine (turned_any _ _ _).mono ?_; rintro e w' ⟨rfl, rfl⟩) | (go_at_call_of 18 (Value.int .i64 (Ltl.kind f0)); refine (P0.out _ _ ?_).mono ?_; (first | with_reducible exact Below.refl _ _ | with_reducible exact (Below.refl _ _).drew | with_reducible exact hb0); rintro e w1 ⟨B0, m0, d0, rfl, hi0, hb0⟩; have hb0 := below_undrew hb0; have hi0 := hi0.undrew) | (go_at_call_of 18 (Value.int .i64 (Ltl.kind f1)); refine (P1.out _ _ ?_).mono ?_; (first | with_reducible exact Below.refl _ _ | with_reducible exact (Below.refl _ _).drew | with_reducible exact hb0); rintro e w2 ⟨B1, m1, d1, rfl, hi1, hb1⟩; have hbb := below_call hb0 hb1) | (go_at_call 44; refine (two_any _ (a.plain dn).ltl (b.plain dn).ltl _ _ _ _ _ _ _ (Ext S wx w2) ?_ ?_ ?_).mono ?_; (exact ((HS.out.call hbwx.size).ext (Nat.le_trans hb0.size hb1.size))); (exact Ltl.Is.ext_mono (hi0.call ((HS.out.call hbwx.size).ext hb0.size) hb1) (Nat.le_refl _) hb1.size); (exact hi1.ext_mono hb0.size (Nat.le_refl _)); rintro e w3 ⟨B2, m2, d2, rfl, hi2, hb2⟩; have hbc := below_call hbb hb2; obtain ⟨hc0, hf0⟩ := bcell hbc))
      go_wp2
      have hi3 := Ltl.Is.ext2 hi2 (Nat.le_trans hb0.size hb1.size) hb2.size
      rw [show ((T.free a b).plain dn).ltl = (Ltl.mk (turned 12 dn) 0 [(a.plain dn).ltl, (b.plain dn).ltl]) from by cases dn <;> rfl]
      obtain ⟨e0, e1, e2⟩ := set3 (HR.out.call hbc) (.int .i64 (Ltl.mk (turned 12 dn) 0 [(a.plain dn).ltl, (b.plain dn).ltl]).kind) (.int .i64 (Ltl.mk (turned 12 dn) 0 [(a.plain dn).ltl, (b.plain dn).ltl]).prop) (.slice B2 m2 d2)
      refine bodyPost_ret (v := .agg #[.int .i64 (Ltl.mk (turned 12 dn) 0 [(a.plain dn).ltl, (b.plain dn).ltl]).kind, .int .i64 (Ltl.mk (turned 12 dn) 0 [(a.plain dn).ltl, (b.plain dn).ltl]).prop, .slice B2 m2 d2]) (by simp [results, Try.results18, go_sem, e0, e1, e2]) rfl ?_
      exact ret_ltl (g := (Ltl.mk (turned 12 dn) 0 [(a.plain dn).ltl, (b.plain dn).ltl])) HS.out hbwx l1' hbc hi3
    | imp a b =>
      obtain ⟨rfl, hn0, hn1⟩ : k = 7 ∧ f0.norm = a ∧ f1.norm = b := HK.out
      have P0 := Lib.hid (fun (dn : Bool) (wy : World) (hy : Below wx.heap.size wx wy) => HI.out _ (by have := HT.out; simp only [T.size] at this; omega) f0 _ _ A0 n0 c0 dn wy S (HS.out.call ((hbwx.trans (hy.mono hbwx.size)).size)) hn0 (H0.out.call HS.out (hbwx.trans (hy.mono hbwx.size))))
      have P1 := Lib.hid (fun (dn : Bool) (wy : World) (hy : Below wx.heap.size wx wy) => HI.out _ (by have := HT.out; simp only [T.size] at this; omega) f1 _ _ A1 n1 c1 dn wy S (HS.out.call ((hbwx.trans (hy.mono hbwx.size)).size)) hn1 (H1.out.call HS.out (hbwx.trans (hy.mono hbwx.size))))
      clear HI HT HK hn0 hn1
      go_wp2_with fail
      go_region_held3 (fun w' => (∀ b o, b < wx.heap.size → b ≠ w.heap.size + 1 → w'.cell? ⟨b, o, none⟩ = wx.cell? ⟨b, o, none⟩))
        (first | with_reducible exact kd_ | with_reducible exact kb_ hb0 | with_reducible exact kb_ hbb | with_reducible exact kb_ hbc | with_reducible exact st3 (kb_ hbc))
        (first | (go_at_call 43; refine (turned_any _ _ _).mono ?_; rintro e w' ⟨rfl, rfl⟩) | (go_at_call_of 18 (Value.int .i64 (Ltl.kind f0)); refine (P0.out _ _ ?_).mono ?_; (first | with_reducible exact Below.refl _ _ | with_reducible exact (Below.refl _ _).drew | with_reducible exact hb0); rintro e w1 ⟨B0, m0, d0, rfl, hi0, hb0⟩; have hb0 := below_undrew hb0; have hi0 := hi0.undrew) | (go_at_call_of 18 (Value.int .i64 (Ltl.kind f1)); refine (P1.out _ _ ?_).mono ?_; (first | with_reducible exact Below.refl _ _ | with_reducible exact (Below.refl _ _).drew | with_reducible exact hb0); rintro e w2 ⟨B1, m1, d1, rfl, hi1, hb1⟩; have hbb := below_call hb0 hb1) | (go_at_call 44; refine (two_any _ (a.plain (!dn)).ltl (b.plain dn).ltl _ _ _ _ _ _ _ (Ext S wx w2) ?_ ?_ ?_).mono ?_; (exact ((HS.out.call hbwx.size).ext (Nat.le_trans hb0.size hb1.size))); (exact Ltl.Is.ext_mono (hi0.call ((HS.out.call hbwx.size).ext hb0.size) hb1) (Nat.le_refl _) hb1.size); (exact hi1.ext_mono hb0.size (Nat.le_refl _)); rintro e w3 ⟨B2, m2, d2, rfl, hi2, hb2⟩; have hbc := below_call hbb hb2; obtain ⟨hc0, hf0⟩ := bcell hbc))
      go_wp2
      have hi3 := Ltl.Is.ext2 hi2 (Nat.le_trans hb0.size hb1.size) hb2.size
      rw [show ((T.imp a b).plain dn).ltl = (Ltl.mk (turned 5 dn) 0 [(a.plain (!dn)).ltl, (b.plain dn).ltl]) from by cases dn <;> rfl]
      obtain ⟨e0, e1, e2⟩ := set3 (HR.out.call hbc) (.int .i64 (Ltl.mk (turned 5 dn) 0 [(a.plain (!dn)).ltl, (b.plain dn).ltl]).kind) (.int .i64 (Ltl.mk (turned 5 dn) 0 [(a.plain (!dn)).ltl, (b.plain dn).ltl]).prop) (.slice B2 m2 d2)
      refine bodyPost_ret (v := .agg #[.int .i64 (Ltl.mk (turned 5 dn) 0 [(a.plain (!dn)).ltl, (b.plain dn).ltl]).kind, .int .i64 (Ltl.mk (turned 5 dn) 0 [(a.plain (!dn)).ltl, (b.plain dn).ltl]).prop, .slice B2 m2 d2]) (by simp [results, Try.results18, go_sem, e0, e1, e2]) rfl ?_
      exact ret_ltl (g := (Ltl.mk (turned 5 dn) 0 [(a.plain (!dn)).ltl, (b.plain dn).ltl])) HS.out hbwx l1' hbc hi3
    | all a =>
      obtain ⟨rfl, hn0⟩ : k = 9 ∧ f0.norm = a := HK.out
      have P0 := Lib.hid (fun (dn : Bool) (wy : World) (hy : Below wx.heap.size wx wy) => HI.out _ (by have := HT.out; simp only [T.size] at this; omega) f0 _ _ A0 n0 c0 dn wy S (HS.out.call ((hbwx.trans (hy.mono hbwx.size)).size)) hn0 (H0.out.call HS.out (hbwx.trans (hy.mono hbwx.size))))
      clear HI HT HK hn0
      go_wp2_with fail
      go_region_held3 (fun w' => (∀ b o, b < wx.heap.size → b ≠ w.heap.size + 1 → w'.cell? ⟨b, o, none⟩ = wx.cell? ⟨b, o, none⟩))
        (first | with_reducible exact kd_ | with_reducible exact kb_ hb0 | with_reducible exact kb_ hbb | with_reducible exact kb_ hbc | with_reducible exact st3 (kb_ hbc))
        (first | (go_at_call 43; refine (turned_any _ _ _).mono ?_; rintro e w' ⟨rfl, rfl⟩) | (go_at_call_of 18 (Value.int .i64 (Ltl.kind f0)); refine (P0.out _ _ ?_).mono ?_; (first | with_reducible exact Below.refl _ _ | with_reducible exact (Below.refl _ _).drew | with_reducible exact hb0); rintro e w1 ⟨B0, m0, d0, rfl, hi0, hb0⟩; have hb0 := below_undrew hb0; have hi0 := hi0.undrew) | (go_at_call 44; refine (two_any _ (.mk (turned 1 dn) 0 []) (a.plain dn).ltl _ _ _ _ _ _ _ (Ext S wx w1) ?_ ?_ ?_).mono ?_; (exact ((HS.out.call hbwx.size).ext hb0.size)); (exact leaf_is _ _ _ _); (exact hi0); rintro e w3 ⟨B2, m2, d2, rfl, hi2, hb2⟩; have hbc := below_call hb0 hb2; obtain ⟨hc0, hf0⟩ := bcell hbc))
      go_wp2
      have hi3 := Ltl.Is.ext2 hi2 hb0.size hb2.size
      rw [show ((T.all a).plain dn).ltl = (Ltl.mk (turned 12 dn) 0 [.mk (turned 1 dn) 0 [], (a.plain dn).ltl]) from by cases dn <;> rfl]
      obtain ⟨e0, e1, e2⟩ := set3 (HR.out.call hbc) (.int .i64 (Ltl.mk (turned 12 dn) 0 [.mk (turned 1 dn) 0 [], (a.plain dn).ltl]).kind) (.int .i64 (Ltl.mk (turned 12 dn) 0 [.mk (turned 1 dn) 0 [], (a.plain dn).ltl]).prop) (.slice B2 m2 d2)
      refine bodyPost_ret (v := .agg #[.int .i64 (Ltl.mk (turned 12 dn) 0 [.mk (turned 1 dn) 0 [], (a.plain dn).ltl]).kind, .int .i64 (Ltl.mk (turned 12 dn) 0 [.mk (turned 1 dn) 0 [], (a.plain dn).ltl]).prop, .slice B2 m2 d2]) (by simp [results, Try.results18, go_sem, e0, e1, e2]) rfl ?_
      exact ret_ltl (g := (Ltl.mk (turned 12 dn) 0 [.mk (turned 1 dn) 0 [], (a.plain dn).ltl])) HS.out hbwx l1' hbc hi3
    | some_ a =>
      obtain ⟨rfl, hn0⟩ : k = 10 ∧ f0.norm = a := HK.out
      have P0 := Lib.hid (fun (dn : Bool) (wy : World) (hy : Below wx.heap.size wx wy) => HI.out _ (by have := HT.out; simp only [T.size] at this; omega) f0 _ _ A0 n0 c0 dn wy S (HS.out.call ((hbwx.trans (hy.mono hbwx.size)).size)) hn0 (H0.out.call HS.out (hbwx.trans (hy.mono hbwx.size))))
      clear HI HT HK hn0
      go_wp2_with fail
      go_region_held3 (fun w' => (∀ b o, b < wx.heap.size → b ≠ w.heap.size + 1 → w'.cell? ⟨b, o, none⟩ = wx.cell? ⟨b, o, none⟩))
        (first | with_reducible exact kd_ | with_reducible exact kb_ hb0 | with_reducible exact kb_ hbb | with_reducible exact kb_ hbc | with_reducible exact st3 (kb_ hbc))
        (first | (go_at_call 43; refine (turned_any _ _ _).mono ?_; rintro e w' ⟨rfl, rfl⟩) | (go_at_call_of 18 (Value.int .i64 (Ltl.kind f0)); refine (P0.out _ _ ?_).mono ?_; (first | with_reducible exact Below.refl _ _ | with_reducible exact (Below.refl _ _).drew | with_reducible exact hb0); rintro e w1 ⟨B0, m0, d0, rfl, hi0, hb0⟩; have hb0 := below_undrew hb0; have hi0 := hi0.undrew) | (go_at_call 44; refine (two_any _ (.mk (turned 0 dn) 0 []) (a.plain dn).ltl _ _ _ _ _ _ _ (Ext S wx w1) ?_ ?_ ?_).mono ?_; (exact ((HS.out.call hbwx.size).ext hb0.size)); (exact leaf_is _ _ _ _); (exact hi0); rintro e w3 ⟨B2, m2, d2, rfl, hi2, hb2⟩; have hbc := below_call hb0 hb2; obtain ⟨hc0, hf0⟩ := bcell hbc))
      go_wp2
      have hi3 := Ltl.Is.ext2 hi2 hb0.size hb2.size
      rw [show ((T.some_ a).plain dn).ltl = (Ltl.mk (turned 11 dn) 0 [.mk (turned 0 dn) 0 [], (a.plain dn).ltl]) from by cases dn <;> rfl]
      obtain ⟨e0, e1, e2⟩ := set3 (HR.out.call hbc) (.int .i64 (Ltl.mk (turned 11 dn) 0 [.mk (turned 0 dn) 0 [], (a.plain dn).ltl]).kind) (.int .i64 (Ltl.mk (turned 11 dn) 0 [.mk (turned 0 dn) 0 [], (a.plain dn).ltl]).prop) (.slice B2 m2 d2)
      refine bodyPost_ret (v := .agg #[.int .i64 (Ltl.mk (turned 11 dn) 0 [.mk (turned 0 dn) 0 [], (a.plain dn).ltl]).kind, .int .i64 (Ltl.mk (turned 11 dn) 0 [.mk (turned 0 dn) 0 [], (a.plain dn).ltl]).prop, .slice B2 m2 d2]) (by simp [results, Try.results18, go_sem, e0, e1, e2]) rfl ?_
      exact ret_ltl (g := (Ltl.mk (turned 11 dn) 0 [.mk (turned 0 dn) 0 [], (a.plain dn).ltl])) HS.out hbwx l1' hbc hi3
    | atom i =>
      obtain ⟨rfl, rfl⟩ : k = 2 ∧ p = i := HK.out
      clear HI HT HK
      cases dn
      · go_wp2
        rw [alloc_set3 l1']
        obtain ⟨e0, e1, e2⟩ := set3 (HR.out.call (below_one _ (.cells #[.int .i64 2, .int .i64 p, .slice none 0 0] 24))) (.int .i64 2) (.int .i64 p) (.slice none 0 0)
        refine bodyPost_ret (v := .agg #[.int .i64 2, .int .i64 p, .slice none 0 0]) (by simp [results, Try.results18, go_sem, e0, e1, e2]) rfl ?_
        exact ret_ltl (g := (T.ltl (.atom p))) HS.out hbwx l1' (below_one _ (.cells #[.int .i64 2, .int .i64 p, .slice none 0 0] 24)) (leaf_is _ _ _ _)
      · go_wp2
        rw [alloc_set3 l1', alloc_set3 (by simp; omega)]
        have hb1 := below_one wx (.cells #[.int .i64 2, .int .i64 p, .slice none 0 0] 24)
        have hb2 := below_alloc (o := .cells #[.int .i64 2, .int .i64 p, .slice none 0 0] 24) hb1
        have hg := Blk.new (wx.alloc (.cells #[.int .i64 2, .int .i64 p, .slice none 0 0] 24)) 24 #[.int .i64 2, .int .i64 p, .slice none 0 0]
        rw [World.size_alloc] at hg
        have hi := one_is 3 (.mk 2 p []) none 0 0 wx _ S _ (HS.out.call hbwx.size) (leaf_is 2 p wx S) hb2 (Nat.le_succ _) hg
        obtain ⟨e0, e1, e2⟩ := set3 (HR.out.call hb2) (.int .i64 3) (.int .i64 0) (.slice (some ⟨wx.heap.size + 1, 0, none⟩) 1 1)
        refine bodyPost_ret (v := .agg #[.int .i64 3, .int .i64 0, .slice (some ⟨wx.heap.size + 1, 0, none⟩) 1 1]) (by simp [results, Try.results18, go_sem, e0, e1, e2]) rfl ?_
        exact ret_ltl (g := (T.ltl (.not (.atom p)))) HS.out hbwx l1' hb2 hi

theorem plain_all : ∀ m, PlainUp m
  | 0 => fun t ht => by cases t <;> simp [T.size] at ht
  | m + 1 => plain_up m (plain_all m)
theorem plain_any (f : Ltl) (k p : Int) (A : Option Addr) (n c : Nat) (dn : Bool) (w : World) (S : Nat → Prop) (hS : Bd S w) (hf : Ltl.Is w S f [.int .i64 k, .int .i64 p, .slice A n c]) :
    Calls Try.prog 18 #[.agg #[.int .i64 k, .int .i64 p, .slice A n c], .bool dn] w (RetLtl w S (f.norm.plain dn).ltl) :=
  plain_all _ f.norm (Nat.le_refl _) f k p A n c dn w S hS rfl hf
end Go.Proofs.Ytedbjkjncfinnaa
