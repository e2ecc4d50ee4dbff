/-
  Layer 10's laws: the document's examples hold.
-/
import Derived.Test.YtedbjkjncfinnaaLexH
import Derived.Test.YtedbjkjncfinnaaJump
namespace Go.Proofs.Ytedbjkjncfinnaa
open Go.RowKit

/-- The tokens, with fuel: to be computed. -/
def lexF : Nat → List UInt8 → Nat × Nat → LexR
  | 0, _, _ => .err 0 0 0
  | f + 1, l, p => match tok1 (l.drop (gap false l)) with
    | .fin => .ok [⟨5, [], (adv p (l.take (gap false l))).1, (adv p (l.take (gap false l))).2⟩]
    | .err e => .err e (adv p (l.take (gap false l))).1 (adv p (l.take (gap false l))).2
    | .tok kind n => (lexF f (l.drop (gap false l + n)) (adv (adv p (l.take (gap false l))) ((l.drop (gap false l)).take n))).more ⟨kind, (l.drop (gap false l)).take n, (adv p (l.take (gap false l))).1, (adv p (l.take (gap false l))).2⟩
theorem lexF_eq : ∀ (f : Nat) (l : List UInt8) (p : Nat × Nat), l.length < f → lexF f l p = lexL l p
  | 0, _, _, h => by omega
  | f + 1, l, p, h => by
    rw [lexL_eq, lexF]
    cases hk : tok1 (l.drop (gap false l)) with
    | fin => rfl
    | err e => rfl
    | tok k n =>
      simp only
      have h1 := tok1_len hk
      rw [List.length_drop] at h1
      rw [lexF_eq f _ _ (by rw [List.length_drop]; omega)]
def exToks : List Tk := [⟨1, [120, 49], 1, 1⟩, ⟨2, [58, 61], 1, 3⟩, ⟨2, [45], 1, 5⟩, ⟨3, [50], 1, 6⟩, ⟨5, [], 1, 7⟩]
theorem ex1 : lexAll [120, 49, 58, 61, 45, 50] = .ok exToks := by
  unfold lexAll
  rw [← lexF_eq 7 _ _ (by decide)]
  decide +kernel
theorem ex2 : lexAll [97, 10, 32, 32, 63] = .err 100 2 3 := by
  unfold lexAll
  rw [← lexF_eq 6 _ _ (by decide)]
  decide +kernel
theorem ex3 : lexAll [48, 48, 55] = .err 20 1 1 := by
  unfold lexAll
  rw [← lexF_eq 4 _ _ (by decide)]
  decide +kernel
theorem all_ok (s : ByteArray) (ts : List Tk) (w : World) (h : lexAll s.data.toList = .ok ts) (hs : s.size ≤ 9223372036854775807) : Calls Try.prog 29 #[.string s] w fun e w' => ∃ A c, e = .returned (.tuple #[.slice A ts.length c, .agg #[.int .i64 0, .int .i64 0], .int .i64 0]) ∧ TksIn w' (.slice A ts.length c) ts ∧ Below w.heap.size w w' :=
  (all_any s w hs).mono fun e w' he => by
    rw [h] at he
    obtain ⟨v, rfl, ho, hb⟩ := he
    have hi := OwnTks.inn ho
    obtain ⟨A, c, rfl, _⟩ := id hi
    exact ⟨A, c, rfl, hi, hb⟩
theorem all_err (s : ByteArray) (c ln co : Nat) (w : World) (h : lexAll s.data.toList = .err c ln co) (hs : s.size ≤ 9223372036854775807) : Calls Try.prog 29 #[.string s] w fun e w' => e = .returned (.tuple #[.slice none 0 0, .agg #[.int .i64 ln, .int .i64 co], .int .i64 c]) ∧ Below w.heap.size w w' :=
  (all_any s w hs).mono fun e w' he => by
    rw [h] at he
    exact he
theorem spell_ex (v : Value) (w : World) (h : TksIn w v exToks) : Calls Try.prog 46 #[v] w fun e w' => e = .returned (.string ⟨#[120, 49, 32, 58, 61, 32, 45, 32, 50, 32]⟩) ∧ Below w.heap.size w w' := by
  refine (spell_any exToks v w h (by decide) ?_).mono ?_
  · decide +kernel
  · rintro e w' ⟨rfl, hb⟩
    exact ⟨by rw [show spellL exToks = [120, 49, 32, 58, 61, 32, 45, 32, 50, 32] by decide +kernel], hb⟩
theorem res_ex (w : World) : Calls Try.prog 47 #[.string ⟨#[105, 110, 105, 116]⟩] w fun e w' => e = .returned (.bool true) ∧ Below w.heap.size w w' :=
  (reserved_any _ w).mono fun e w' h => ⟨h.1.trans (by rw [show resB (ByteArray.mk #[105, 110, 105, 116]).data.toList = true by decide +kernel]), h.2⟩
theorem name_ex1 (w : World) : Calls Try.prog 48 #[.string ⟨#[97, 95, 49]⟩] w fun e w' => e = .returned (.bool true) ∧ Below w.heap.size w w' :=
  (name_any _ w (by decide)).mono fun e w' h => ⟨h.1.trans (by rw [show nameB (ByteArray.mk #[97, 95, 49]).data.toList = true by decide +kernel]), h.2⟩
theorem name_ex2 (w : World) : Calls Try.prog 48 #[.string ⟨#[101, 110, 100]⟩] w fun e w' => e = .returned (.bool false) ∧ Below w.heap.size w w' :=
  (name_any _ w (by decide)).mono fun e w' h => ⟨h.1.trans (by rw [show nameB (ByteArray.mk #[101, 110, 100]).data.toList = false by decide +kernel]), h.2⟩
theorem num_ex1 (w : World) : Calls Try.prog 49 #[.string ⟨#[49, 48]⟩] w fun e w' => e = .returned (.bool true) ∧ Below w.heap.size w w' :=
  (number_any _ w (by decide)).mono fun e w' h => ⟨h.1.trans (by rw [show numB (ByteArray.mk #[49, 48]).data.toList = true by decide +kernel]), h.2⟩
theorem num_ex2 (w : World) : Calls Try.prog 49 #[.string ⟨#[]⟩] w fun e w' => e = .returned (.bool false) ∧ Below w.heap.size w w' :=
  (number_any _ w (by decide)).mono fun e w' h => ⟨h.1.trans (by rw [show numB (ByteArray.mk #[]).data.toList = false by decide +kernel]), h.2⟩
theorem all_ex (n : Nat) (hn : n = 5) (w : World) : Calls Try.prog 29 #[.string ⟨#[120, 49, 58, 61, 45, 50]⟩] w fun e w' => ∃ A c, e = .returned (.tuple #[.slice A n c, .agg #[.int .i64 0, .int .i64 0], .int .i64 0]) ∧ TksIn w' (.slice A n c) exToks ∧ Below w.heap.size w w' := by
  subst hn
  exact all_ok ⟨#[120, 49, 58, 61, 45, 50]⟩ exToks w ex1 (by decide)
/-- What alive reads. -/
def AlvR (n b P1 P2 : Nat) (A : Option Addr) (c : Nat) (W : World) : Prop := TksIn W (.slice A n c) exToks ∧ W.cell? ⟨b, 4, none⟩ = some (.int .i64 2) ∧ W.cell? ⟨b, 5, none⟩ = some (.string ⟨#[58, 61]⟩) ∧ W.cell? ⟨b, 12, none⟩ = some (.int .i64 3) ∧ W.cell? ⟨b, 16, none⟩ = some (.int .i64 5) ∧
  W.cell? ⟨P1, 0, none⟩ = some (.int .i64 0) ∧ W.cell? ⟨P1, 1, none⟩ = some (.int .i64 0) ∧ W.cell? ⟨P2, 0, none⟩ = some (.int .i64 2) ∧ W.cell? ⟨P2, 1, none⟩ = some (.int .i64 3)
theorem AlvR.call {n b P1 P2 : Nat} {A : Option Addr} {c : Nat} {W W' : World} (h : AlvR n b P1 P2 A c W) (hb : Below W.heap.size W W') : AlvR n b P1 P2 A c W' := by
  obtain ⟨h0, h1, h2, h3, h4, h5, h6, h7, h8⟩ := h
  have k : ∀ {g o : Nat} {v : Value}, W.cell? ⟨g, o, none⟩ = some v → W'.cell? ⟨g, o, none⟩ = some v := fun {g o v} h => (hb.cell (p := ⟨g, o, none⟩) (lt_size h)).trans h
  exact ⟨h0.call hb, k h1, k h2, k h3, k h4, k h5, k h6, k h7, k h8⟩

set_option maxRecDepth 100000 in
set_option maxHeartbeats 8000000 in
theorem alive10_any (w : World) : Calls Try.prog 28 #[] w fun e w' => e = .returned (.bool true) ∧ Below w.heap.size w w' := by
  go_enter Try.func28, Try.ntmps28
  go_wp2_with fail
  obtain ⟨n, hn⟩ : ∃ n : Nat, n = 5 := ⟨_, rfl⟩
  have n1 : (1 : Int) < (n : Int) := by omega
  have n3 : (3 : Int) < (n : Int) := by omega
  have n4 : (4 : Int) < (n : Int) := by omega
  have n5 : ((n : Int) == 5) = true := by rw [hn]; rfl
  have HNN := Lib.hid hn
  clear hn
  refine (all_ex n HNN.out w).mono ?_
  rintro e1 w1 ⟨A, c, rfl, hts, hb1⟩
  have HB1 := Lib.hid hb1
  have HTS := Lib.hid hts
  clear hb1 hts
  have hk1 := Blk.new w1 49 #[.int .i64 0, .int .i64 0]
  have hbo1 := below_one w1 (.cells #[.int .i64 0, .int .i64 0] 49)
  have HK1 := Lib.hid hk1
  have HT1 := Lib.hid (HTS.out.call hbo1)
  have HC1 := Lib.hid (below_call HB1.out hbo1)
  clear hk1 hbo1 HB1 HTS
  go_wp2_with fail
  generalize (w1.alloc (.cells #[.int .i64 0, .int .i64 0] 49)) = W1 at *
  generalize w1.heap.size = P1 at *
  refine (all_err ⟨#[97, 10, 32, 32, 63]⟩ 100 2 3 W1 ex2 (by decide)).mono ?_
  rintro e2 w2 ⟨rfl, hb2⟩
  have hk2 := Blk.new w2 49 #[.int .i64 2, .int .i64 3]
  have hbo2 := below_call hb2 (below_one w2 (.cells #[.int .i64 2, .int .i64 3] 49))
  have HK2 := Lib.hid hk2
  have HK12 := Lib.hid (HK1.out.call hbo2)
  have HT2 := Lib.hid (HT1.out.call hbo2)
  have HC2 := Lib.hid (below_call HC1.out hbo2)
  clear hk2 hbo2 hb2 HK1 HT1 HC1
  go_wp2_with fail
  generalize (w2.alloc (.cells #[.int .i64 2, .int .i64 3] 49)) = W2 at *
  generalize w2.heap.size = P2 at *
  refine (all_err ⟨#[48, 48, 55]⟩ 20 1 1 W2 ex3 (by decide)).mono ?_
  rintro e3 w3 ⟨rfl, hb3⟩
  have HK23 := Lib.hid (HK2.out.call hb3)
  have HK13 := Lib.hid (HK12.out.call hb3)
  have HT3 := Lib.hid (HT2.out.call hb3)
  have HC3 := Lib.hid (below_call HC2.out hb3)
  clear hb3 HK2 HK12 HT2 HC2
  obtain ⟨A', c', hv, hx⟩ := id HT3.out
  obtain ⟨rfl, -, rfl⟩ : A = A' ∧ True ∧ c = c' := by injection hv with h1 h2 h3; exact ⟨h1, trivial, h3⟩
  obtain ⟨b, rfl, hbl, hcell⟩ := hx (by decide)
  have HR0 := Lib.hid (show AlvR n b P1 P2 (some ⟨b, 0, none⟩) c w3 from ⟨HT3.out, hcell 4 _ rfl, hcell 5 _ rfl, hcell 12 _ rfl, hcell 16 _ rfl, (cells2' HK13.out).1, (cells2' HK13.out).2, (cells2' HK23.out).1, (cells2' HK23.out).2⟩)
  clear hx hv hcell HK13 HK23 HT3
  obtain ⟨_, y1, y2, y3, y4, y5, y6, y7, y8⟩ := HR0.out
  have l1 : P1 < w3.heap.size := lt_size y5
  have l2 : P2 < w3.heap.size := lt_size y7
  have hbo3 := below_one w3 (.cells #[.int .i64 1, .int .i64 1] 49)
  have HR := Lib.hid (HR0.out.call hbo3)
  have HC4 := Lib.hid (below_call HC3.out hbo3)
  clear hbo3 HR0 HC3
  go_wp2_with fail
  generalize (w3.alloc (.cells #[.int .i64 1, .int .i64 1] 49)) = W3 at *
  clear y1 y2 y3 y4 y5 y6 y7 y8 l1 l2
  have HC3 := HC4
  clear HC4
  refine (spell_ex _ W3 HR.out.1).mono ?_
  rintro e0 x0 ⟨rfl, hbb⟩
  have HD0 := Lib.hid (below_call HC3.out hbb)
  clear hbb HC3
  have HC3 := HD0
  clear HD0
  go_wp2_with fail
  refine (res_ex x0).mono ?_
  rintro e1 x1 ⟨rfl, hbb⟩
  have HD1 := Lib.hid (below_call HC3.out hbb)
  clear hbb HC3
  have HC3 := HD1
  clear HD1
  go_wp2_with fail
  refine (name_ex1 x1).mono ?_
  rintro e2 x2 ⟨rfl, hbb⟩
  have HD2 := Lib.hid (below_call HC3.out hbb)
  clear hbb HC3
  have HC3 := HD2
  clear HD2
  go_wp2_with fail
  refine (name_ex2 x2).mono ?_
  rintro e3 x3 ⟨rfl, hbb⟩
  have HD3 := Lib.hid (below_call HC3.out hbb)
  clear hbb HC3
  have HC3 := HD3
  clear HD3
  go_wp2_with fail
  refine (num_ex1 x3).mono ?_
  rintro e4 x4 ⟨rfl, hbb⟩
  have HD4 := Lib.hid (below_call HC3.out hbb)
  clear hbb HC3
  have HC3 := HD4
  clear HD4
  go_wp2_with fail
  refine (num_ex2 x4).mono ?_
  rintro e5 x5 ⟨rfl, hbb⟩
  have HD5 := Lib.hid (below_call HC3.out hbb)
  clear hbb HC3
  have HC3 := HD5
  clear HD5
  go_wp2_with fail
  go_ret
  exact ⟨rfl, HC3.out⟩
end Go.Proofs.Ytedbjkjncfinnaa
