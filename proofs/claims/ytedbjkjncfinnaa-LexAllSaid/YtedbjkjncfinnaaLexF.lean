/-
  Layer 10: a token is taken.
-/
import Derived.Test.YtedbjkjncfinnaaLexD
import Derived.Test.YtedbjkjncfinnaaLexE
import Derived.Deep.RegionHeld3
import Derived.Laws.IdiomStrings
import Derived.Test.YtedbjkjncfinnaaRead
namespace Go.Proofs.Ytedbjkjncfinnaa
open Go.RowKit

def tokV (k : Nat) (t : ByteArray) (p : Nat × Nat) : Value := .agg #[.int .i64 k, .string t, .int .i64 p.1, .int .i64 p.2]
def tokZ : Value := .agg #[.int .i64 0, .string ⟨#[]⟩, .int .i64 0, .int .i64 0]
set_option maxRecDepth 100000 in
set_option maxHeartbeats 4000000 in
theorem number_long (t : ByteArray) (a b : Nat) (w : World) (h : 60 < t.size) (hs : t.size ≤ 9223372036854775807) : Calls Try.prog 79 #[.string t, .agg #[.int .i64 a, .int .i64 b]] w fun e w' => e = .returned (.tuple #[tokZ, .int .i64 2]) ∧ Below w.heap.size w w' := by
  have q : (60 : Int) < (t.size : Int) := by omega
  go_enter Try.func79, Try.ntmps79
  go_wp2
  exact bodyPost_ret (v := .tuple #[tokZ, .int .i64 2]) (by simp [results, Try.results79, go_sem, tokZ]) rfl ⟨rfl, below_alloc (below_one _ _)⟩
theorem blk_set4 {w : World} {g : Nat} {t : TypeId} {x0 x1 x2 x3 : Value} (h : Blk w g t #[x0, x1, x2, x3]) (a b c d : Value) : Blk ((((w.setCell ⟨g, 0, none⟩ a).setCell ⟨g, 1, none⟩ b).setCell ⟨g, 2, none⟩ c).setCell ⟨g, 3, none⟩ d) g t #[a, b, c, d] := by
  simpa using (((h.set_ 0 a).set_ 1 b).set_ 2 c).set_ 3 d
theorem cells4 {W : World} {g : Nat} {t : TypeId} {a b c d : Value} (h : Blk W g t #[a, b, c, d]) : W.cell? ⟨g, 0, none⟩ = some a ∧ W.cell? ⟨g, 1, none⟩ = some b ∧ W.cell? ⟨g, 2, none⟩ = some c ∧ W.cell? ⟨g, 3, none⟩ = some d := by
  rw [h.cell, h.cell, h.cell, h.cell]
  exact ⟨rfl, rfl, rfl, rfl⟩
theorem frozen4 {W : World} {g : Nat} {t : TypeId} {cs : Array Value} (h : Blk W g t cs) : W.frozen? ⟨g, 0, none⟩ = false ∧ W.frozen? ⟨g, 1, none⟩ = false ∧ W.frozen? ⟨g, 2, none⟩ = false ∧ W.frozen? ⟨g, 3, none⟩ = false :=
  ⟨h.frozen 0, h.frozen 1, h.frozen 2, h.frozen 3⟩
theorem below_set4 {W w : World} {g : Nat} (h : Below W.heap.size W w) (hp : W.heap.size ≤ g) (a b c d : Value) : Below W.heap.size W ((((w.setCell ⟨g, 0, none⟩ a).setCell ⟨g, 1, none⟩ b).setCell ⟨g, 2, none⟩ c).setCell ⟨g, 3, none⟩ d) :=
  below_set (below_set (below_set (below_set h hp) hp) hp) hp
theorem boxes2 (w : World) (t1 t2 : TypeId) (c1 c2 : Array Value) : Blk ((w.alloc (.cells c1 t1)).alloc (.cells c2 t2)) w.heap.size t1 c1 ∧ Blk ((w.alloc (.cells c1 t1)).alloc (.cells c2 t2)) (w.heap.size + 1) t2 c2 ∧ Below w.heap.size w ((w.alloc (.cells c1 t1)).alloc (.cells c2 t2)) := by
  refine ⟨(Blk.new w t1 c1).alloc _, ?_, below_alloc (below_one _ _)⟩
  have := Blk.new (w.alloc (.cells c1 t1)) t2 c2
  rwa [World.size_alloc] at this
set_option maxRecDepth 100000 in
set_option maxHeartbeats 4000000 in
theorem number_short (t : ByteArray) (a b : Nat) (w : World) (h : ¬ 60 < t.size) : Calls Try.prog 79 #[.string t, .agg #[.int .i64 a, .int .i64 b]] w fun e w' =>
    e = .returned (.tuple (if numB t.data.toList then #[tokV 3 t (a, b), .int .i64 0] else #[tokZ, .int .i64 20])) ∧ Below w.heap.size w w' := by
  have q : ¬ (60 : Int) < (t.size : Int) := by omega
  rcases hn : numB t.data.toList with _ | _
  · have HN := Lib.hid hn
    clear hn
    go_enter Try.func79, Try.ntmps79
    go_wp2_with fail
    refine (number_any t _ (by omega)).mono ?_
    rw [HN.out]
    rintro e w' ⟨rfl, hb⟩
    obtain ⟨k1, k2, k3⟩ := boxes2 w 49 68 #[.int .i64 a, .int .i64 b] #[.int .i64 0, .string ⟨#[]⟩, .int .i64 0, .int .i64 0]
    generalize ((w.alloc (.cells #[.int .i64 a, .int .i64 b] 49)).alloc (.cells #[.int .i64 0, .string ⟨#[]⟩, .int .i64 0, .int .i64 0] 68)) = W0 at *
    have HB := Lib.hid (below_call k3 hb)
    have HK1 := Lib.hid (k1.call hb)
    have HK2 := Lib.hid (k2.call hb)
    obtain ⟨c0, c1, c2, c3⟩ := cells4 (k2.call hb)
    obtain ⟨f0, f1, f2, f3⟩ := frozen4 (k2.call hb)
    have d0 := (k1.call hb).cell 0
    have d1 := (k1.call hb).cell 1
    simp only [List.getElem?_toArray, List.getElem?_cons_zero, List.getElem?_cons_succ] at d0 d1
    clear hb k1 k2 k3
    go_wp2
    obtain ⟨e0, e1, e2, e3⟩ := cells4 (blk_set4 HK2.out (.int .i64 0) (.string ⟨#[]⟩) (.int .i64 0) (.int .i64 0))
    refine bodyPost_ret (v := .tuple #[tokZ, .int .i64 20]) (by simp [results, Try.results79, go_sem, tokZ, e0, e1, e2, e3]) rfl ⟨rfl, below_set4 HB.out (by omega) (.int .i64 0) (.string ⟨#[]⟩) (.int .i64 0) (.int .i64 0)⟩
  · have HN := Lib.hid hn
    clear hn
    go_enter Try.func79, Try.ntmps79
    go_wp2_with fail
    refine (number_any t _ (by omega)).mono ?_
    rw [HN.out]
    rintro e w' ⟨rfl, hb⟩
    obtain ⟨k1, k2, k3⟩ := boxes2 w 49 68 #[.int .i64 a, .int .i64 b] #[.int .i64 0, .string ⟨#[]⟩, .int .i64 0, .int .i64 0]
    generalize ((w.alloc (.cells #[.int .i64 a, .int .i64 b] 49)).alloc (.cells #[.int .i64 0, .string ⟨#[]⟩, .int .i64 0, .int .i64 0] 68)) = W0 at *
    have HB := Lib.hid (below_call k3 hb)
    have HK1 := Lib.hid (k1.call hb)
    have HK2 := Lib.hid (k2.call hb)
    obtain ⟨c0, c1, c2, c3⟩ := cells4 (k2.call hb)
    obtain ⟨f0, f1, f2, f3⟩ := frozen4 (k2.call hb)
    have d0 := (k1.call hb).cell 0
    have d1 := (k1.call hb).cell 1
    simp only [List.getElem?_toArray, List.getElem?_cons_zero, List.getElem?_cons_succ] at d0 d1
    clear hb k1 k2 k3
    go_wp2
    obtain ⟨e0, e1, e2, e3⟩ := cells4 (blk_set4 HK2.out (.int .i64 3) (.string t) (.int .i64 a) (.int .i64 b))
    refine bodyPost_ret (v := .tuple #[tokV 3 t (a, b), .int .i64 0]) (by simp [results, Try.results79, go_sem, tokV, e0, e1, e2, e3]) rfl ⟨rfl, below_set4 HB.out (by omega) (.int .i64 3) (.string t) (.int .i64 a) (.int .i64 b)⟩

/-- What a token's taking hands back. -/
def TokRet (s : ByteArray) (g i : Nat) (p : Nat × Nat) (w : World) (r : Tok1) (e : Ending) (w' : World) : Prop := match r with
  | .fin => e = .returned (.tuple #[tokV 5 ⟨#[]⟩ p, .int .i64 0]) ∧ w.grownBy w' (some g)
  | .err c => e = .returned (.tuple #[tokZ, .int .i64 c]) ∧ w.grownBy w' (some g)
  | .tok k n => ∃ t : ByteArray, e = .returned (.tuple #[tokV k t p, .int .i64 0]) ∧ t.data.toList = cut s i n ∧ Rd w' g s (i + n) (posAt s i p n) ∧ w.grownBy w' (some g)
/-- The boxes of a token and of its place, beside the reader's. -/
structure TB (w : World) (g : Nat) (s : ByteArray) (i j : Nat) (p q : Nat × Nat) (R P : Nat) (W : World) : Prop where
  rd : Rd W g s j q
  gr : w.grownBy W (some g)
  k1 : Blk W R 68 #[.int .i64 0, .string ⟨#[]⟩, .int .i64 0, .int .i64 0]
  k2 : Blk W P 49 #[.int .i64 p.1, .int .i64 p.2]
  hR : w.heap.size ≤ R
  hP : w.heap.size ≤ P
  hg : g < w.heap.size
section
variable {w : World} {g : Nat} {s : ByteArray} {i j j' : Nat} {p q q' : Nat × Nat} {R P : Nat} {W W' : World}
theorem TB.call (h : TB w g s i j p q R P W) (hb : Below W.heap.size W W') : TB w g s i j p q R P W' := ⟨Blk.call h.rd hb, grown_trans h.gr (grown_of_call hb), h.k1.call hb, h.k2.call hb, h.hR, h.hP, h.hg⟩
theorem TB.turn (h : TB w g s i j p q R P W) (hr : Rd W' g s j' q') (hgr : W.grownBy W' (some g)) : TB w g s i j' p q' R P W' := by
  have k1 : Blk W' R _ _ := (hgr.block R h.k1.lt (fun e => by have := h.hR; have := h.hg; cases e; omega)).trans h.k1
  have k2 : Blk W' P _ _ := (hgr.block P h.k2.lt (fun e => by have := h.hP; have := h.hg; cases e; omega)).trans h.k2
  exact ⟨hr, grown_trans h.gr hgr, k1, k2, h.hR, h.hP, h.hg⟩
theorem TB.cells (h : TB w g s i j p q R P W) : W.cell? ⟨g, 0, none⟩ = some (.string s) ∧ W.cell? ⟨g, 1, none⟩ = some (.int .i64 j) ∧ W.cell? ⟨P, 0, none⟩ = some (.int .i64 p.1) ∧ W.cell? ⟨P, 1, none⟩ = some (.int .i64 p.2) := by
  obtain ⟨c0, c1, _⟩ := h.rd.cells
  refine ⟨c0, c1, ?_, ?_⟩
  · rw [h.k2.cell]; rfl
  · rw [h.k2.cell]; rfl
/-- Behind the store of the token. -/
theorem TB.end_ (h : TB w g s i j p q R P W) (a b c d : Value) : let W' := (((W.setCell ⟨R, 0, none⟩ a).setCell ⟨R, 1, none⟩ b).setCell ⟨R, 2, none⟩ c).setCell ⟨R, 3, none⟩ d
    Rd W' g s j q ∧ w.grownBy W' (some g) ∧ W'.cell? ⟨R, 0, none⟩ = some a ∧ W'.cell? ⟨R, 1, none⟩ = some b ∧ W'.cell? ⟨R, 2, none⟩ = some c ∧ W'.cell? ⟨R, 3, none⟩ = some d := by
  have hne : g ≠ R := by have := h.hR; have := h.hg; omega
  refine ⟨?_, ?_, cells4 (blk_set4 h.k1 a b c d)⟩
  · exact (((Blk.far h.rd (p := ⟨R, 0, none⟩) hne a).far (p := ⟨R, 1, none⟩) hne b).far (p := ⟨R, 2, none⟩) hne c).far (p := ⟨R, 3, none⟩) hne d
  · obtain ⟨h1, h2, h3, h4, h5⟩ := h.gr
    refine ⟨h1, h2, h3, by simpa using h4, fun k hk hn => ?_⟩
    have hkR : k ≠ R := by have := h.hR; omega
    exact (Below.heap_setCell _ ⟨R, 3, none⟩ d k hkR).trans ((Below.heap_setCell _ ⟨R, 2, none⟩ c k hkR).trans ((Below.heap_setCell _ ⟨R, 1, none⟩ b k hkR).trans ((Below.heap_setCell _ ⟨R, 0, none⟩ a k hkR).trans (h5 k hk hn))))
end
theorem restL (s : ByteArray) (i : Nat) (h : i < s.size) : s.data.toList.drop i = atB s i :: s.data.toList.drop (i + 1) := drop_at s i h

theorem number_bad (t : ByteArray) (a b : Nat) (w : World) (h : ¬ 60 < t.size) (hn : numB t.data.toList = false) : Calls Try.prog 79 #[.string t, .agg #[.int .i64 a, .int .i64 b]] w fun e w' => e = .returned (.tuple #[.agg #[.int .i64 0, .string ⟨#[]⟩, .int .i64 0, .int .i64 0], .int .i64 20]) ∧ Below w.heap.size w w' :=
  (number_short t a b w h).mono fun e w' he => by rw [hn] at he; exact he
theorem number_good (t : ByteArray) (a b : Nat) (w : World) (h : ¬ 60 < t.size) (hn : numB t.data.toList = true) : Calls Try.prog 79 #[.string t, .agg #[.int .i64 a, .int .i64 b]] w fun e w' => e = .returned (.tuple #[.agg #[.int .i64 3, .string t, .int .i64 a, .int .i64 b], .int .i64 0]) ∧ Below w.heap.size w w' :=
  (number_short t a b w h).mono fun e w' he => by rw [hn] at he; exact he
theorem number_over (t : ByteArray) (a b : Nat) (w : World) (h : 60 < t.size) (hs : t.size ≤ 9223372036854775807) : Calls Try.prog 79 #[.string t, .agg #[.int .i64 a, .int .i64 b]] w fun e w' => e = .returned (.tuple #[.agg #[.int .i64 0, .string ⟨#[]⟩, .int .i64 0, .int .i64 0], .int .i64 2]) ∧ Below w.heap.size w w' := number_long t a b w h hs
theorem st4 {w : World} {P R o : Nat} {v a b c d : Value} (h : w.cell? ⟨P, o, none⟩ = some v) (hne : P ≠ R) : ((((w.setCell ⟨R, 0, none⟩ a).setCell ⟨R, 1, none⟩ b).setCell ⟨R, 2, none⟩ c).setCell ⟨R, 3, none⟩ d).cell? ⟨P, o, none⟩ = some v := by
  rw [World.cell?_of_block (a := ⟨P, o, none⟩) (Below.heap_setCell _ ⟨R, 3, none⟩ d P hne), World.cell?_of_block (a := ⟨P, o, none⟩) (Below.heap_setCell _ ⟨R, 2, none⟩ c P hne), World.cell?_of_block (a := ⟨P, o, none⟩) (Below.heap_setCell _ ⟨R, 1, none⟩ b P hne), World.cell?_of_block (a := ⟨P, o, none⟩) (Below.heap_setCell _ ⟨R, 0, none⟩ a P hne)]
  exact h
theorem conv_one (c : UInt8) (W : World) : (convert 97 9 (.slice (some ⟨W.heap.size, 0, none⟩) 1 1)).run Try.prog (W.alloc (.cells #[.int .u8 (c.toNat : Int)] 5)) = .ok (.string ⟨#[c]⟩) (W.alloc (.cells #[.int .u8 (c.toNat : Int)] 5)) := by
  exact run_convert_bytes_back _ 97 9 5 _ 1 [c] Try.underlying97 Try.underlying5 Try.underlying9 fun j hj => by
    obtain rfl : j = 0 := by simpa using hj
    rw [add_none, (Blk.new W _ _).cell]
    rfl
theorem cut_len (s : ByteArray) (i n : Nat) (h : i + n ≤ s.size) : (cut s i n).length = n := by
  unfold cut
  rw [List.length_take, List.length_drop, len_of]
  omega
theorem size_cut {s t : ByteArray} {i n : Nat} (h : t.data.toList = cut s i n) (hn : i + n ≤ s.size) : t.size = n := by
  rw [← len_of, h, cut_len s i n hn]
section
variable (s : ByteArray) (i : Nat) (h : i < s.size)
include h
theorem tok1_word (h1 : lowB (atB s i) = true) : tok1 (s.data.toList.drop i) = if 20 < spanAt innB s i then .err 2 else .tok 1 (spanAt innB s i) := by
  unfold spanAt
  rw [restL s i h, tok1_cons, if_pos h1]
theorem tok1_num (h1 : lowB (atB s i) = false) (h2 : digB (atB s i) = true) : tok1 (s.data.toList.drop i) = if 60 < spanAt digB s i then .err 2 else if 1 < spanAt digB s i ∧ (atB s i).toNat = 48 then .err 20 else .tok 3 (spanAt digB s i) := by
  unfold spanAt
  rw [restL s i h, tok1_cons, if_neg (by rw [h1]; decide), if_pos h2]
theorem tok1_big (h1 : lowB (atB s i) = false) (h2 : digB (atB s i) = false) (h3 : bigB (atB s i) = true) : tok1 (s.data.toList.drop i) = .tok 4 1 := by
  rw [restL s i h, tok1_cons, if_neg (by rw [h1]; decide), if_neg (by rw [h2]; decide), if_pos h3]
theorem tok1_sgn (h1 : lowB (atB s i) = false) (h2 : digB (atB s i) = false) (h3 : bigB (atB s i) = false) : tok1 (s.data.toList.drop i) = if sgnLen (s.data.toList.drop i) = 0 then .err 100 else .tok 2 (sgnLen (s.data.toList.drop i)) := by
  rw [restL s i h, tok1_cons, if_neg (by rw [h1]; decide), if_neg (by rw [h2]; decide), if_neg (by rw [h3]; decide)]
end
theorem span_all (q : UInt8 → Bool) : ∀ l : List UInt8, (l.take (span q l)).all q = true
  | [] => rfl
  | c :: l => by
    unfold span
    split
    · rename_i hc
      rw [List.take_succ_cons, List.all_cons, hc, span_all q l]
      rfl
    · rfl
theorem numB_cut (s : ByteArray) (i : Nat) (h : i < s.size) (h2 : digB (atB s i) = true) (h60 : ¬ 60 < spanAt digB s i) : numB (cut s i (spanAt digB s i)) = !(decide (1 < spanAt digB s i) && (atB s i).toNat == 48) := by
  have hp : 0 < spanAt digB s i := by rw [spanAt_at digB s i h, if_pos h2]; omega
  have hl := cut_len s i (spanAt digB s i) (spanAt_le digB s i (by omega))
  unfold numB
  have e1 : (cut s i (spanAt digB s i)).isEmpty = false := by
    rw [List.isEmpty_eq_false_iff]; intro e; rw [e] at hl; simp at hl; omega
  have e2 : (cut s i (spanAt digB s i)).getD 0 0 = atB s i := by
    unfold cut
    rw [restL s i h, List.getD_eq_getElem?_getD, List.getElem?_take_of_lt hp]
    rfl
  have e3 : (cut s i (spanAt digB s i)).all digB = true := span_all digB _
  have e4 : decide (spanAt digB s i ≤ 60) = true := by rw [decide_eq_true_eq]; omega
  rw [e1, hl, e2, e3, e4]
  simp

set_option maxRecDepth 100000 in
set_option maxHeartbeats 8000000 in
theorem token_any (s : ByteArray) (g i : Nat) (p : Nat × Nat) (w : World) (hs : s.size ≤ 20000) (hi : i ≤ s.size) (hp : Near p i) (hr : Rd w g s i p) :
    Calls Try.prog 52 #[.pointer (some ⟨g, 0, none⟩)] w (TokRet s g i p w (tok1 (s.data.toList.drop i))) := by
  have hgl : g < w.heap.size := Blk.lt hr
  have HR := Lib.hid hr
  have HP := Lib.hid hp
  obtain ⟨c0, c1, c2⟩ := hr.cells
  generalize hT : tok1 (s.data.toList.drop i) = T
  have HT := Lib.hid hT
  clear hr hp hT
  go_enter Try.func52, Try.ntmps52
  go_wp2_with fail
  have hb0 := below_one w (.cells #[.int .i64 0, .string ⟨#[]⟩, .int .i64 0, .int .i64 0] 68)
  have hk0 := Blk.new w 68 #[.int .i64 0, .string ⟨#[]⟩, .int .i64 0, .int .i64 0]
  have HK0 := Lib.hid hk0
  have HB0 := Lib.hid hb0
  clear hk0 hb0 c0 c1 c2
  refine (pos_any p _ (HP.out.small (by omega))).mono ?_
  rintro e w1 ⟨rfl, hb1⟩
  have HB1 := Lib.hid (below_call HB0.out hb1)
  have HK1 := Lib.hid (HK0.out.call hb1)
  clear hb1 HB0 HK0
  go_wp2_with fail
  have hbo := below_one w1 (.cells #[.int .i64 p.1, .int .i64 p.2] 49)
  have hkp := Blk.new w1 49 #[.int .i64 p.1, .int .i64 p.2]
  have HTB := Lib.hid (show TB w g s i i p p w.heap.size w1.heap.size (w1.alloc (.cells #[.int .i64 p.1, .int .i64 p.2] 49)) from
    ⟨Blk.call HR.out (below_call HB1.out hbo), grown_of_call (below_call HB1.out hbo), HK1.out.call hbo, hkp, Nat.le_refl _, HB1.out.size, hgl⟩)
  have hne : w.heap.size < w1.heap.size := HK1.out.lt
  clear hbo hkp HB1 HK1 HR
  generalize (w1.alloc (.cells #[.int .i64 p.1, .int .i64 p.2] 49)) = W2 at *
  generalize w1.heap.size = P at *
  generalize hRR : w.heap.size = R at *
  refine (byte_any s g i p W2 HTB.out.rd).mono ?_
  rintro e w3 ⟨rfl, hb3⟩
  have HTB3 := Lib.hid (HTB.out.call hb3)
  clear hb3 HTB
  obtain ⟨c0, c1, c2, c3⟩ := HTB3.out.cells
  have l0 : g < w3.heap.size := lt_size c0
  have l1 : P < w3.heap.size := lt_size c2
  have l2 : R < w3.heap.size := HTB3.out.k1.lt
  by_cases he : i = s.size
  · have hq : ((i : Int) == (s.size : Int)) = true := by rw [he]; simp
    have HE := Lib.hid he
    clear he
    go_wp2_with fail
    refine wp_region_later (by kernel_rfl) (by kernel_rfl) ?_
    repeat (go_big_quiet_step (fail))
    refine wpQuiet_nil ?_
    rintro _ ⟨y, rfl⟩
    have HTB4 := Lib.hid (HTB3.out.call (below_later w3 y))
    generalize later w3 y = w4 at *
    clear c0 c1 c2 c3 l0 l1 l2
    obtain ⟨c0, c1, c2, c3⟩ := HTB4.out.cells
    obtain ⟨c4, c5, c6, c7⟩ := cells4 HTB4.out.k1
    obtain ⟨f0, f1, f2, f3⟩ := frozen4 HTB4.out.k1
    go_wp2
    obtain ⟨x0, x1, e0, e1, e2, e3⟩ := TB.end_ HTB4.out (.int .i64 5) (.string ⟨#[]⟩) (.int .i64 p.1) (.int .i64 p.2)
    refine bodyPost_ret (v := .tuple #[tokV 5 ⟨#[]⟩ p, .int .i64 0]) (by simp [results, Try.results52, go_sem, tokV, e0, e1, e2, e3]) rfl ?_
    rw [← HT.out]
    rw [HE.out, List.drop_of_length_le (by simp)]
    exact ⟨rfl, x1⟩
  · have hlt : i < s.size := by omega
    have hq : ((i : Int) == (s.size : Int)) = false := by rw [beq_eq_false_iff_ne]; omega
    clear he
    rcases hl : lowB (atB s i) with _ | _
    · have HL := Lib.hid hl
      clear hl
      go_wp2_with fail
      refine wp_region_later (by kernel_rfl) (by kernel_rfl) ?_
      repeat (go_big_quiet_step (fail))
      refine wpQuiet_nil ?_
      rintro _ ⟨y, rfl⟩
      have HTB4 := Lib.hid (HTB3.out.call (below_later w3 y))
      generalize later w3 y = w4 at *
      clear c0 c1 c2 c3 l0 l1 l2
      obtain ⟨c0, c1, c2, c3⟩ := HTB4.out.cells
      obtain ⟨c4, c5, c6, c7⟩ := cells4 HTB4.out.k1
      obtain ⟨f0, f1, f2, f3⟩ := frozen4 HTB4.out.k1
      go_wp2_with fail
      refine (letter_any (atB s i) _ w4 rfl).mono ?_
      rw [HL.out]
      rintro e w5 ⟨rfl, rfl⟩
      rcases hd : digB (atB s i) with _ | _
      · have HD := Lib.hid hd
        clear hd
        go_wp2_with fail
        refine (digit_any (atB s i) _ w4 rfl).mono ?_
        rw [HD.out]
        rintro e w5 ⟨rfl, rfl⟩
        rcases hbg : bigB (atB s i) with _ | _
        · have HBG := Lib.hid hbg
          have HTG := Lib.hid (tok1_sgn s i hlt HL.out HD.out hbg)
          clear hbg
          go_wp2_with fail
          refine (big_any (atB s i) _ w4 rfl).mono ?_
          rw [HBG.out]
          rintro e w5 ⟨rfl, rfl⟩
          go_wp2_with fail
          refine (sign_any s g i p w4 hs hi HP.out HTB4.out.rd).mono ?_
          rintro e w5 ⟨t, rfl, htl, hrd, hgr⟩
          have HTB5 := Lib.hid (HTB4.out.turn hrd hgr)
          have HTL := Lib.hid htl
          have hsl : sgnLen (s.data.toList.drop i) ≤ s.size - i := by have := sgnLen_le (s.data.toList.drop i); rwa [List.length_drop, len_of] at this
          have hts := size_cut htl (by omega)
          clear hrd hgr htl hsl
          clear c0 c1 c2 c3 c4 c5 c6 c7 f0 f1 f2 f3
          obtain ⟨c0, c1, c2, c3⟩ := HTB5.out.cells
          obtain ⟨c4, c5, c6, c7⟩ := cells4 HTB5.out.k1
          obtain ⟨f0, f1, f2, f3⟩ := frozen4 HTB5.out.k1
          generalize hn : sgnLen (s.data.toList.drop i) = n at *
          clear hn
          by_cases hz : n = 0
          · subst hz
            obtain rfl := empty_of hts
            go_wp2
            obtain ⟨x0, x1, e0, e1, e2, e3⟩ := TB.end_ HTB5.out (.int .i64 0) (.string ⟨#[]⟩) (.int .i64 0) (.int .i64 0)
            refine bodyPost_ret (v := .tuple #[tokZ, .int .i64 100]) (by simp [results, Try.results52, go_sem, tokZ, e0, e1, e2, e3]) rfl ?_
            rw [← HT.out]
            rw [HTG.out, if_pos trivial]
            exact ⟨rfl, x1⟩
          · have hne1 : ¬ t.toList = [] := by rw [Lib.toList_data]; intro h; have := len_of t; rw [h] at this; simp at this; omega
            have hne2 : t.toList.isEmpty = false := by simpa using hne1
            clear hts
            go_wp2
            obtain ⟨x0, x1, e0, e1, e2, e3⟩ := TB.end_ HTB5.out (.int .i64 2) (.string t) (.int .i64 p.1) (.int .i64 p.2)
            refine bodyPost_ret (v := .tuple #[tokV 2 t p, .int .i64 0]) (by simp [results, Try.results52, go_sem, tokV, e0, e1, e2, e3]) rfl ?_
            rw [← HT.out]
            rw [HTG.out, if_neg hz]
            exact ⟨t, rfl, HTL.out, x0, x1⟩
        · have HBG := Lib.hid hbg
          have HTG := Lib.hid (tok1_big s i hlt HL.out HD.out hbg)
          clear hbg
          go_wp2_with fail
          refine (big_any (atB s i) _ w4 rfl).mono ?_
          rw [HBG.out]
          rintro e w5 ⟨rfl, rfl⟩
          go_wp2_with fail
          refine (step_any s g i p w4 (by omega) hlt (HP.out.small (by omega)) HTB4.out.rd).mono ?_
          rintro e w5 ⟨rfl, hrd, hgr⟩
          have HTB5 := Lib.hid (HTB4.out.turn hrd hgr)
          clear hrd hgr
          clear c0 c1 c2 c3 c4 c5 c6 c7 f0 f1 f2 f3
          obtain ⟨c0, c1, c2, c3⟩ := HTB5.out.cells
          obtain ⟨c4, c5, c6, c7⟩ := cells4 HTB5.out.k1
          obtain ⟨f0, f1, f2, f3⟩ := frozen4 HTB5.out.k1
          have hcv := conv_one (atB s i) w5
          have l0 : g < w5.heap.size := lt_size c0
          have l1 : P < w5.heap.size := lt_size c2
          have l2 : R < w5.heap.size := lt_size c4
          go_wp2
          obtain ⟨x0, x1, e0, e1, e2, e3⟩ := TB.end_ HTB5.out (.int .i64 4) (.string ⟨#[atB s i]⟩) (.int .i64 p.1) (.int .i64 p.2)
          clear hcv c0 c1 c2 c3 c4 c5 c6 c7 f0 f1 f2 f3 l0 l1 l2
          generalize ((((w5.setCell ⟨R, 0, none⟩ (.int .i64 4)).setCell ⟨R, 1, none⟩ (.string ⟨#[atB s i]⟩)).setCell ⟨R, 2, none⟩ (.int .i64 p.1)).setCell ⟨R, 3, none⟩ (.int .i64 p.2)) = W9 at *
          have hbo := below_one W9 (.cells #[.int .u8 ((atB s i).toNat : Int)] 5)
          generalize W9.alloc (.cells #[.int .u8 ((atB s i).toNat : Int)] 5) = W10 at *
          have g0 := (hbo.cell (p := ⟨R, 0, none⟩) (lt_size e0)).trans e0
          have g1 := (hbo.cell (p := ⟨R, 1, none⟩) (lt_size e0)).trans e1
          have g2 := (hbo.cell (p := ⟨R, 2, none⟩) (lt_size e0)).trans e2
          have g3 := (hbo.cell (p := ⟨R, 3, none⟩) (lt_size e0)).trans e3
          refine bodyPost_ret (v := .tuple #[tokV 4 ⟨#[atB s i]⟩ p, .int .i64 0]) (by simp [results, Try.results52, go_sem, tokV, g0, g1, g2, g3]) rfl ?_
          rw [← HT.out, HTG.out]
          refine ⟨⟨#[atB s i]⟩, rfl, ?_, ?_, grown_trans x1 (grown_of_call hbo)⟩
          · unfold cut
            rw [restL s i hlt]
            rfl
          · have e : posAt s i p 1 = adv1 p (atB s i) := by unfold posAt; rw [restL s i hlt]; rfl
            rw [e]
            exact Blk.call x0 hbo
      · have HD := Lib.hid hd
        clear hd
        go_wp2_with fail
        refine (digit_any (atB s i) _ w4 rfl).mono ?_
        rw [HD.out]
        rintro e w5 ⟨rfl, rfl⟩
        clear c4 c5 c6 c7 f0 f1 f2 f3
        go_wp2_with fail
        have HTN := Lib.hid (tok1_num s i hlt HL.out HD.out)
        have HN := Lib.hid (spanAt_le digB s i hi)
        have HNB := Lib.hid (numB_cut s i hlt HD.out)
        have HTBd := Lib.hid (HTB4.out.call (below_drew (Below.refl _ _)))
        have hd2 : w4.drew.cell? ⟨P, 0, none⟩ = some (.int .i64 p.1) := c2
        have hd3 : w4.drew.cell? ⟨P, 1, none⟩ = some (.int .i64 p.2) := c3
        have hPR : P ≠ R := by omega
        clear c0 c1 c2 c3
        generalize hn : spanAt digB s i = n at *
        have HNN := Lib.hid hn
        clear hn
        by_cases hlong : 60 < n
        · go_region_held3 (fun w' => w'.cell? ⟨P, 0, none⟩ = some (.int .i64 p.1) ∧ w'.cell? ⟨P, 1, none⟩ = some (.int .i64 p.2))
            (first | with_reducible exact ⟨hd2, hd3⟩ | with_reducible exact ⟨v2, v3⟩ | with_reducible exact ⟨u2, u3⟩ | with_reducible exact ⟨st4 v2 hPR, st4 v3 hPR⟩)
            (first | (go_at_call 76; refine (while_digit s g i p _ hs hi HP.out HTBd.out.rd).mono ?_; rintro e w5 ⟨t, rfl, htl, hrd, hgr⟩; rw [HNN.out] at htl hrd; have HTB5 := Lib.hid (HTBd.out.turn hrd hgr); have HTL := Lib.hid htl; have HTS := Lib.hid (size_cut htl HN.out); obtain ⟨u0, u1, u2, u3⟩ := HTB5.out.cells; clear u0 u1 htl hrd hgr) | (go_at_call 79; refine (number_over t p.1 p.2 _ (by rw [HTS.out]; exact hlong) (by rw [HTS.out]; have := HN.out; omega)).mono ?_; rintro e w6 ⟨rfl, hb6⟩; have HTB6 := Lib.hid (HTB5.out.call hb6); clear hb6 u2 u3; obtain ⟨v0, v1, v2, v3⟩ := HTB6.out.cells; obtain ⟨c4, c5, c6, c7⟩ := cells4 HTB6.out.k1; obtain ⟨f0, f1, f2, f3⟩ := frozen4 HTB6.out.k1))
          go_wp2
          obtain ⟨x0, x1, e0, e1, e2, e3⟩ := TB.end_ HTB6.out (.int .i64 0) (.string ⟨#[]⟩) (.int .i64 0) (.int .i64 0)
          refine bodyPost_ret (v := .tuple #[tokZ, .int .i64 2]) (by simp [results, Try.results52, go_sem, tokZ, e0, e1, e2, e3]) rfl ?_
          rw [← HT.out]
          rw [HTN.out, if_pos hlong]
          exact ⟨rfl, x1⟩
        · by_cases hbad : 1 < n ∧ (atB s i).toNat = 48
          · have HNF := Lib.hid (show numB (cut s i n) = false by rw [HNB.out hlong, hbad.2]; have : decide (1 < n) = true := by simpa using hbad.1
                                                                  rw [this]; rfl)
            go_region_held3 (fun w' => w'.cell? ⟨P, 0, none⟩ = some (.int .i64 p.1) ∧ w'.cell? ⟨P, 1, none⟩ = some (.int .i64 p.2))
              (first | with_reducible exact ⟨hd2, hd3⟩ | with_reducible exact ⟨v2, v3⟩ | with_reducible exact ⟨u2, u3⟩ | with_reducible exact ⟨st4 v2 hPR, st4 v3 hPR⟩)
              (first | (go_at_call 76; refine (while_digit s g i p _ hs hi HP.out HTBd.out.rd).mono ?_; rintro e w5 ⟨t, rfl, htl, hrd, hgr⟩; rw [HNN.out] at htl hrd; have HTB5 := Lib.hid (HTBd.out.turn hrd hgr); have HTL := Lib.hid htl; have HTS := Lib.hid (size_cut htl HN.out); obtain ⟨u0, u1, u2, u3⟩ := HTB5.out.cells; clear u0 u1 htl hrd hgr) | (go_at_call 79; refine (number_bad t p.1 p.2 _ (by rw [HTS.out]; exact hlong) (by rw [HTL.out]; exact HNF.out)).mono ?_; rintro e w6 ⟨rfl, hb6⟩; have HTB6 := Lib.hid (HTB5.out.call hb6); clear hb6 u2 u3; obtain ⟨v0, v1, v2, v3⟩ := HTB6.out.cells; obtain ⟨c4, c5, c6, c7⟩ := cells4 HTB6.out.k1; obtain ⟨f0, f1, f2, f3⟩ := frozen4 HTB6.out.k1))
            go_wp2
            obtain ⟨x0, x1, e0, e1, e2, e3⟩ := TB.end_ HTB6.out (.int .i64 0) (.string ⟨#[]⟩) (.int .i64 0) (.int .i64 0)
            refine bodyPost_ret (v := .tuple #[tokZ, .int .i64 20]) (by simp [results, Try.results52, go_sem, tokZ, e0, e1, e2, e3]) rfl ?_
            rw [← HT.out]
            rw [HTN.out, if_neg hlong, if_pos hbad]
            exact ⟨rfl, x1⟩
          · have HNF := Lib.hid (show numB (cut s i n) = true by
              rw [HNB.out hlong, Bool.not_eq_true', Bool.and_eq_false_iff]
              by_cases h1 : 1 < n
              · right; rw [beq_eq_false_iff_ne]; exact fun h => hbad ⟨h1, h⟩
              · left; simpa using h1)
            go_region_held3 (fun w' => w'.cell? ⟨P, 0, none⟩ = some (.int .i64 p.1) ∧ w'.cell? ⟨P, 1, none⟩ = some (.int .i64 p.2))
              (first | with_reducible exact ⟨hd2, hd3⟩ | with_reducible exact ⟨v2, v3⟩ | with_reducible exact ⟨u2, u3⟩ | with_reducible exact ⟨st4 v2 hPR, st4 v3 hPR⟩)
              (first | (go_at_call 76; refine (while_digit s g i p _ hs hi HP.out HTBd.out.rd).mono ?_; rintro e w5 ⟨t, rfl, htl, hrd, hgr⟩; rw [HNN.out] at htl hrd; have HTB5 := Lib.hid (HTBd.out.turn hrd hgr); have HTL := Lib.hid htl; have HTS := Lib.hid (size_cut htl HN.out); obtain ⟨u0, u1, u2, u3⟩ := HTB5.out.cells; clear u0 u1 htl hrd hgr) | (go_at_call 79; refine (number_good t p.1 p.2 _ (by rw [HTS.out]; exact hlong) (by rw [HTL.out]; exact HNF.out)).mono ?_; rintro e w6 ⟨rfl, hb6⟩; have HTB6 := Lib.hid (HTB5.out.call hb6); clear hb6 u2 u3; obtain ⟨v0, v1, v2, v3⟩ := HTB6.out.cells; obtain ⟨c4, c5, c6, c7⟩ := cells4 HTB6.out.k1; obtain ⟨f0, f1, f2, f3⟩ := frozen4 HTB6.out.k1))
            go_wp2
            obtain ⟨x0, x1, e0, e1, e2, e3⟩ := TB.end_ HTB6.out (.int .i64 3) (.string t) (.int .i64 p.1) (.int .i64 p.2)
            refine bodyPost_ret (v := .tuple #[tokV 3 t p, .int .i64 0]) (by simp [results, Try.results52, go_sem, tokV, e0, e1, e2, e3]) rfl ?_
            rw [← HT.out]
            rw [HTN.out, if_neg hlong, if_neg hbad]
            exact ⟨t, rfl, HTL.out, x0, x1⟩
    · have HL := Lib.hid hl
      clear hl
      go_wp2_with fail
      refine wp_region_later (by kernel_rfl) (by kernel_rfl) ?_
      repeat (go_big_quiet_step (fail))
      refine wpQuiet_nil ?_
      rintro _ ⟨y, rfl⟩
      have HTB4 := Lib.hid (HTB3.out.call (below_later w3 y))
      generalize later w3 y = w4 at *
      clear c0 c1 c2 c3 l0 l1 l2
      obtain ⟨c0, c1, c2, c3⟩ := HTB4.out.cells
      obtain ⟨c4, c5, c6, c7⟩ := cells4 HTB4.out.k1
      obtain ⟨f0, f1, f2, f3⟩ := frozen4 HTB4.out.k1
      have HN := Lib.hid (spanAt_le innB s i hi)
      have HTW := Lib.hid (tok1_word s i hlt HL.out)
      go_wp2_with fail
      refine (letter_any (atB s i) _ w4 rfl).mono ?_
      rw [HL.out]
      rintro e w5 ⟨rfl, rfl⟩
      go_wp2_with fail
      refine (while_inner s g i p w4 hs hi HP.out HTB4.out.rd).mono ?_
      rintro e w5 ⟨t, rfl, htl, hrd, hgr⟩
      have HTB5 := Lib.hid (HTB4.out.turn hrd hgr)
      have HTS := Lib.hid (size_cut htl HN.out)
      have HTL := Lib.hid htl
      clear hrd hgr htl
      clear c0 c1 c2 c3 c4 c5 c6 c7 f0 f1 f2 f3
      obtain ⟨c0, c1, c2, c3⟩ := HTB5.out.cells
      obtain ⟨c4, c5, c6, c7⟩ := cells4 HTB5.out.k1
      obtain ⟨f0, f1, f2, f3⟩ := frozen4 HTB5.out.k1
      generalize hn : spanAt innB s i = n at *
      clear hn
      by_cases hlong : 20 < n
      · have hts : t.size = n := HTS.out
        have q20 : (20 : Int) < (t.size : Int) := by omega
        clear hts
        go_wp2
        obtain ⟨x0, x1, e0, e1, e2, e3⟩ := TB.end_ HTB5.out (.int .i64 0) (.string ⟨#[]⟩) (.int .i64 0) (.int .i64 0)
        refine bodyPost_ret (v := .tuple #[tokZ, .int .i64 2]) (by simp [results, Try.results52, go_sem, tokZ, e0, e1, e2, e3]) rfl ?_
        rw [← HT.out]
        rw [HTW.out, if_pos hlong]
        exact ⟨rfl, x1⟩
      · have hts : t.size = n := HTS.out
        have q20 : ¬ (20 : Int) < (t.size : Int) := by omega
        clear hts
        go_wp2
        obtain ⟨x0, x1, e0, e1, e2, e3⟩ := TB.end_ HTB5.out (.int .i64 1) (.string t) (.int .i64 p.1) (.int .i64 p.2)
        refine bodyPost_ret (v := .tuple #[tokV 1 t p, .int .i64 0]) (by simp [results, Try.results52, go_sem, tokV, e0, e1, e2, e3]) rfl ?_
        rw [← HT.out]
        rw [HTW.out, if_neg hlong]
        exact ⟨t, rfl, HTL.out, x0, x1⟩
end Go.Proofs.Ytedbjkjncfinnaa
