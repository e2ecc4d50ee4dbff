/-
  Layer 15's law: plain.
-/
import Derived.Test.YtedbjkjncfinnaaTurnsT
import Derived.Test.YtedbjkjncfinnaaWordA
namespace Go.Proofs.Ytedbjkjncfinnaa
open Go.RowKit

def LPlainIs (u : T) : Prop := u.flat = true → ∀ (f : Ltl) (k p : Int) (A : Option Addr) (n c : Nat) (S : Nat → Prop) (w : World), f = u.ltl → Bd S w → Ltl.Is w S f [.int .i64 k, .int .i64 p, .slice A n c] →
  Calls Try.prog 20 #[.agg #[.int .i64 k, .int .i64 p, .slice A n c]] w fun e w' => e = .returned (.bool true) ∧ Below w.heap.size w w'

/-- A property's number of kids, and its kind. -/
theorem is_len {w : World} {S : Nat → Prop} {k p k' p' : Int} {r : List Ltl} {A : Option Addr} {n c : Nat} (h : Ltl.Is w S (.mk k p r) [.int .i64 k', .int .i64 p', .slice A n c]) : k' = k ∧ p' = p ∧ n = r.length := by
  obtain ⟨_, n', _, hc, hn, _⟩ := h.form
  simp only [List.cons.injEq, Value.int.injEq, Value.slice.injEq, and_true, true_and] at hc
  obtain ⟨rfl, rfl, _, rfl, _⟩ := hc
  exact ⟨rfl, rfl, hn⟩
/-- Kid i, where it lies, in every later world. -/
theorem kid_at {w : World} {S : Nat → Prop} {f : Ltl} {k p : Int} {A : Option Addr} {n c : Nat} (h : Ltl.Is w S f [.int .i64 k, .int .i64 p, .slice A n c]) (hS : Bd S w) (i : Nat) (hi : i < n) :
    ∃ b o B m d, A = some ⟨b, o, none⟩ ∧ Ltl.Is w S (f.kid i) [.int .i64 (f.kid i).kind, .int .i64 (f.kid i).prop, .slice B m d] ∧ ∀ W, Below w.heap.size w W →
      W.cell? ⟨b, o + i * 3, none⟩ = some (.int .i64 (f.kid i).kind) ∧ W.cell? ⟨b, o + i * 3 + 1, none⟩ = some (.int .i64 (f.kid i).prop) ∧ W.cell? ⟨b, o + i * 3 + 2, none⟩ = some (.slice B m d) := by
  obtain ⟨_, h1 | h1⟩ := kid_is h i
  · omega
  · obtain ⟨_, b, o, B, m, d, hA, hb, h2, h3, h4, h5⟩ := h1
    have hl := hS b hb
    exact ⟨b, o, B, m, d, hA, h5, fun W hW => ⟨(hW.cell (p := ⟨b, o + i * 3, none⟩) hl).trans h2, (hW.cell (p := ⟨b, o + i * 3 + 1, none⟩) hl).trans h3, (hW.cell (p := ⟨b, o + i * 3 + 2, none⟩) hl).trans h4⟩⟩

set_option maxRecDepth 100000 in
set_option maxHeartbeats 4000000 in
theorem lplain_up : ∀ u : T, LPlainIs u
  | .tt => by
    rintro _ f k p A n c S w rfl hS h
    obtain ⟨rfl, rfl, rfl⟩ := is_len h
    clear h
    go_enter Try.func20, Try.ntmps20
    go_wp2
    go_ret
    exact ⟨rfl, below_one _ _⟩
  | .ff => by
    rintro _ f k p A n c S w rfl hS h
    obtain ⟨rfl, rfl, rfl⟩ := is_len h
    clear h
    go_enter Try.func20, Try.ntmps20
    go_wp2
    go_ret
    exact ⟨rfl, below_one _ _⟩
  | .atom a => by
    rintro _ f k p A n c S w rfl hS h
    obtain ⟨rfl, rfl, rfl⟩ := is_len h
    clear h
    go_enter Try.func20, Try.ntmps20
    go_wp2
    go_ret
    exact ⟨rfl, below_one _ _⟩
  | .not p => by
    cases p with
    | atom a =>
      rintro hfl f k p A n c S w rfl hS h
      obtain ⟨rfl, rfl, hn⟩ := is_len h
      obtain rfl : n = 1 := hn
      obtain ⟨b, o, B0, m0, d0, rfl, h0, hc0⟩ := kid_at h hS 0 (by decide)
      have hb0 := below_one w (.cells #[.int .i64 3, .int .i64 0, .slice (some ⟨b, o, none⟩) 1 c] 24)
      have HC0 := Lib.hid hc0
      have H0 := Lib.hid h0
      have HS := Lib.hid hS
      have HB0 := Lib.hid hb0
      obtain ⟨x0, x1, x2⟩ := hc0 _ hb0
      simp only [Nat.zero_mul, Nat.add_zero] at x0 x1 x2
      clear h h0 hc0 hS hb0
      go_enter Try.func20, Try.ntmps20
      have e0 : (Ltl.kid (T.not (.atom a)).ltl 0).kind = 2 := rfl
      rw [e0] at x0
      go_wp2
      go_ret
      exact ⟨rfl, HB0.out⟩
    | _ => intro h; simp [T.flat] at h
  | .next p => by
    rintro hfl f k p A n c S w rfl hS h
    obtain ⟨rfl, rfl, hn⟩ := is_len h
    obtain rfl : n = 1 := hn
    obtain ⟨b, o, B0, m0, d0, rfl, h0, hc0⟩ := kid_at h hS 0 (by decide)
    have hb0 := below_one w (.cells #[.int .i64 8, .int .i64 0, .slice (some ⟨b, o, none⟩) 1 c] 24)
    have HC0 := Lib.hid hc0
    have H0 := Lib.hid h0
    have HS := Lib.hid hS
    have HB0 := Lib.hid hb0
    obtain ⟨x0, x1, x2⟩ := hc0 _ hb0
    simp only [Nat.zero_mul, Nat.add_zero] at x0 x1 x2
    clear h h0 hc0 hS hb0
    go_enter Try.func20, Try.ntmps20
    go_wp2_with fail
    refine (lplain_up p hfl _ _ _ B0 m0 d0 S _ rfl (HS.out.call HB0.out.size) (H0.out.call HS.out HB0.out)).mono ?_
    rintro e w1 ⟨rfl, b1⟩
    have hb := below_call HB0.out b1
    clear b1
    go_wp2
    go_ret
    exact ⟨rfl, hb⟩
  | .and p q => by
    rintro hfl f k p A n c S w rfl hS h
    obtain ⟨rfl, rfl, hn⟩ := is_len h
    obtain rfl : n = 2 := hn
    obtain ⟨b, o, B0, m0, d0, rfl, h0, hc0⟩ := kid_at h hS 0 (by decide)
    obtain ⟨b', o', B1, m1, d1, hA, h1, hc1⟩ := kid_at h hS 1 (by decide)
    cases hA
    have hb0 := below_one w (.cells #[.int .i64 4, .int .i64 0, .slice (some ⟨b, o, none⟩) 2 c] 24)
    have HC0 := Lib.hid hc0
    have H0 := Lib.hid h0
    have HS := Lib.hid hS
    have HB0 := Lib.hid hb0
    obtain ⟨x0, x1, x2⟩ := hc0 _ hb0
    simp only [Nat.zero_mul, Nat.add_zero] at x0 x1 x2
    have HC1 := Lib.hid hc1
    have H1 := Lib.hid h1
    clear h h0 hc0 hS hb0 h1 hc1
    go_enter Try.func20, Try.ntmps20
    have hf2 : p.flat = true ∧ q.flat = true := by simpa [T.flat] using hfl
    have HF2 := Lib.hid hf2
    clear hf2 hfl
    go_wp2_with fail
    refine (lplain_up p HF2.out.1 _ _ _ B0 m0 d0 S _ rfl (HS.out.call HB0.out.size) (H0.out.call HS.out HB0.out)).mono ?_
    rintro e w1 ⟨rfl, b1⟩
    have HB1 := Lib.hid (below_call HB0.out b1)
    have hbx := (Blk.new w 24 #[.int .i64 4, .int .i64 0, .slice (some ⟨b, o, none⟩) 2 c]).call b1
    have z2 := hbx.cell 2
    simp only [List.getElem?_toArray, List.getElem?_cons_zero, List.getElem?_cons_succ] at z2
    clear x0 x1 x2 b1 hbx
    obtain ⟨x0, x1, x2⟩ := HC1.out _ HB1.out
    simp only [Nat.one_mul] at x0 x1 x2
    go_wp2_with fail
    refine (lplain_up q HF2.out.2 _ _ _ B1 m1 d1 S _ rfl (HS.out.call HB1.out.size) (H1.out.call HS.out HB1.out)).mono ?_
    rintro e w2 ⟨rfl, b2⟩
    have hb := below_call HB1.out b2
    clear b2
    go_wp2
    go_ret
    exact ⟨rfl, hb⟩
  | .or p q => by
    rintro hfl f k p A n c S w rfl hS h
    obtain ⟨rfl, rfl, hn⟩ := is_len h
    obtain rfl : n = 2 := hn
    obtain ⟨b, o, B0, m0, d0, rfl, h0, hc0⟩ := kid_at h hS 0 (by decide)
    obtain ⟨b', o', B1, m1, d1, hA, h1, hc1⟩ := kid_at h hS 1 (by decide)
    cases hA
    have hb0 := below_one w (.cells #[.int .i64 5, .int .i64 0, .slice (some ⟨b, o, none⟩) 2 c] 24)
    have HC0 := Lib.hid hc0
    have H0 := Lib.hid h0
    have HS := Lib.hid hS
    have HB0 := Lib.hid hb0
    obtain ⟨x0, x1, x2⟩ := hc0 _ hb0
    simp only [Nat.zero_mul, Nat.add_zero] at x0 x1 x2
    have HC1 := Lib.hid hc1
    have H1 := Lib.hid h1
    clear h h0 hc0 hS hb0 h1 hc1
    go_enter Try.func20, Try.ntmps20
    have hf2 : p.flat = true ∧ q.flat = true := by simpa [T.flat] using hfl
    have HF2 := Lib.hid hf2
    clear hf2 hfl
    go_wp2_with fail
    refine (lplain_up p HF2.out.1 _ _ _ B0 m0 d0 S _ rfl (HS.out.call HB0.out.size) (H0.out.call HS.out HB0.out)).mono ?_
    rintro e w1 ⟨rfl, b1⟩
    have HB1 := Lib.hid (below_call HB0.out b1)
    have hbx := (Blk.new w 24 #[.int .i64 5, .int .i64 0, .slice (some ⟨b, o, none⟩) 2 c]).call b1
    have z2 := hbx.cell 2
    simp only [List.getElem?_toArray, List.getElem?_cons_zero, List.getElem?_cons_succ] at z2
    clear x0 x1 x2 b1 hbx
    obtain ⟨x0, x1, x2⟩ := HC1.out _ HB1.out
    simp only [Nat.one_mul] at x0 x1 x2
    go_wp2_with fail
    refine (lplain_up q HF2.out.2 _ _ _ B1 m1 d1 S _ rfl (HS.out.call HB1.out.size) (H1.out.call HS.out HB1.out)).mono ?_
    rintro e w2 ⟨rfl, b2⟩
    have hb := below_call HB1.out b2
    clear b2
    go_wp2
    go_ret
    exact ⟨rfl, hb⟩
  | .until_ p q => by
    rintro hfl f k p A n c S w rfl hS h
    obtain ⟨rfl, rfl, hn⟩ := is_len h
    obtain rfl : n = 2 := hn
    obtain ⟨b, o, B0, m0, d0, rfl, h0, hc0⟩ := kid_at h hS 0 (by decide)
    obtain ⟨b', o', B1, m1, d1, hA, h1, hc1⟩ := kid_at h hS 1 (by decide)
    cases hA
    have hb0 := below_one w (.cells #[.int .i64 11, .int .i64 0, .slice (some ⟨b, o, none⟩) 2 c] 24)
    have HC0 := Lib.hid hc0
    have H0 := Lib.hid h0
    have HS := Lib.hid hS
    have HB0 := Lib.hid hb0
    obtain ⟨x0, x1, x2⟩ := hc0 _ hb0
    simp only [Nat.zero_mul, Nat.add_zero] at x0 x1 x2
    have HC1 := Lib.hid hc1
    have H1 := Lib.hid h1
    clear h h0 hc0 hS hb0 h1 hc1
    go_enter Try.func20, Try.ntmps20
    have hf2 : p.flat = true ∧ q.flat = true := by simpa [T.flat] using hfl
    have HF2 := Lib.hid hf2
    clear hf2 hfl
    go_wp2_with fail
    refine (lplain_up p HF2.out.1 _ _ _ B0 m0 d0 S _ rfl (HS.out.call HB0.out.size) (H0.out.call HS.out HB0.out)).mono ?_
    rintro e w1 ⟨rfl, b1⟩
    have HB1 := Lib.hid (below_call HB0.out b1)
    have hbx := (Blk.new w 24 #[.int .i64 11, .int .i64 0, .slice (some ⟨b, o, none⟩) 2 c]).call b1
    have z2 := hbx.cell 2
    simp only [List.getElem?_toArray, List.getElem?_cons_zero, List.getElem?_cons_succ] at z2
    clear x0 x1 x2 b1 hbx
    obtain ⟨x0, x1, x2⟩ := HC1.out _ HB1.out
    simp only [Nat.one_mul] at x0 x1 x2
    go_wp2_with fail
    refine (lplain_up q HF2.out.2 _ _ _ B1 m1 d1 S _ rfl (HS.out.call HB1.out.size) (H1.out.call HS.out HB1.out)).mono ?_
    rintro e w2 ⟨rfl, b2⟩
    have hb := below_call HB1.out b2
    clear b2
    go_wp2
    go_ret
    exact ⟨rfl, hb⟩
  | .free p q => by
    rintro hfl f k p A n c S w rfl hS h
    obtain ⟨rfl, rfl, hn⟩ := is_len h
    obtain rfl : n = 2 := hn
    obtain ⟨b, o, B0, m0, d0, rfl, h0, hc0⟩ := kid_at h hS 0 (by decide)
    obtain ⟨b', o', B1, m1, d1, hA, h1, hc1⟩ := kid_at h hS 1 (by decide)
    cases hA
    have hb0 := below_one w (.cells #[.int .i64 12, .int .i64 0, .slice (some ⟨b, o, none⟩) 2 c] 24)
    have HC0 := Lib.hid hc0
    have H0 := Lib.hid h0
    have HS := Lib.hid hS
    have HB0 := Lib.hid hb0
    obtain ⟨x0, x1, x2⟩ := hc0 _ hb0
    simp only [Nat.zero_mul, Nat.add_zero] at x0 x1 x2
    have HC1 := Lib.hid hc1
    have H1 := Lib.hid h1
    clear h h0 hc0 hS hb0 h1 hc1
    go_enter Try.func20, Try.ntmps20
    have hf2 : p.flat = true ∧ q.flat = true := by simpa [T.flat] using hfl
    have HF2 := Lib.hid hf2
    clear hf2 hfl
    go_wp2_with fail
    refine (lplain_up p HF2.out.1 _ _ _ B0 m0 d0 S _ rfl (HS.out.call HB0.out.size) (H0.out.call HS.out HB0.out)).mono ?_
    rintro e w1 ⟨rfl, b1⟩
    have HB1 := Lib.hid (below_call HB0.out b1)
    have hbx := (Blk.new w 24 #[.int .i64 12, .int .i64 0, .slice (some ⟨b, o, none⟩) 2 c]).call b1
    have z2 := hbx.cell 2
    simp only [List.getElem?_toArray, List.getElem?_cons_zero, List.getElem?_cons_succ] at z2
    clear x0 x1 x2 b1 hbx
    obtain ⟨x0, x1, x2⟩ := HC1.out _ HB1.out
    simp only [Nat.one_mul] at x0 x1 x2
    go_wp2_with fail
    refine (lplain_up q HF2.out.2 _ _ _ B1 m1 d1 S _ rfl (HS.out.call HB1.out.size) (H1.out.call HS.out HB1.out)).mono ?_
    rintro e w2 ⟨rfl, b2⟩
    have hb := below_call HB1.out b2
    clear b2
    go_wp2
    go_ret
    exact ⟨rfl, hb⟩
  | .imp _ _ | .all _ | .some_ _ => by intro h; simp [T.flat] at h
end Go.Proofs.Ytedbjkjncfinnaa
