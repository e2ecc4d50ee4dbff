/-
  Layer 10's law LexAll: returns true.
-/
import Derived.Test.YtedbjkjncfinnaaLexAl
import Derived.Test.YtedbjkjncfinnaaLexRc
import Derived.Test.YtedbjkjncfinnaaLexR
namespace Go.Proofs.Ytedbjkjncfinnaa
open Go.RowKit

/-- The cells of the i-th token. -/
theorem tks_cells {w : World} {A : Option Addr} {n c : Nat} {ts : List Tk} (h : TksIn w (.slice A n c) ts) (i : Nat) (hi : i < ts.length) :
    n = ts.length ∧ ∃ b, A = some ⟨b, 0, none⟩ ∧ b < w.heap.size ∧ w.cell? ⟨b, i * 4, none⟩ = some (.int .i64 ts[i].kind) ∧ w.cell? ⟨b, i * 4 + 1, none⟩ = some (.string ⟨ts[i].text.toArray⟩) ∧ w.cell? ⟨b, i * 4 + 2, none⟩ = some (.int .i64 ts[i].ln) ∧ w.cell? ⟨b, i * 4 + 3, none⟩ = some (.int .i64 ts[i].co) := by
  obtain ⟨A', c', hv, hx⟩ := h
  obtain ⟨rfl, hn, rfl⟩ : A = A' ∧ n = ts.length ∧ c = c' := by injection hv with h1 h2 h3; exact ⟨h1, h2, h3⟩
  obtain ⟨b, rfl, hbl, hc⟩ := hx (by omega)
  obtain ⟨t0, t1, t2, t3⟩ := tks_at ts i hi
  exact ⟨hn, b, rfl, hbl, hc _ _ t0, hc _ _ t1, hc _ _ t2, hc _ _ t3⟩

theorem own_inn {w : World} {base : Nat} {T : TypeId} {v : Value} {ts : List Tk} (h : w.ownsRow base T 4 v ts.length (tksCells ts)) : TksIn w v ts := by
  have h2 := h
  rcases h2.2 with ⟨rfl, h0⟩ | ⟨g, cap, cur, rfl, _, hg, _⟩
  · exact ⟨none, 0, by rw [h0], fun h1 => absurd h0 (by omega)⟩
  · refine ⟨some ⟨g, 0, none⟩, cap, rfl, fun _ => ⟨g, rfl, (h.lt g rfl).2, fun j u hj => ?_⟩⟩
    have := h.cells (g := g) rfl j u hj
    rwa [add_none, Nat.zero_add] at this
set_option maxRecDepth 100000 in
set_option maxHeartbeats 8000000 in
theorem lsame_any (A A' : Option Addr) (n c c' : Nat) (ts : List Tk) (W : World) (hn : ts.length = n) (ha : TksIn W (.slice A n c) ts) (hb : TksIn W (.slice A' n c') ts) (hm : n ≤ 1000000) :
    Calls Try.prog 31 #[.slice A n c, .slice A' n c', .bool true] W fun e w' => e = .returned (.bool true) ∧ Below W.heap.size W w' := by
  have HA := Lib.hid ha
  have HB := Lib.hid hb
  have HN := Lib.hid hn
  clear ha hb hn
  have hnn : ((n : Int) != (n : Int)) = false := by simp
  go_enter Try.func31, Try.ntmps31
  go_wp2_with fail
  clear hnn
  go_loopw [15] (fun q wr => ∃ k : Nat, k ≤ n ∧ q = .int .i64 k ∧ Below W.heap.size W wr) (fun q _ => n - (intOf q).toNat)
  case atStart => exact ⟨0, Nat.zero_le _, rfl, Below.refl _ _⟩
  case round =>
    obtain ⟨k, hk, rfl, hb⟩ := hrel
    have HBR := Lib.hid hb
    by_cases hlt : k < n
    · have hkt : k < ts.length := by have := HN.out; omega
      obtain ⟨-, b, rfl, l0, c0, c1, c2, c3⟩ := tks_cells (HA.out.call hb) k hkt
      obtain ⟨-, b', rfl, l1, d0, d1, d2, d3⟩ := tks_cells (HB.out.call hb) k hkt
      generalize (⟨ts[k].text.toArray⟩ : ByteArray) = x at *
      generalize ts[k].kind = kd at *
      generalize ts[k].ln = ln at *
      generalize ts[k].co = co at *
      clear hb hkt
      have z0 : (0 : Int) ≤ (k : Int) := by omega
      have z1 : (k : Int) < (n : Int) := by omega
      have z2 : ((kd : Int) != (kd : Int)) = false := by simp
      go_wp2_with fail
      refine wp_region_later (by kernel_rfl) (by kernel_rfl) ?_
      repeat (go_big_quiet_step (fail))
      refine wpQuiet_nil ?_
      rintro _ ⟨y, rfl⟩
      have HB6 := Lib.hid (below_call HBR.out (below_later wr y))
      generalize later wr y = w6 at *
      clear c0 c1 c2 c3 d0 d1 d2 d3 l0 l1
      go_wp2_with fail
      go_roundw
      case rel => exact ⟨k + 1, hlt, by go_num, HB6.out⟩
      case measure => simp [intOf]; omega
    · obtain rfl : k = n := by omega
      go_wp2
      go_ret
      exact ⟨rfl, HBR.out⟩

set_option maxRecDepth 100000 in
set_option maxHeartbeats 8000000 in
theorem lexAll_any (s : ByteArray) (w : World) (hs : s.size ≤ 9223372036854775807) :
    Calls Try.prog 8 #[.string s] w fun e w' => e = .returned (.bool true) ∧ Below w.heap.size w w' := by
  go_enter Try.func8, Try.ntmps8
  go_wp2_with fail
  refine (alive10_any w).mono ?_
  rintro e w1 ⟨rfl, hb1⟩
  have HB1 := Lib.hid hb1
  clear hb1
  go_wp2_with fail
  cases hr : lexAll s.data.toList with
  | err c a b =>
    refine (all_err s c a b w1 hr hs).mono ?_
    rintro e w2 ⟨rfl, hb2⟩
    have HR := Lib.hid hr
    clear hr
    have hk := Blk.new w2 49 #[.int .i64 a, .int .i64 b]
    have HB2 := Lib.hid (below_call HB1.out (below_call hb2 (below_one w2 (.cells #[.int .i64 a, .int .i64 b] 49))))
    have HK := Lib.hid hk
    clear hk hb2
    go_wp2_with fail
    generalize (w2.alloc (.cells #[.int .i64 a, .int .i64 b] 49)) = W2 at *
    generalize w2.heap.size = P at *
    refine (rall_any s W2 hs).mono ?_
    rw [HR.out]
    rintro e w3 ⟨rfl, hb3⟩
    have HK3 := Lib.hid (HK.out.call (below_call hb3 (below_one w3 (.cells #[.int .i64 a, .int .i64 b] 49))))
    have HK4 := Lib.hid (Blk.new w3 49 #[.int .i64 a, .int .i64 b])
    have HB3 := Lib.hid (below_call HB2.out (below_call hb3 (below_one w3 (.cells #[.int .i64 a, .int .i64 b] 49))))
    clear hb3 HK
    have za : ((c : Int) == (c : Int)) = true := by simp
    go_upto_region 5 with (fail)
    generalize (w3.alloc (.cells #[.int .i64 a, .int .i64 b] 49)) = W3 at *
    generalize w3.heap.size = P' at *
    obtain ⟨c0, c1⟩ := cells2' HK3.out
    obtain ⟨d0, d1⟩ := cells2' HK4.out
    have l0 : P < W3.heap.size := lt_size c0
    have l1 : P' < W3.heap.size := lt_size d0
    go_wp2_with fail
    refine (lsame_any none none 0 0 0 [] W3 rfl ⟨none, 0, rfl, fun h => absurd h (by decide)⟩ ⟨none, 0, rfl, fun h => absurd h (by decide)⟩ (by decide)).mono ?_
    rintro e w4 ⟨rfl, hb4⟩
    go_wp2_with fail
    go_ret
    exact ⟨rfl, below_call HB3.out hb4⟩
  | ok ts =>
    have hlen := (lexAll_good hr).2.2
    rw [len_of] at hlen
    have hsz : s.size ≤ 16384 := by
      rcases Nat.lt_or_ge 16384 s.size with hc | hc
      · have e : lexAll s.data.toList = .err 2 1 1 := by unfold lexAll; rw [len_of, if_pos hc]
        rw [e] at hr
        cases hr
      · exact hc
    obtain ⟨n, hn⟩ : ∃ n, ts.length = n := ⟨_, rfl⟩
    have hn1 : n ≤ 1000000 := by omega
    have HN := Lib.hid hn
    have HR := Lib.hid hr
    clear hr hlen hsz hn
    refine (all_ok s ts w1 HR.out hs).mono ?_
    rw [HN.out]
    rintro e w2 ⟨A, c, rfl, hts, hb2⟩
    have hk := Blk.new w2 49 #[.int .i64 0, .int .i64 0]
    have hb := below_one w2 (.cells #[.int .i64 0, .int .i64 0] 49)
    have HB2 := Lib.hid (below_call HB1.out (below_call hb2 hb))
    have HK := Lib.hid hk
    have HT := Lib.hid (hts.call hb)
    clear hk hb2 hb hts
    go_wp2_with fail
    generalize (w2.alloc (.cells #[.int .i64 0, .int .i64 0] 49)) = W2 at *
    generalize w2.heap.size = P at *
    refine (rall_any s W2 hs).mono ?_
    rw [HR.out]
    rintro e w3 ⟨v, rfl, hown, hb3⟩
    have hi := own_inn hown
    obtain ⟨A', c', rfl, _⟩ := id hi
    rw [HN.out] at hi ⊢
    have hb := below_one w3 (.cells #[.int .i64 0, .int .i64 0] 49)
    have HK3 := Lib.hid (HK.out.call (below_call hb3 hb))
    have HK4 := Lib.hid (Blk.new w3 49 #[.int .i64 0, .int .i64 0])
    have HB3 := Lib.hid (below_call HB2.out (below_call hb3 hb))
    have HT3 := Lib.hid (HT.out.call (below_call hb3 hb))
    have HU3 := Lib.hid (hi.call hb)
    clear hb3 HK hb hi hown HT
    go_upto_region 5 with (fail)
    generalize (w3.alloc (.cells #[.int .i64 0, .int .i64 0] 49)) = W3 at *
    generalize w3.heap.size = P' at *
    obtain ⟨c0, c1⟩ := cells2' HK3.out
    obtain ⟨d0, d1⟩ := cells2' HK4.out
    have l0 : P < W3.heap.size := lt_size c0
    have l1 : P' < W3.heap.size := lt_size d0
    go_wp2_with fail
    refine (lsame_any A A' n c c' ts W3 HN.out HT3.out HU3.out hn1).mono ?_
    rintro e w4 ⟨rfl, hb4⟩
    go_wp2_with fail
    go_ret
    exact ⟨rfl, below_call HB3.out hb4⟩
end Go.Proofs.Ytedbjkjncfinnaa
