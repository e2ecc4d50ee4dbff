/-
  Layer 10's law LexSpells: returns true.
-/
import Derived.Test.YtedbjkjncfinnabLexAl
import Derived.Test.YtedbjkjncfinnabLexR
namespace Go.Proofs.Ytedbjkjncfinnab
open Go.RowKit

theorem all_okn (s : ByteArray) (ts : List Tk) (n : Nat) (w : World) (h : lexAll s.data.toList = .ok ts) (hn : ts.length = n) (hs : s.size ≤ 9223372036854775807) : Calls Try.prog 17 #[.string s] w fun e w' => ∃ A c, e = .returned (.tuple #[.slice A n c, .agg #[.int .i64 0, .int .i64 0], .int .i64 0]) ∧ TksIn w' (.slice A n c) ts ∧ Below w.heap.size w w' := by
  subst hn
  exact all_ok s ts w h hs
/-- The cells of token i. -/
theorem tks_cells {w : World} {A : Option Addr} {n c : Nat} {ts : List Tk} (h : TksIn w (.slice A n c) ts) (i : Nat) (hi : i < ts.length) : n = ts.length ∧ ∃ b, A = some ⟨b, 0, none⟩ ∧ b < w.heap.size ∧ w.cell? ⟨b, i * 4, none⟩ = some (.int .i64 ts[i].kind) ∧ w.cell? ⟨b, i * 4 + 1, none⟩ = some (.string (txtB ts[i])) ∧ w.cell? ⟨b, i * 4 + 2, none⟩ = some (.int .i64 ts[i].ln) ∧ w.cell? ⟨b, i * 4 + 3, none⟩ = some (.int .i64 ts[i].co) := by
  obtain ⟨A', c', hv, hx⟩ := h
  obtain ⟨rfl, hn, rfl⟩ : A = A' ∧ n = ts.length ∧ c = c' := by injection hv with h1 h2 h3; exact ⟨h1, h2, h3⟩
  obtain ⟨b, rfl, hbl, hc⟩ := hx (by omega)
  obtain ⟨t0, t1, t2, t3⟩ := tks_at ts i hi
  exact ⟨hn, b, rfl, hbl, hc _ _ t0, hc _ _ t1, hc _ _ t2, hc _ _ t3⟩
theorem spell_at (ts : List Tk) (r : ByteArray) (v : Value) (w : World) (hr : (⟨(spellL ts).toArray⟩ : ByteArray) = r) (h : TksIn w v ts) (hn : ts.length ≤ 1000000) (hl : (spellL ts).length ≤ 140737488355328) :
    Calls Try.prog 15 #[v] w fun e w' => e = .returned (.string r) ∧ Below w.heap.size w w' := hr ▸ spell_any ts v w h hn hl
set_option maxRecDepth 100000 in
set_option maxHeartbeats 8000000 in
theorem lexSpells_any (s : ByteArray) (w : World) (hs : s.size ≤ 9223372036854775807) :
    Calls Try.prog 4 #[.string s] w fun e w' => e = .returned (.bool true) ∧ Below w.heap.size w w' := by
  go_enter Try.func4, Try.ntmps4
  go_wp2_with fail
  refine (alive10_any w).mono ?_
  rintro e w1 ⟨rfl, hb1⟩
  have HB1 := Lib.hid hb1
  clear hb1
  by_cases h1 : 4000 < s.size
  · have q1 : (4000 : Int) < (s.size : Int) := by omega
    go_wp2
    go_ret
    exact ⟨rfl, HB1.out⟩
  have q1 : ¬ (4000 : Int) < (s.size : Int) := by omega
  go_wp2_with fail
  cases hr : lexAll s.data.toList with
  | err c a b =>
    have hc := lexAll_err hr
    refine (all_err s c a b w1 hr hs).mono ?_
    rintro e w2 ⟨rfl, hb2⟩
    have HB2 := Lib.hid (below_call HB1.out hb2)
    have hq : ((c : Int) != 0) = true := by rw [bne_iff_ne]; omega
    clear hb2 hr hc
    go_wp2
    go_ret
    exact ⟨rfl, below_alloc HB2.out⟩
  | ok ts =>
    obtain ⟨hl, us, hus, hal⟩ := spell_relex hr (by rw [len_of]; omega)
    have hgood := lexAll_good hr
    rw [len_of] at hgood
    have HLAST := Lib.hid (good_last ts hgood.1)
    have hne := List.length_pos_iff.2 hgood.1.ne
    obtain ⟨n, hn⟩ : ∃ n, ts.length = n := ⟨_, rfl⟩
    have HN := Lib.hid hn
    have HUN := Lib.hid ((alike_len hal).trans hn)
    have HAT := Lib.hid (fun i h1 h2 => alike_at hal i h1 h2)
    have hn5 : n ≤ 4001 := by omega
    have hn0 : 0 < n := by omega
    obtain ⟨r, hrr⟩ : ∃ r : ByteArray, (⟨(spellL ts).toArray⟩ : ByteArray) = r := ⟨_, rfl⟩
    have HRR := Lib.hid hrr
    have HRU := Lib.hid (show (⟨(spellL us).toArray⟩ : ByteArray) = r by rw [alike_spell hal]; exact hrr)
    have HUS := Lib.hid (show lexAll r.data.toList = .ok us by rw [← hrr]; exact hus)
    have HSL := Lib.hid hl
    have HSU := Lib.hid (show (spellL us).length ≤ 16000 by rw [alike_spell hal]; exact hl)
    have hrsz : r.size ≤ 9223372036854775807 := by rw [← hrr]; show (spellL ts).toArray.size ≤ _; rw [List.size_toArray]; omega
    have HRZ := Lib.hid hrsz
    have HR := Lib.hid hr
    clear hl hus hal hgood hn hrr hr hne hrsz
    refine (all_okn s ts n w1 HR.out HN.out hs).mono ?_
    rintro e w2 ⟨A, c, rfl, hts, hb2⟩
    have hbo := below_call hb2 (below_one w2 (.cells #[.int .i64 0, .int .i64 0] 27))
    have HT2 := Lib.hid (hts.call (below_one w2 (.cells #[.int .i64 0, .int .i64 0] 27)))
    have HB2 := Lib.hid (below_call HB1.out hbo)
    clear hb2 hbo hts
    go_wp2_with fail
    generalize (w2.alloc (.cells #[.int .i64 0, .int .i64 0] 27)) = W2 at *
    refine (spell_at ts r _ W2 HRR.out HT2.out (by have := HN.out; omega) (by have := HSL.out; omega)).mono ?_
    rintro e w3 ⟨rfl, hb3⟩
    have HT3 := Lib.hid (HT2.out.call hb3)
    have HB3 := Lib.hid (below_call HB2.out hb3)
    clear hb3 HT2
    go_wp2_with fail
    refine (all_okn r us n w3 HUS.out HUN.out HRZ.out).mono ?_
    rintro e w4 ⟨A', c', rfl, hts, hb4⟩
    have hbo := below_one w4 (.cells #[.int .i64 0, .int .i64 0] 27)
    have HU5 := Lib.hid (hts.call hbo)
    have HT5 := Lib.hid (HT3.out.call (below_call hb4 hbo))
    have HB5 := Lib.hid (below_call HB3.out (below_call hb4 hbo))
    have hnn : ((n : Int) != (n : Int)) = false := by simp
    clear hb4 hbo hts HT3
    go_wp2_with fail
    generalize (w4.alloc (.cells #[.int .i64 0, .int .i64 0] 27)) = W5 at *
    clear hnn
    go_loopw [46] (fun q wr => ∃ k : Nat, k ≤ n ∧ q = .int .i64 k ∧ Below W5.heap.size W5 wr) (fun q _ => n - (intOf q).toNat)
    case atStart => exact ⟨0, Nat.zero_le _, rfl, Below.refl _ _⟩
    case round =>
      obtain ⟨k, hk, rfl, hb⟩ := hrel
      have HBR := Lib.hid hb
      by_cases hlt : k < n
      · have hkt : k < ts.length := by have := HN.out; omega
        have hku : k < us.length := by have := HUN.out; omega
        obtain ⟨-, b, rfl, l0, c0, c1, -, -⟩ := tks_cells (HT5.out.call hb) k hkt
        obtain ⟨-, b', rfl, l1, c2, c3, -, -⟩ := tks_cells (HU5.out.call hb) k hku
        obtain ⟨e1, e2⟩ := HAT.out k hku hkt
        rw [e1] at c2
        rw [show txtB us[k] = txtB ts[k] by unfold txtB; rw [e2]] at c3
        generalize txtB ts[k] = x at *
        generalize ts[k].kind = kd at *
        clear hb e1 e2 hkt hku
        have z0 : (0 : Int) ≤ (k : Int) := by omega
        have z1 : (k : Int) < (n : Int) := by omega
        have z2 : ((kd : Int) != (kd : Int)) = false := by simp
        go_wp2_with fail
        refine wp_region_later (by kernel_rfl) (by kernel_rfl) ?_
        repeat (go_big_quiet_step (fail))
        refine wpQuiet_nil ?_
        rintro _ ⟨y, rfl⟩
        have HB6 := Lib.hid (below_call HBR.out (below_later wr y))
        generalize later wr y = w6 at *
        clear c0 c1 c2 c3 l0 l1
        go_wp2_with fail
        go_roundw
        case rel => exact ⟨k + 1, hlt, by go_num, HB6.out⟩
        case measure => simp [intOf]; omega
      · obtain rfl : k = n := by omega
        have HU6 := Lib.hid (HU5.out.call hb)
        have HT6 := Lib.hid (HT5.out.call hb)
        clear hb
        go_wp2_with fail
        refine (spell_at us r _ wr HRU.out HU6.out (by have := HUN.out; omega) (by have := HSU.out; omega)).mono ?_
        rintro e w7 ⟨rfl, hb7⟩
        obtain ⟨hlt', hlast⟩ := HLAST.out
        obtain ⟨-, b, rfl, l0, c0, -, -, -⟩ := tks_cells (HT6.out.call hb7) (ts.length - 1) hlt'
        rw [hlast, HN.out] at c0
        have HB8 := Lib.hid (below_call HB5.out (below_call HBR.out hb7))
        have hix : ∀ W : World, (Instr.indexAt 24 (.slice (some ⟨b, 0, none⟩) k c) (.int .i64 ((k : Int) - 1))).run Try.prog W = .ok (.pointer (some ⟨b, (k - 1) * 4, none⟩)) W := fun W => by
          obtain ⟨m, rfl⟩ : ∃ m, k = m + 1 := ⟨k - 1, by omega⟩
          rw [show ((m + 1 : Nat) : Int) - 1 = (m : Int) by omega]
          have z0 : (0 : Int) ≤ (m : Int) := by omega
          have z1 : (m : Int) < ((m + 1 : Nat) : Int) := by omega
          rw [run_indexAt_slice (h := by kernel_rfl)]
          rw [if_pos ⟨z0, z1⟩]
          go_simp
        clear hb7 hlast HLAST
        go_wp2
        go_ret
        exact ⟨rfl, HB8.out⟩
end Go.Proofs.Ytedbjkjncfinnab
