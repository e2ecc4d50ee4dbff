/-
  What LexBetween puts between tokens. No program in sight.
-/
import Derived.Test.YtedbjkjncfinnabLexR
namespace Go.Proofs.Ytedbjkjncfinnab

theorem gap_remark (rem rest : List UInt8) (h : ∀ c ∈ rem, c.toNat ≠ 10) : gap true (rem ++ 10 :: rest) = rem.length + 1 + gap false rest := by
  induction rem with
  | nil =>
    rw [List.nil_append, gap_cons, if_pos (by decide)]
    simp; omega
  | cons c r ih =>
    rw [List.cons_append, gap_cons, if_neg (h c (List.mem_cons_self ..)), if_pos rfl, ih fun x hx => h x (List.mem_cons_of_mem _ hx), List.length_cons]
    omega
/-- The five. -/
def betw (rem : List UInt8) : Nat → List UInt8
  | 0 => [32]
  | 1 => [9, 9]
  | 2 => [10]
  | 3 => [32, 35] ++ rem ++ [10]
  | _ => [35, 10, 10, 32]
theorem betw_gap (rem : List UInt8) (h : ∀ c ∈ rem, c.toNat ≠ 10) (j : Nat) : Gapped (betw rem j) ∧ Sep (betw rem j) := by
  match j with
  | 0 => exact ⟨gapped_sp, sep_sp⟩
  | 1 =>
    refine ⟨fun rest => ?_, 9, [9], rfl, by decide⟩
    show gap false (9 :: 9 :: rest) = 2 + gap false rest
    rw [gap_cons, if_neg (by decide), if_neg (by decide), if_neg (by decide), if_pos (by decide), gap_cons, if_neg (by decide), if_neg (by decide), if_neg (by decide), if_pos (by decide)]
    omega
  | 2 =>
    refine ⟨fun rest => ?_, 10, [], rfl, by decide⟩
    show gap false (10 :: rest) = 1 + gap false rest
    rw [gap_cons, if_pos (by decide)]
    omega
  | 3 =>
    refine ⟨fun rest => ?_, 32, 35 :: (rem ++ [10]), rfl, by decide⟩
    have e : betw rem 3 ++ rest = 32 :: 35 :: (rem ++ 10 :: rest) := by simp [betw]
    rw [e, gap_cons, if_neg (by decide), if_neg (by decide), if_neg (by decide), if_pos (by decide), gap_cons, if_neg (by decide), if_neg (by decide), if_pos (by decide), gap_remark rem rest h]
    simp [betw]
    omega
  | j + 4 =>
    refine ⟨fun rest => ?_, 35, [10, 10, 32], rfl, by decide⟩
    show gap false (35 :: 10 :: 10 :: 32 :: rest) = 4 + gap false rest
    rw [gap_cons, if_neg (by decide), if_neg (by decide), if_pos (by decide), gap_cons, if_pos (by decide), gap_cons, if_pos (by decide), gap_cons, if_neg (by decide), if_neg (by decide), if_neg (by decide), if_pos (by decide)]
    omega
theorem betw_len (rem : List UInt8) (h : rem.length ≤ 50) (j : Nat) : (betw rem j).length ≤ 53 := by
  match j with
  | 0 | 1 | 2 => simp [betw]
  | 3 => simp [betw]; omega
  | j + 4 => simp [betw]
/-- What stands ahead of token i: js are the choices. -/
def gapAtL (rem : List UInt8) (js : List Nat) (i : Nat) : List UInt8 := if i < js.length then betw rem (js.getD i 0) else [32]
def gapsL (rem : List UInt8) (js : List Nat) (n : Nat) : List (List UInt8) := (List.range n).map (gapAtL rem js)
theorem lay_snoc (b : List UInt8) (t : Tk) : ∀ (bs : List (List UInt8)) (ts : List Tk), bs.length = ts.length → lay (bs ++ [b]) (ts ++ [t]) = lay bs ts ++ b ++ t.text
  | [], [], _ => by simp [lay]
  | [], _ :: _, h => by simp at h
  | _ :: _, [], h => by simp at h
  | c :: bs, u :: ts, h => by
    rw [List.cons_append, List.cons_append, lay_cons, lay_snoc b t bs ts (by simpa using h), lay_cons]
    simp
/-- What is laid out of the first k tokens. -/
def outL (rem : List UInt8) (js : List Nat) (ts : List Tk) (k : Nat) : List UInt8 := lay (gapsL rem js k) (ts.take k)
theorem outL_succ (rem : List UInt8) (js : List Nat) (ts : List Tk) (k : Nat) (h : k < ts.length) : outL rem js ts (k + 1) = outL rem js ts k ++ gapAtL rem js k ++ ts[k].text := by
  unfold outL gapsL
  rw [List.range_succ, List.map_append, List.take_succ_eq_append_getElem h]
  exact lay_snoc _ _ _ _ (by simp; omega)
theorem gapAtL_ok (rem : List UInt8) (js : List Nat) (h : ∀ c ∈ rem, c.toNat ≠ 10) (i : Nat) : Gapped (gapAtL rem js i) ∧ Sep (gapAtL rem js i) := by
  unfold gapAtL
  split
  · exact betw_gap rem h _
  · exact ⟨gapped_sp, sep_sp⟩
theorem textSum_take (ts : List Tk) : ∀ k, textSum (ts.take k) ≤ textSum ts := by
  induction ts with
  | nil => intro k; simp
  | cons t ts ih =>
    intro k
    cases k with
    | zero => simp [textSum]
    | succ k =>
      have := ih k
      unfold textSum at *
      rw [List.take_succ_cons, List.map_cons, List.sum_cons, List.map_cons, List.sum_cons]
      omega
theorem gap_sum (rem : List UInt8) (hr : rem.length ≤ 50) (js : List Nat) (hj : js.length ≤ 20) (ts : List Tk) : ∀ k, k ≤ ts.length → (outL rem js ts k).length ≤ textSum (ts.take k) + k + 52 * min k 20
  | 0, _ => by simp [outL, gapsL, lay]
  | k + 1, h => by
    have ih := gap_sum rem hr js hj ts k (by omega)
    rw [outL_succ rem js ts k (by omega), List.length_append, List.length_append]
    have e : textSum (ts.take (k + 1)) = textSum (ts.take k) + ts[k].text.length := by
      unfold textSum
      rw [List.take_succ_eq_append_getElem (by omega), List.map_append, List.sum_append]
      simp
    rw [e]
    unfold gapAtL
    split
    · have := betw_len rem hr (js.getD k 0)
      omega
    · simp
      omega
theorem outL_len (rem : List UInt8) (hr : rem.length ≤ 50) (js : List Nat) (hj : js.length ≤ 20) {l : List UInt8} {ts : List Tk} (h : lexAll l = .ok ts) (hl : l.length ≤ 2000) (k : Nat) (hk : k ≤ ts.length) : (outL rem js ts k).length ≤ 6000 := by
  obtain ⟨_, g2, g3⟩ := lexAll_good h
  have h1 := gap_sum rem hr js hj ts k hk
  have h2 := textSum_take ts k
  omega
theorem out_relex (rem : List UInt8) (h10 : ∀ c ∈ rem, c.toNat ≠ 10) (hr : rem.length ≤ 50) (js : List Nat) (hj : js.length ≤ 20) {l : List UInt8} {ts : List Tk} (h : lexAll l = .ok ts) (hl : l.length ≤ 2000) : ∃ us, lexAll (outL rem js ts ts.length) = .ok us ∧ Alike us ts := by
  have hlen := outL_len rem hr js hj h hl ts.length (Nat.le_refl _)
  obtain ⟨g1, _, _⟩ := lexAll_good h
  unfold lexAll
  rw [if_neg (by omega)]
  unfold outL
  rw [List.take_length]
  have hne := List.length_pos_iff.2 g1.ne
  obtain ⟨m, hm⟩ : ∃ m, ts.length = m + 1 := ⟨ts.length - 1, by omega⟩
  have e : gapsL rem js ts.length = gapAtL rem js 0 :: (List.range m).map (fun i => gapAtL rem js (i + 1)) := by
    unfold gapsL
    rw [hm, List.range_succ_eq_map, List.map_cons, List.map_map]
    rfl
  rw [e]
  refine relex ts _ _ (1, 1) g1 (by simp [hm]) (gapAtL_ok rem js h10 0).1 fun b hb => ?_
  obtain ⟨i, _, rfl⟩ := List.mem_map.1 hb
  exact gapAtL_ok rem js h10 (i + 1)
end Go.Proofs.Ytedbjkjncfinnab
