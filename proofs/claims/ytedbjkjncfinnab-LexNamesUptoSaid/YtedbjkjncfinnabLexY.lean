/-
  Layer 10: the reference's Spell.
-/
import Derived.Test.YtedbjkjncfinnabLexX
import Derived.Test.YtedbjkjncfinnabLexSp
namespace Go.Proofs.Ytedbjkjncfinnab
open Go.RowKit

theorem bytes_ext {a b : ByteArray} (h : a.data.toList = b.data.toList) : a = b := by
  cases a
  cases b
  simp only [ByteArray.mk.injEq]
  exact Array.toList_inj.1 h
theorem tail_snoc (sep : List UInt8) (r : List (List UInt8)) (x : List UInt8) : Lib.joinTail sep (r ++ [x]) = Lib.joinTail sep r ++ (sep ++ x) := by
  simp [Lib.joinTail]
theorem join_snoc (l : List (List UInt8)) (x sep : List UInt8) (h : l ≠ []) : Lib.join (l ++ [x]) sep = Lib.join l sep ++ (sep ++ x) := by
  cases l with
  | nil => exact absurd rfl h
  | cons a r =>
    rw [List.cons_append, Lib.join_cons, Lib.join_cons, tail_snoc, List.append_assoc]
/-- What is spelled of the first k tokens. -/
def jnL (ts : List Tk) (k : Nat) : List UInt8 := Lib.join ((ts.take k).map (·.text)) [32]
theorem jnL_zero (ts : List Tk) : jnL ts 0 = [] := rfl
theorem jnL_one (ts : List Tk) (h : 0 < ts.length) : jnL ts 1 = ts[0].text := by
  cases ts with
  | nil => simp at h
  | cons t ts => simp [jnL, Lib.join_one]
theorem jnL_succ (ts : List Tk) (k : Nat) (h : k < ts.length) (h0 : 0 < k) : jnL ts (k + 1) = (jnL ts k ++ [32]) ++ ts[k].text := by
  unfold jnL
  rw [List.take_succ_eq_append_getElem h, List.map_append, List.map_cons, List.map_nil, join_snoc, List.append_assoc]
  intro h1
  rw [List.map_eq_nil_iff, List.take_eq_nil_iff] at h1
  rcases h1 with h1 | h1
  · omega
  · rw [h1] at h; simp at h
theorem jnL_all (ts : List Tk) : jnL ts ts.length = spellL ts := by
  unfold jnL spellL
  rw [List.take_length]
theorem jnL_len (ts : List Tk) : ∀ d k, k + d = ts.length → (jnL ts k).length ≤ (spellL ts).length
  | 0, k, h => by
    obtain rfl : k = ts.length := by omega
    rw [jnL_all]
    exact Nat.le_refl _
  | d + 1, k, h => by
    refine Nat.le_trans ?_ (jnL_len ts d (k + 1) (by omega))
    rcases Nat.eq_zero_or_pos k with rfl | h0
    · rw [jnL_zero]; exact Nat.zero_le _
    · rw [jnL_succ ts k (by omega) h0]
      simp
set_option maxRecDepth 100000 in
set_option maxHeartbeats 4000000 in
theorem rspell_any (ts : List Tk) (v : Value) (w : World) (h : TksIn w v ts) (hn : ts.length ≤ 1000000) (hl : (spellL ts).length ≤ 4000000) :
    Calls Try.prog 16 #[v] w fun e w' => e = .returned (.string ⟨(spellL ts).toArray⟩) ∧ Below w.heap.size w w' := by
  obtain ⟨A, c, rfl, hx⟩ := h
  have HX := Lib.hid (show TksIn w (.slice A ts.length c) ts from ⟨A, c, rfl, hx⟩)
  have HLEN := Lib.hid (fun k (h : k ≤ ts.length) => Nat.le_trans (jnL_len ts (ts.length - k) k (by omega)) hl)
  obtain ⟨n, hn'⟩ : ∃ n, ts.length = n := ⟨_, rfl⟩
  have HN := Lib.hid hn'
  rw [hn'] at HX hn
  clear hx hl
  rw [hn']
  clear hn'
  go_enter Try.func16, Try.ntmps16
  go_wp2_with fail
  go_loopw [3, 4] (fun o q wr => ∃ (k : Nat) (ob : ByteArray), k ≤ n ∧ q = .int .i64 k ∧ o = .string ob ∧ ob.data.toList = jnL ts k ∧ Below w.heap.size w wr) (fun _ q _ => n - (intOf q).toNat)
  case atStart => exact ⟨0, ⟨#[]⟩, Nat.zero_le _, rfl, rfl, rfl, Below.refl _ _⟩
  case round =>
    obtain ⟨k, ob, hk, rfl, rfl, hob, hb⟩ := hrel
    have HBR := Lib.hid hb
    have HOB := Lib.hid hob
    clear hob
    by_cases hlt : k < n
    · have hkt : k < ts.length := by have := HN.out; omega
      obtain ⟨-, b, rfl, l0, c0, c1, c2, c3⟩ := tks_cells (HX.out.call hb) k hkt
      have HTX := Lib.hid (show (txtB ts[k]).data.toList = ts[k].text by simp [txtB])
      have z0 : (0 : Int) ≤ (k : Int) := by omega
      have z1 : (k : Int) < (n : Int) := by omega
      rcases Nat.eq_zero_or_pos k with rfl | h0
      · have HF := Lib.hid (show (ob ++ txtB ts[0]).data.toList = jnL ts 1 by
          rw [jnL_one ts hkt, ByteArray.data_append, Array.toList_append, HOB.out, HTX.out]; rfl)
        have h1 := HLEN.out 1 (by have := HN.out; omega)
        rw [← HF.out, len_of, ByteArray.size_append] at h1
        generalize txtB ts[0] = x at *
        generalize ts[0].kind = kd at *
        generalize ts[0].ln = ln at *
        generalize ts[0].co = co at *
        generalize ts[0].text = tx at *
        have s1 : ob.size ≤ 4000000 := by omega
        have s2 : x.size ≤ 4000000 := by omega
        clear h1 hb hkt
        go_wp2_with fail
        go_roundw
        case rel => exact ⟨1, _, hlt, by go_num, rfl, HF.out, HBR.out⟩
        case measure => simp [intOf]; omega
      · have HF := Lib.hid (show ((ob ++ ⟨#[32]⟩) ++ txtB ts[k]).data.toList = jnL ts (k + 1) by
          rw [jnL_succ ts k hkt h0, ByteArray.data_append, Array.toList_append, ByteArray.data_append, Array.toList_append, HOB.out, HTX.out])
        have h1 := HLEN.out (k + 1) (by have := HN.out; omega)
        rw [← HF.out, len_of, ByteArray.size_append, ByteArray.size_append] at h1
        have e1 : (⟨#[32]⟩ : ByteArray).size = 1 := rfl
        rw [e1] at h1
        generalize txtB ts[k] = x at *
        generalize ts[k].kind = kd at *
        generalize ts[k].ln = ln at *
        generalize ts[k].co = co at *
        generalize ts[k].text = tx at *
        have y0 : (0 : Int) < (k : Int) := by omega
        have s1 : ob.size ≤ 4000000 := by omega
        have s2 : x.size ≤ 4000000 := by omega
        have s3 : (ob ++ ⟨#[32]⟩).size ≤ 4000000 := by rw [ByteArray.size_append, e1]; omega
        clear h1 hb hkt e1
        go_wp2_with fail
        go_roundw
        case rel => exact ⟨k + 1, _, hlt, by go_num, rfl, HF.out, HBR.out⟩
        case measure => simp [intOf]; omega
    · obtain rfl : k = n := by omega
      have HE := Lib.hid (show ob = ⟨(spellL ts).toArray⟩ from bytes_ext (by rw [HOB.out, ← HN.out, jnL_all]))
      clear hb
      go_wp2
      go_ret
      exact ⟨by rw [← HE.out]; rfl, HBR.out⟩
end Go.Proofs.Ytedbjkjncfinnab
