/-
  A word, as what is read; the places of layer 15.
-/
import Derived.Test.YtedbjkjncfinnaaRead
import Derived.Test.YtedbjkjncfinnaaRows
import Derived.Test.YtedbjkjncfinnaaMem
import Derived.Test.YtedbjkjncfinnaaLater
namespace Go.Proofs.Ytedbjkjncfinnaa
open Go.RowKit

/-- A letter as what is read. -/
def letD (l : List Bool) : D := .slice 1 (l.map D.bool)
/-- Letters as what is read. -/
def letsD (ls : List (List Bool)) : D := .slice 1 (ls.map letD)
/-- The letter v lies in w's blocks of S. -/
def LetIs (w : World) (S : Nat → Prop) (l : List Bool) (v : Value) : Prop := D.Is w S (letD l) [v]
def LetsIs (w : World) (S : Nat → Prop) (ls : List (List Bool)) (v : Value) : Prop := D.Is w S (letsD ls) [v]

theorem LetIs.form {w : World} {S : Nat → Prop} {l : List Bool} {v : Value} (h : LetIs w S l v) : ∃ A c, v = .slice A l.length c := by
  obtain ⟨A, c, h⟩ := D.Is.slice_form h
  simp only [List.cons.injEq, and_true, List.length_map] at h
  exact ⟨A, c, h⟩
theorem LetIs.at_ {w : World} {S : Nat → Prop} {l : List Bool} {A : Option Addr} {n c : Nat} (h : LetIs w S l (.slice A n c)) :
    n = l.length ∧ n ≤ c ∧ c ≤ maxLen ∧ (0 < n → ∃ b o, A = some ⟨b, o, none⟩ ∧ S b ∧ ∀ i, i < n → w.cell? ⟨b, o + i, none⟩ = some (.bool (l.getD i false))) := by
  obtain ⟨h1, h2, h3, h4⟩ := D.Is.slice_at h
  simp only [List.length_map] at h1 h4
  refine ⟨h1, h2, h3, fun hn => ?_⟩
  obtain ⟨b, o, hA, hS, hx⟩ := h4 hn
  refine ⟨b, o, hA, hS, fun i hi => ?_⟩
  obtain ⟨cs, hc1, hc2, hc3⟩ := hx i (by omega)
  rw [List.getElem_map] at hc3
  simp only [D.Is] at hc3
  subst hc3
  have := hc2 0 _ rfl
  simp only [Nat.mul_one, Nat.add_zero] at this
  rw [this, List.getD_eq_getElem?_getD, List.getElem?_eq_getElem (by omega)]
  rfl
theorem LetIs.mk_ {w : World} {S : Nat → Prop} {l : List Bool} {A : Option Addr} {n c : Nat} (hn : n = l.length) (hc : n ≤ c) (hm : c ≤ maxLen)
    (h : 0 < n → ∃ b o, A = some ⟨b, o, none⟩ ∧ S b ∧ ∀ i, i < n → w.cell? ⟨b, o + i, none⟩ = some (.bool (l.getD i false))) : LetIs w S l (.slice A n c) := by
  refine D.Is.slice_mk (by simpa using hn) hc hm fun h0 => ?_
  obtain ⟨b, o, hA, hS, hx⟩ := h h0
  refine ⟨b, o, hA, hS, fun i hi => ⟨[.bool (l.getD i false)], rfl, fun j u hj => ?_, ?_⟩⟩
  · match j, hj with
    | 0, hj =>
      simp only [List.getElem?_cons_zero, Option.some.injEq] at hj
      subst hj
      simpa using hx i (by simp at hi; omega)
    | j + 1, hj => simp at hj
  · rw [List.getElem_map]
    simp only [D.Is]
    simp at hi
    rw [List.getD_eq_getElem?_getD, List.getElem?_eq_getElem hi]
    rfl
theorem LetsIs.form {w : World} {S : Nat → Prop} {l : List (List Bool)} {v : Value} (h : LetsIs w S l v) : ∃ A c, v = .slice A l.length c := by
  obtain ⟨A, c, h⟩ := D.Is.slice_form h
  simp only [List.cons.injEq, and_true, List.length_map] at h
  exact ⟨A, c, h⟩
theorem LetsIs.at_ {w : World} {S : Nat → Prop} {l : List (List Bool)} {A : Option Addr} {n c : Nat} (h : LetsIs w S l (.slice A n c)) :
    n = l.length ∧ n ≤ c ∧ c ≤ maxLen ∧ (0 < n → ∃ b o, A = some ⟨b, o, none⟩ ∧ S b ∧ ∀ i (hi : i < l.length), ∃ B d, w.cell? ⟨b, o + i, none⟩ = some (.slice B l[i].length d) ∧ LetIs w S l[i] (.slice B l[i].length d)) := by
  obtain ⟨h1, h2, h3, h4⟩ := D.Is.slice_at h
  simp only [List.length_map] at h1 h4
  refine ⟨h1, h2, h3, fun hn => ?_⟩
  obtain ⟨b, o, hA, hS, hx⟩ := h4 hn
  refine ⟨b, o, hA, hS, fun i hi => ?_⟩
  obtain ⟨cs, hc1, hc2, hc3⟩ := hx i hi
  rw [List.getElem_map] at hc3
  match cs, hc1 with
  | [v], _ =>
    obtain ⟨B, d, rfl⟩ := LetIs.form hc3
    have := hc2 0 _ rfl
    simp only [Nat.mul_one, Nat.add_zero] at this
    exact ⟨B, d, this, hc3⟩

section
variable {w w' : World} {S S' : Nat → Prop} {l : List Bool} {ls : List (List Bool)} {v : Value}
theorem LetIs.call (h : LetIs w S l v) (hS : Bd S w) (hb : Below w.heap.size w w') : LetIs w' S l v := D.Is.call h hS hb
theorem LetIs.mono (h : LetIs w S l v) (hs : ∀ b, S b → S' b) : LetIs w S' l v := D.Is.mono h hs
theorem LetsIs.call (h : LetsIs w S ls v) (hS : Bd S w) (hb : Below w.heap.size w w') : LetsIs w' S ls v := D.Is.call h hS hb
theorem LetsIs.mono (h : LetsIs w S ls v) (hs : ∀ b, S b → S' b) : LetsIs w S' ls v := D.Is.mono h hs
end

/-- A word. -/
structure Wd where
  stem : List (List Bool)
  cycle : List (List Bool)
def Wd.size (x : Wd) : Nat := x.stem.length + x.cycle.length
/-- The word lies in w's blocks of S: its two cells. -/
def WdIs (w : World) (S : Nat → Prop) (x : Wd) (u v : Value) : Prop := LetsIs w S x.stem u ∧ LetsIs w S x.cycle v
theorem WdIs.call {w w' : World} {S : Nat → Prop} {x : Wd} {u v : Value} (h : WdIs w S x u v) (hS : Bd S w) (hb : Below w.heap.size w w') : WdIs w' S x u v := ⟨h.1.call hS hb, h.2.call hS hb⟩
def Wd.next (x : Wd) (i : Nat) : Nat := if i + 1 = x.size then x.stem.length else i + 1
def Wd.place (x : Wd) (i : Nat) : Nat := if x.stem.length ≤ i then x.stem.length + (i - x.stem.length) % x.cycle.length else i
def Wd.letter (x : Wd) (i : Nat) : List Bool := if x.stem.length ≤ i then x.cycle.getD (i - x.stem.length) [] else x.stem.getD i []

/-- Does atom p hold in the letter? -/
def hasAt (l : List Bool) (p : Int) : Bool := if 0 ≤ p then l.getD p.toNat false else false
/-- The letter of a position, however far. -/
def Wd.far (x : Wd) (i : Nat) : List Bool := x.letter (x.place i)

theorem wsize_any (A B : Option Addr) (n c m d : Nat) (w : World) (h : n + m ≤ 1000000000) :
    Calls Try.prog 66 #[.agg #[.slice A n c, .slice B m d]] w fun e w' => e = .returned (.int .i64 (n + m : Nat)) ∧ Below w.heap.size w w' := by
  go_enter Try.func66, Try.ntmps66
  go_wp2
  go_ret
  exact ⟨ret_int (by omega), below_one _ _⟩

theorem wnext_any (x : Wd) (A B : Option Addr) (c d : Nat) (i : Int) (w : World) (hx : x.size ≤ 1000000000) (h0 : 0 ≤ i) (hi : i < x.size) :
    Calls Try.prog 64 #[.agg #[.slice A x.stem.length c, .slice B x.cycle.length d], .int .i64 i] w fun e w' => e = .returned (.int .i64 (x.next i.toNat)) ∧ Below w.heap.size w w' := by
  obtain ⟨j, rfl⟩ := Int.eq_ofNat_of_zero_le h0
  unfold Wd.next
  unfold Wd.size at *
  generalize x.stem.length = n at *
  generalize x.cycle.length = m at *
  simp only [Int.toNat_natCast]
  by_cases hq : j + 1 = n + m
  · have ht : ((j : Int) + 1 == ((n + m : Nat) : Int)) = true := by simp; omega
    rw [if_pos hq]
    clear hq
    go_enter Try.func64, Try.ntmps64
    go_wp2_with (go_at_call 66; refine (wsize_any _ _ _ _ _ _ _ ?_).mono ?_; (omega); rintro e w1 ⟨rfl, hb1⟩; obtain ⟨hc1, hf1⟩ := bcell hb1)
    go_ret
    exact ⟨rfl, below_call (below_one _ _) hb1⟩
  · have ht : ((j : Int) + 1 == ((n + m : Nat) : Int)) = false := by simp; omega
    rw [if_neg hq]
    clear hq
    go_enter Try.func64, Try.ntmps64
    go_wp2_with (go_at_call 66; refine (wsize_any _ _ _ _ _ _ _ ?_).mono ?_; (omega); rintro e w1 ⟨rfl, hb1⟩; obtain ⟨hc1, hf1⟩ := bcell hb1)
    go_ret
    exact ⟨ret_int (by omega), below_call (below_one _ _) hb1⟩

theorem wplace_any (x : Wd) (A B : Option Addr) (c d : Nat) (i : Int) (w : World) (hx : x.size ≤ 1000000000) (hc : 0 < x.cycle.length) (hi : i ≤ 9223372036854775807) :
    Calls Try.prog 34 #[.agg #[.slice A x.stem.length c, .slice B x.cycle.length d], .int .i64 i] w fun e w' => e = .returned (.int .i64 (x.place i.toNat)) ∧ Below w.heap.size w w' := by
  unfold Wd.place
  unfold Wd.size at *
  generalize x.stem.length = n at *
  generalize x.cycle.length = m at *
  have hm : (0 : Int) < (m : Int) := by omega
  rcases Int.lt_or_le i 0 with hneg | hpos
  · have hz : i.toNat = 0 := by omega
    rw [hz]
    clear hz
    rcases Nat.eq_zero_or_pos n with rfl | hn
    · rw [if_pos (Nat.le_refl _)]
      go_enter Try.func34, Try.ntmps34
      go_wp2
      go_ret
      exact ⟨ret_int (by simp), below_one _ _⟩
    · rw [if_neg (by omega)]
      go_enter Try.func34, Try.ntmps34
      go_wp2
      go_ret
      exact ⟨rfl, below_one _ _⟩
  · obtain ⟨j, rfl⟩ := Int.eq_ofNat_of_zero_le hpos
    simp only [Int.toNat_natCast]
    have hnn : ¬ ((j : Int) < 0) := by omega
    by_cases hnj : n ≤ j
    · rw [if_pos hnj]
      have hq : (0 : Int) ≤ (j : Int) - (n : Int) := by omega
      have hm1 := Int.emod_lt_of_pos ((j : Int) - (n : Int)) hm
      have hm0 := Int.emod_nonneg ((j : Int) - (n : Int)) (by omega : (m : Int) ≠ 0)
      go_enter Try.func34, Try.ntmps34
      go_wp2
      go_ret
      exact ⟨ret_int (by rw [Int.ofNat_sub hnj]), below_one _ _⟩
    · rw [if_neg hnj]
      go_enter Try.func34, Try.ntmps34
      go_wp2
      go_ret
      exact ⟨rfl, below_one _ _⟩

/-- The letter of a place is known ahead of the call. -/
theorem wletter_exact (x : Wd) (A B : Option Addr) (c d i : Nat) (w : World) (S : Nat → Prop) (hx : x.size ≤ 1000000000) (hi : i < x.size) (hf : WdIs w S x (.slice A x.stem.length c) (.slice B x.cycle.length d)) :
    ∃ D e, LetIs w S (x.letter i) (.slice D (x.letter i).length e) ∧ ∀ (wx : World) (j : Int), j = i → Below w.heap.size w wx →
      Calls Try.prog 58 #[.agg #[.slice A x.stem.length c, .slice B x.cycle.length d], .int .i64 j] wx fun e' w' => e' = .returned (.slice D (x.letter i).length e) ∧ Below wx.heap.size wx w' := by
  obtain ⟨h1, h2⟩ := hf
  unfold Wd.size at *
  by_cases hs : x.stem.length ≤ i
  · obtain ⟨_, _, hm, h2⟩ := h2.at_
    obtain ⟨b, o, rfl, hS, hcell⟩ := h2 (by omega)
    obtain ⟨D, e, hc, hl⟩ := hcell (i - x.stem.length) (by omega)
    have hlet : x.letter i = x.cycle[i - x.stem.length]'(by omega) := by
      unfold Wd.letter
      rw [if_pos hs, List.getD_eq_getElem?_getD, List.getElem?_eq_getElem (by omega)]
      rfl
    rw [hlet]
    refine ⟨D, e, hl, fun wx j hj hb => ?_⟩
    subst hj
    have hbw := lt_size hc
    have e1 := (hb.cell (p := ⟨b, o + (i - x.stem.length), none⟩) hbw).trans hc
    have hbx : b < wx.heap.size := lt_size e1
    have q1 : (0 : Int) ≤ (i : Int) - (x.stem.length : Int) := by omega
    have q2 : (i : Int) - (x.stem.length : Int) < (x.cycle.length : Int) := by omega
    have q3 : ((i : Int) - (x.stem.length : Int)).toNat = i - x.stem.length := by omega
    generalize x.cycle[i - x.stem.length] = q at *
    clear h1 h2 hcell hl hlet hc hb hbw hS hm
    generalize x.stem.length = n at *
    generalize x.cycle.length = m at *
    go_enter Try.func58, Try.ntmps58
    go_wp2
    go_ret
    exact ⟨rfl, below_one _ _⟩
  · obtain ⟨_, _, hm, h1⟩ := h1.at_
    obtain ⟨b, o, rfl, hS, hcell⟩ := h1 (by omega)
    obtain ⟨D, e, hc, hl⟩ := hcell i (by omega)
    have hlet : x.letter i = x.stem[i]'(by omega) := by
      unfold Wd.letter
      rw [if_neg hs, List.getD_eq_getElem?_getD, List.getElem?_eq_getElem (by omega)]
      rfl
    rw [hlet]
    refine ⟨D, e, hl, fun wx j hj hb => ?_⟩
    subst hj
    have hbw := lt_size hc
    have e1 := (hb.cell (p := ⟨b, o + i, none⟩) hbw).trans hc
    have hbx : b < wx.heap.size := lt_size e1
    have q2 : (i : Int) < (x.stem.length : Int) := by omega
    have q1 : ¬ (x.stem.length : Int) ≤ (i : Int) := by omega
    generalize x.stem[i] = q at *
    clear h1 h2 hcell hl hlet hc hb hbw hS hm
    generalize x.stem.length = n at *
    generalize x.cycle.length = m at *
    go_enter Try.func58, Try.ntmps58
    go_wp2
    go_ret
    exact ⟨rfl, below_one _ _⟩
end Go.Proofs.Ytedbjkjncfinnaa
