/-
  Layer 15, the reference on words: as, Few.
-/
import Derived.Test.YtedbjkjncfinnaaWordW
namespace Go.Proofs.Ytedbjkjncfinnaa
open Go.RowKit

theorem as_any (u v : Value) (A B : Option Addr) (n m c d : Nat) (w : World) (hu : u = .slice A n c) (hv : v = .slice B m d) :
    Calls Try.prog 13 #[.agg #[u, v]] w fun e w' => e = .returned (.agg #[u, v]) ∧ Below w.heap.size w w' := by
  subst hu hv
  go_enter Try.func13, Try.ntmps13
  go_wp2
  refine bodyPost_ret (v := .agg #[.slice A n c, .slice B m d]) (by simp [results, Try.results13, go_sem]) rfl ?_
  exact ⟨rfl, below_alloc (below_one _ _)⟩

/-- Few letters, of few atoms. -/
def Wd.few (x : Wd) (most : Nat) : Bool := decide (x.size ≤ most) && x.stem.all (fun l => decide (l.length ≤ 100)) && x.cycle.all (fun l => decide (l.length ≤ 100))

theorem all_le_iff (l : List (List Bool)) : (l.all fun l => decide (l.length ≤ 100)) = true ↔ ∀ i (h : i < l.length), l[i].length ≤ 100 := by
  rw [List.all_eq_true]
  constructor
  · intro h i hi
    simpa using h _ (List.getElem_mem hi)
  · intro h x hx
    obtain ⟨i, hi, rfl⟩ := List.getElem_of_mem hx
    simpa using h i hi

/-- What a word's letters are, in memory. -/
theorem lets_at {w : World} {S : Nat → Prop} {l : List (List Bool)} {A : Option Addr} {n c : Nat} (h : LetsIs w S l (.slice A n c)) (hS : Bd S w) (j : Nat) (hj : j < l.length) :
    ∃ b o B d, A = some ⟨b, o, none⟩ ∧ w.cell? ⟨b, o + j, none⟩ = some (.slice B l[j].length d) ∧ b < w.heap.size ∧ LetIs w S l[j] (.slice B l[j].length d) := by
  obtain ⟨h1, _, _, h4⟩ := h.at_
  obtain ⟨b, o, hA, hs, hx⟩ := h4 (by omega)
  obtain ⟨B, d, hc, hl⟩ := hx j hj
  exact ⟨b, o, B, d, hA, hc, hS b hs, hl⟩

set_option maxHeartbeats 2000000 in
set_option maxRecDepth 100000 in
theorem few_any (x : Wd) (A B : Option Addr) (c d : Nat) (most : Nat) (w : World) (S : Nat → Prop) (hm : most ≤ 1000000) (hS : Bd S w) (hf : WdIs w S x (.slice A x.stem.length c) (.slice B x.cycle.length d)) (hbig : x.size ≤ 9223372036854775807) :
    Calls Try.prog 21 #[.agg #[.slice A x.stem.length c, .slice B x.cycle.length d], .int .i64 most] w fun e w' => e = .returned (.bool (x.few most)) ∧ Below w.heap.size w w' := by
  by_cases hsz : x.size ≤ most
  · have hbW := below_one w (.cells #[.slice A x.stem.length c, .slice B x.cycle.length d] 32)
    have ks : ∀ j (hj : j < x.stem.length), ∃ b o E e, A = some ⟨b, o, none⟩ ∧ (w.alloc (.cells #[.slice A x.stem.length c, .slice B x.cycle.length d] 32)).cell? ⟨b, o + j, none⟩ = some (.slice E x.stem[j].length e) ∧ b < (w.alloc (.cells #[.slice A x.stem.length c, .slice B x.cycle.length d] 32)).heap.size := fun j hj => by
      obtain ⟨b, o, E, e, hA, hc, hb, _⟩ := lets_at hf.1 hS j hj
      exact ⟨b, o, E, e, hA, (hbW.cell (p := ⟨b, o + j, none⟩) hb).trans hc, Nat.lt_of_lt_of_le hb hbW.size⟩
    have kc : ∀ j (hj : j < x.cycle.length), ∃ b o E e, B = some ⟨b, o, none⟩ ∧ (w.alloc (.cells #[.slice A x.stem.length c, .slice B x.cycle.length d] 32)).cell? ⟨b, o + j, none⟩ = some (.slice E x.cycle[j].length e) ∧ b < (w.alloc (.cells #[.slice A x.stem.length c, .slice B x.cycle.length d] 32)).heap.size := fun j hj => by
      obtain ⟨b, o, E, e, hA, hc, hb, _⟩ := lets_at hf.2 hS j hj
      exact ⟨b, o, E, e, hA, (hbW.cell (p := ⟨b, o + j, none⟩) hb).trans hc, Nat.lt_of_lt_of_le hb hbW.size⟩
    have b0 : (w.alloc (.cells #[.slice A x.stem.length c, .slice B x.cycle.length d] 32)).cell? ⟨w.heap.size, 0, none⟩ = some (.slice A x.stem.length c) := by simp [go_sem]
    have b1 : (w.alloc (.cells #[.slice A x.stem.length c, .slice B x.cycle.length d] 32)).cell? ⟨w.heap.size, 1, none⟩ = some (.slice B x.cycle.length d) := by simp [go_sem]
    have HZ := Lib.hid hsz
    unfold Wd.size at hsz hbig
    clear hf hS hbig
    go_enter Try.func21, Try.ntmps21
    go_wp2_with fail
    generalize w.alloc (.cells #[.slice A x.stem.length c, .slice B x.cycle.length d] 32) = W at *
    have KS := Lib.hid ks
    have KC := Lib.hid kc
    clear ks kc
    go_loopw [5] (fun i wr => ∃ j : Nat, j ≤ x.stem.length ∧ i = .int .i64 j ∧ (∀ i (h : i < x.stem.length), i < j → x.stem[i].length ≤ 100) ∧ W = wr) (fun i _ => x.stem.length - (intOf i).toNat)
    case atStart => exact ⟨0, Nat.zero_le _, rfl, fun i _ h => absurd h (by omega), rfl⟩
    case round =>
      obtain ⟨j, hj, rfl, hall, rfl⟩ := hrel
      have HALLstem := Lib.hid hall
      clear hall
      by_cases hlt : j < x.stem.length
      · obtain ⟨b, o, E, e, rfl, hc, hbw⟩ := KS.out j hlt
        have q1 : (j : Int) < (x.stem.length : Int) := by omega
        by_cases hle : x.stem[j].length ≤ 100
        · have HLE := Lib.hid hle
          have hq : ¬ (100 : Int) < (x.stem[j].length : Int) := by omega
          generalize x.stem[j].length = q at hc hq hle
          go_wp2
          go_roundw
          case rel => exact ⟨j + 1, by omega, by go_num, fun i hi hij => (Nat.lt_succ_iff_lt_or_eq.1 hij).elim (HALLstem.out i hi) (fun e => by subst e; exact HLE.out), by first | rfl | trivial⟩
          case measure => simp [intOf]; omega
        · have HLE := Lib.hid hle
          have hq : (100 : Int) < (x.stem[j].length : Int) := by omega
          generalize x.stem[j].length = q at hc hq hle
          go_wp2
          go_ret
          refine ⟨ret_bool ?_, hbW⟩
          have hno : ¬ (x.stem.all fun l => decide (l.length ≤ 100)) = true := fun h => HLE.out ((all_le_iff _).1 h j hlt)
          simp only [Bool.not_eq_true] at hno
          simp [Wd.few, hno]
      · obtain rfl : j = x.stem.length := by omega
        go_wp2_with fail
        have HST := Lib.hid ((all_le_iff x.stem).2 fun i hi => HALLstem.out i hi hi)
        go_loopw [6] (fun i wr => ∃ j : Nat, j ≤ x.cycle.length ∧ i = .int .i64 j ∧ (∀ i (h : i < x.cycle.length), i < j → x.cycle[i].length ≤ 100) ∧ W = wr) (fun i _ => x.cycle.length - (intOf i).toNat)
        case atStart => exact ⟨0, Nat.zero_le _, rfl, fun i _ h => absurd h (by omega), rfl⟩
        case round =>
          obtain ⟨j, hj, rfl, hall, rfl⟩ := hrel
          have HALLcycle := Lib.hid hall
          clear hall
          by_cases hlt : j < x.cycle.length
          · obtain ⟨b, o, E, e, rfl, hc, hbw⟩ := KC.out j hlt
            have q1 : (j : Int) < (x.cycle.length : Int) := by omega
            by_cases hle : x.cycle[j].length ≤ 100
            · have HLE := Lib.hid hle
              have hq : ¬ (100 : Int) < (x.cycle[j].length : Int) := by omega
              generalize x.cycle[j].length = q at hc hq hle
              go_wp2
              go_roundw
              case rel => exact ⟨j + 1, by omega, by go_num, fun i hi hij => (Nat.lt_succ_iff_lt_or_eq.1 hij).elim (HALLcycle.out i hi) (fun e => by subst e; exact HLE.out), by first | rfl | trivial⟩
              case measure => simp [intOf]; omega
            · have HLE := Lib.hid hle
              have hq : (100 : Int) < (x.cycle[j].length : Int) := by omega
              generalize x.cycle[j].length = q at hc hq hle
              go_wp2
              go_ret
              refine ⟨ret_bool ?_, hbW⟩
              have hno : ¬ (x.cycle.all fun l => decide (l.length ≤ 100)) = true := fun h => HLE.out ((all_le_iff _).1 h j hlt)
              simp only [Bool.not_eq_true] at hno
              simp [Wd.few, hno]
          · obtain rfl : j = x.cycle.length := by omega
            go_wp2
            go_ret
            refine ⟨ret_bool ?_, hbW⟩
            have h2 := (all_le_iff x.cycle).2 fun i hi => HALLcycle.out i hi hi
            have h1 := HST.out
            have h0 := HZ.out
            unfold Wd.few
            rw [h1, h2]
            simp
            exact h0
  · have hz : (most : Int) < (x.stem.length : Int) + (x.cycle.length : Int) := by unfold Wd.size at hsz; omega
    have hfin := Lib.hid (show x.few most = false by simp [Wd.few, hsz])
    unfold Wd.size at hsz hbig
    clear hf hS
    go_enter Try.func21, Try.ntmps21
    go_wp2
    go_ret
    exact ⟨ret_bool hfin.out.symm, below_one _ _⟩
end Go.Proofs.Ytedbjkjncfinnaa
