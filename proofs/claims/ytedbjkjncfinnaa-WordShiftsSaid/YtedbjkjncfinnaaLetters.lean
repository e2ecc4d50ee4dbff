/-
  Layer 15: letters as new memory.
-/
import Derived.Test.YtedbjkjncfinnaaWordW
import Derived.Maps.AppendAt
import Derived.Deep.AppendLies
import Derived.WalkSpells
namespace Go.Proofs.Ytedbjkjncfinnaa
open Go.RowKit

theorem bool1_info : (Try.prog.info? 4).map (fun i => (i.zero, i.size, i.bytes)) = some (some (.bool false), 1, 1) := by kernel_rfl
theorem bools_info : (Try.prog.info? 58).map (fun i => (i.zero, i.size, i.bytes)) = some (some (.slice none 0 0), 1, 24) := by kernel_rfl

/-- What lies in the blocks from base on, but for the row of v. -/
def Beside (base : Nat) (w : World) (v : Value) (b : Nat) : Prop := base ≤ b ∧ b < w.heap.size ∧ v.ownBlock ≠ some b
def From (base : Nat) (w : World) (b : Nat) : Prop := base ≤ b ∧ b < w.heap.size

set_option maxRecDepth 100000 in
theorem clone_any (l : List Bool) (A : Option Addr) (n c : Nat) (w : World) (S : Nat → Prop) (h : LetIs w S l (.slice A n c)) (hl : l.length ≤ 1000000000) :
    Calls Try.prog 69 #[.slice A n c] w fun e w' => ∃ v, e = .returned v ∧ LetIs w' (From w.heap.size w') l v ∧ Below w.heap.size w w' := by
  obtain ⟨i0, hi0, hz0, hz1, hz2⟩ := info_parts bool1_info
  obtain ⟨hn, hc, hm, hcell⟩ := h.at_
  cases A with
  | none =>
    have hn0 : n = 0 := by
      rcases Nat.eq_zero_or_pos n with h0 | h0
      · exact h0
      · obtain ⟨b, o, hA, _⟩ := hcell h0; cases hA
    subst hn0
    have hl0 : l = [] := List.eq_nil_of_length_eq_zero hn.symm
    subst hl0
    clear h hcell hm hc hl hn
    have heq : ∀ W : World, (binOp .eql 58 (.slice none 0 c) (.slice none 0 0)).run Try.prog W = .ok (.bool true) W := fun W => Lib.run_eql_slice_nil W 58 4 none 0 c 0 0 Try.underlying58
    go_enter Try.func69, Try.ntmps69
    go_wp2
    go_ret
    exact ⟨_, rfl, LetIs.mk_ rfl (Nat.le_refl _) (by decide) (by omega), Below.refl _ _⟩
  | some ad =>
    have HC := Lib.hid hcell
    have HN := Lib.hid hn
    clear h hcell hn
    have heq : ∀ W : World, (binOp .eql 58 (.slice (some ad) n c) (.slice none 0 0)).run Try.prog W = .ok (.bool false) W := fun W => Lib.run_eql_slice_nil W 58 4 (some ad) n c 0 0 Try.underlying58
    go_enter Try.func69, Try.ntmps69
    have hnews : ∀ W', Below w.heap.size w W' → ∀ j u, (l.map Value.bool)[j]? = some u → W'.cell? (ad.add j) = some u := by
      intro W' hb j u hj
      have hjl : j < l.length := by have := (List.getElem?_eq_some_iff.1 hj).1; simpa using this
      obtain ⟨b, o, hA, _, hx⟩ := HC.out (by rw [HN.out]; omega)
      have := hx j (by rw [HN.out]; exact hjl)
      cases hA
      rw [add_none]
      refine ((hb.cell (p := ⟨b, o + j, none⟩) (lt_size this)).trans this).trans ?_
      rw [List.getElem?_map, List.getElem?_eq_getElem hjl] at hj
      rw [List.getD_eq_getElem?_getD, List.getElem?_eq_getElem hjl]
      simpa using hj
    have HNW := Lib.hid hnews
    clear hnews
    go_wp2_with (at_builtin; refine wpList_append_own_at _ rfl _ _ 58 rfl w.heap.size 4 i0 (.bool false) 1 1 Try.underlying58 hi0 hz0 hz1 hz2 rfl (by decide) _ 0 [] rfl (World.ownsRow_made _ #[] 0 (Nat.le_refl _) (by decide) rfl) ad n c (l.map Value.bool) rfl ?c0 (HNW.out _ (below_one _ _)) ?c2 ?c3 ?c4 ?c5 ?_)
    case c0 => simp [HN.out]
    case c2 => intro u hu; obtain ⟨b, _, rfl⟩ := List.mem_map.1 hu; rfl
    case c3 => have := HN.out; unfold maxLen; omega
    case c4 => have := HN.out; omega
    case c5 => simp
    intro v' w' hown hgrow _ _
    have hb : Below w.heap.size w w' := below_grown (below_one _ _) hgrow (own_ge (World.ownsRow_made (base := w.heap.size) (e := 4) (size := 1) w #[] 0 (Nat.le_refl _) (by decide) rfl) (Nat.le_refl _))
    have HO := Lib.hid hown
    have HN2 := HN
    clear hown hgrow
    go_wp2
    go_ret
    refine ⟨v', rfl, ?_, hb⟩
    have hown : w'.ownsRow w.heap.size 4 1 v' n (l.map Value.bool) := by simpa using HO.out
    refine D.of_own hown (by simp [HN2.out]) (fun b h1 h2 _ => ⟨h1, h2⟩) fun i hi => ?_
    simp only [List.getElem_map, D.Is]
    have hi' : i < l.length := by simpa using hi
    rw [Nat.mul_one, List.drop_eq_getElem_cons (by simpa using hi')]
    simp

/-- A row of letters of the call's own, at v; the letters lie beside it. -/
def OwnLets (w : World) (base : Nat) (v : Value) (ls : List (List Bool)) : Prop :=
  ∃ xs : List Value, w.ownsRow base 58 1 v ls.length xs ∧ ∀ i (h : i < ls.length), ∃ u, xs[i]? = some u ∧ LetIs w (Beside base w v) ls[i] u
section
variable {w w' : World} {base : Nat} {v v' : Value} {ls ls' : List (List Bool)}
theorem OwnLets.nil (w : World) (base : Nat) : OwnLets w base (.slice none 0 0) [] := ⟨[], World.ownsRow_nil _ _ _ _, fun i h => by simp at h⟩
theorem OwnLets.call (h : OwnLets w base v ls) (hb : Below w.heap.size w w') : OwnLets w' base v ls := by
  obtain ⟨xs, h1, h2⟩ := h
  refine ⟨xs, own_call h1 hb, fun i hi => ?_⟩
  obtain ⟨u, h3, h4⟩ := h2 i hi
  exact ⟨u, h3, (h4.call (fun b hb => hb.2.1) hb).mono fun b hb' => ⟨hb'.1, Nat.lt_of_lt_of_le hb'.2.1 hb.size, hb'.2.2⟩⟩
theorem OwnLets.len (h : OwnLets w base v ls) : ∃ xs, w.ownsRow base 58 1 v ls.length xs ∧ xs.length = ls.length := by
  obtain ⟨xs, h1, _⟩ := h
  exact ⟨xs, h1, by simpa using h1.1⟩
theorem OwnLets.lets (h : OwnLets w base v ls) : LetsIs w (From base w) ls v := by
  obtain ⟨xs, h1, h2⟩ := h
  have hl : xs.length = ls.length := by simpa using h1.1
  refine D.of_own h1 (by simp) (fun b h1 h2 _ => ⟨h1, h2⟩) fun i hi => ?_
  have hi' : i < ls.length := by simpa using hi
  obtain ⟨u, h3, h4⟩ := h2 i hi'
  have e : (xs.drop (i * 1)).take 1 = [u] := by
    rw [Nat.mul_one, List.drop_eq_getElem_cons (by omega)]
    have := (List.getElem?_eq_some_iff.1 h3).2
    simp [this]
  rw [e, List.getElem_map]
  exact h4.mono fun b hb => ⟨hb.1, hb.2.1⟩
theorem own_len {v : Value} {n : Nat} {xs : List Value} (h : w.ownsRow base 58 1 v n xs) : xs.length = n := by simpa using h.1
/-- Behind an append. -/
theorem OwnLets.app {xs news : List Value} (h : ∀ i (h : i < ls.length), ∃ u, xs[i]? = some u ∧ LetIs w (Beside base w v) ls[i] u) (h1 : xs.length = ls.length)
    (hn : ∀ i (h : i < ls'.length), ∃ u, news[i]? = some u ∧ LetIs w (Beside base w v) ls'[i] u)
    (hown : w'.ownsRow base 58 1 v' (ls.length + ls'.length) (xs ++ news)) (hg : w.grownBy w' v.ownBlock) (hloc : v'.ownBlock = v.ownBlock ∨ v'.ownBlock = some w.heap.size) : OwnLets w' base v' (ls ++ ls') := by
  have keep : ∀ b, Beside base w v b → Beside base w' v' b ∧ w'.heap[b]? = w.heap[b]? := fun b hb => by
    obtain ⟨_, _, _, hsz, hblk⟩ := hg
    refine ⟨⟨hb.1, Nat.lt_of_lt_of_le hb.2.1 hsz, ?_⟩, hblk b hb.2.1 fun e => hb.2.2 e.symm⟩
    rcases hloc with h | h
    · rw [h]; exact hb.2.2
    · rw [h]; intro e; have := hb.2.1; cases e; omega
  refine ⟨xs ++ news, by simpa using hown, fun i hi => ?_⟩
  by_cases hlt : i < ls.length
  · obtain ⟨u, h3, h4⟩ := h i hlt
    refine ⟨u, by rw [List.getElem?_append_left (by omega)]; exact h3, ?_⟩
    rw [List.getElem_append_left hlt]
    exact D.Is.keep keep _ _ h4
  · have hi' : i - ls.length < ls'.length := by simp at hi; omega
    obtain ⟨u, h3, h4⟩ := hn (i - ls.length) hi'
    refine ⟨u, by rw [List.getElem?_append_right (by omega), h1]; exact h3, ?_⟩
    rw [List.getElem_append_right (by omega)]
    exact D.Is.keep keep _ _ h4
end

theorem take_flatten_succ {α : Type} (l : List (List α)) (j : Nat) (h : j < l.length) : (l.take (j + 1)).flatten = (l.take j).flatten ++ l[j] := by
  rw [List.take_succ_eq_append_getElem h, List.flatten_append]
  simp
theorem take_flatten_le {α : Type} (l : List (List α)) (j i : Nat) (h : j < l.length) (hi : i ≤ l[j].length) : ((l.take j).flatten ++ l[j].take i).length ≤ l.flatten.length := by
  have h1 := congrArg (fun x => x.flatten.length) (List.take_append_drop (j + 1) l)
  simp only [List.flatten_append, List.length_append] at h1
  rw [take_flatten_succ l j h, List.length_append] at h1
  rw [List.length_append, List.length_take]
  omega

set_option maxRecDepth 100000 in
set_option maxHeartbeats 2000000 in
theorem letters_any (lls : List (List (List Bool))) (A : Option Addr) (n c : Nat) (w : World) (S : Nat → Prop) (hS : Bd S w) (h : D.Is w S (.slice 1 (lls.map letsD)) [.slice A n c]) (hl : lls.flatten.length ≤ 1000000)
    (hl1 : ∀ l ∈ lls.flatten, l.length ≤ 1000000000) :
    Calls Try.prog 45 #[.slice A n c] w fun e w' => ∃ v, e = .returned v ∧ OwnLets w' w.heap.size v lls.flatten ∧ Below w.heap.size w w' := by
  obtain ⟨i0, hi0, hz0, hz1, hz2⟩ := info_parts bools_info
  obtain ⟨hn, hc, hm, hcell⟩ := h.slice_at
  have HC := Lib.hid hcell
  have HL := Lib.hid hl1
  simp only [List.length_map] at hn
  subst hn
  unfold maxLen at hm
  clear h hcell hl1
  go_enter Try.func45, Try.ntmps45
  go_wp2_with fail
  go_loopw [3, 10] (fun v k wr => ∃ j : Nat, j ≤ lls.length ∧ k = .int .i64 j ∧ OwnLets wr w.heap.size v (lls.take j).flatten ∧ Below w.heap.size w wr) (fun _ k _ => lls.length - (intOf k).toNat)
  case atStart => exact ⟨0, Nat.zero_le _, rfl, OwnLets.nil _ _, Below.refl _ _⟩
  case round =>
    obtain ⟨j, hj, rfl, hown, hb⟩ := hrel
    by_cases hlt : j < lls.length
    · obtain ⟨b, o, rfl, hSb, hx⟩ := HC.out (by omega)
      obtain ⟨cs, hc1, hc2, hc3⟩ := hx j (by simpa using hlt)
      rw [List.getElem_map] at hc3
      match cs, hc1 with
      | [u], _ =>
        obtain ⟨B, d, rfl⟩ := LetsIs.form hc3
        have hcj := hc2 0 _ rfl
        simp only [Nat.mul_one, Nat.add_zero] at hcj
        have hcj' := (hb.cell (p := ⟨b, o + j, none⟩) (lt_size hcj)).trans hcj
        obtain ⟨_, hmc, hmd, hin⟩ := LetsIs.at_ hc3
        have HIN := Lib.hid hin
        have HO := Lib.hid hown
        have g0 : (0 : Int) ≤ (j : Int) := by omega
        have g1 : (j : Int) < (lls.length : Int) := by omega
        unfold maxLen at hmd
        clear hc2 hc3 hin hown hx hcj
        have HTL := Lib.hid (fun (i : Nat) (hi : i ≤ lls[j].length) => take_flatten_le lls j i hlt hi)
        have hlj : lls[j].length ≤ 1000000 := by have := HTL.out lls[j].length (Nat.le_refl _); rw [List.length_append, List.length_take] at this; omega
        go_wp2_with fail
        obtain ⟨wo, rfl⟩ : ∃ wo : World, wo = wr := ⟨_, rfl⟩
        go_loopw [3, 16] (fun v k wr => ∃ i : Nat, i ≤ lls[j].length ∧ k = .int .i64 i ∧ OwnLets wr w.heap.size v ((lls.take j).flatten ++ lls[j].take i) ∧ Below w.heap.size w wr) (fun _ k _ => lls[j].length - (intOf k).toNat)
        case atStart => exact ⟨0, Nat.zero_le _, rfl, by simpa using HO.out, hb⟩
        case round =>
          obtain ⟨i, hi, rfl, hown, hb2⟩ := hrel
          by_cases hlt2 : i < lls[j].length
          · obtain ⟨b2, o2, rfl, hSb2, hx2⟩ := HIN.out (by omega)
            obtain ⟨B3, d3, hc3, hlet⟩ := hx2 i hlt2
            have hc3' := (hb2.cell (p := ⟨b2, o2 + i, none⟩) (lt_size hc3)).trans hc3
            have hlet' := hlet.call hS hb2
            have hbd : lls[j][i].length ≤ 1000000000 := HL.out _ (List.mem_flatten.2 ⟨lls[j], List.getElem_mem hlt, List.getElem_mem hlt2⟩)
            have q0 : (0 : Int) ≤ (i : Int) := by omega
            have q1 : (i : Int) < (lls[j].length : Int) := by omega
            have HLT := Lib.hid hlet'
            have HOW := Lib.hid hown
            have HTK := Lib.hid (show lls[j].take (i + 1) = lls[j].take i ++ [lls[j][i]] from List.take_succ_eq_append_getElem hlt2)
            have htl := HTL.out (i + 1) hlt2
            obtain ⟨ls, hls⟩ : ∃ ls, ls = (lls.take j).flatten ++ lls[j].take i := ⟨_, rfl⟩
            rw [← hls] at hown HOW
            have HLS := Lib.hid hls
            have hlen : ls.length + 1 ≤ 1000000 := by rw [HTK.out, ← List.append_assoc, ← hls, List.length_append, List.length_singleton] at htl; omega
            clear htl hls
            clear hown hlet hlet' hx2 hc3
            go_wp2_with fail
            refine (clone_any lls[j][i] B3 _ _ _ S HLT.out hbd).mono ?_
            rintro e' w1 ⟨u, rfl, hlu, hb3⟩
            obtain ⟨D6, e6, rfl⟩ := LetIs.form hlu
            obtain ⟨xs, hown1, hel⟩ := HOW.out.call hb3
            have hxl := own_len hown1
            obtain ⟨A5, c5, rfl⟩ := own_shape hown1
            have HLU := Lib.hid hlu
            have HEL := Lib.hid hel
            have HXL := Lib.hid hxl
            have HB4 := Lib.hid (below_call hb2 hb3)
            have hw1 : w.heap.size ≤ w1.heap.size := (below_call hb2 hb3).size
            have HOW1 := Lib.hid hown1
            have HB3 := Lib.hid hb3
            clear hlu hel hown1 hb3 hxl
            go_wp2_with (at_builtin; refine wpList_append_own_at _ rfl _ _ 25 rfl w.heap.size 58 i0 (.slice none 0 0) 1 24 Try.underlying25 hi0 hz0 hz1 hz2 rfl (by decide) _ _ _ rfl (HOW1.out.alloc _) ⟨w1.heap.size, 0, none⟩ 1 1 [.slice D6 lls[j][i].length e6] rfl rfl ?c1 ?c2 ?c3 ?c4 ?c5 ?_)
            case c1 => exact cell_one_new _ _ _
            case c2 => intro u hu; simp at hu; subst hu; rfl
            case c3 => unfold maxLen; omega
            case c4 => omega
            case c5 => simp; omega
            intro v' w3 hown3 hgrow _ hloc
            have hb5 := below_grown (below_alloc (o := .cells #[.slice D6 lls[j][i].length e6] 58) HB4.out) hgrow (own_ge (HOW1.out.alloc (.cells #[.slice D6 lls[j][i].length e6] 58)) (Nat.le_refl _))
            have hfin : OwnLets w3 w.heap.size v' ((lls.take j).flatten ++ lls[j].take (i + 1)) := by
              rw [HTK.out, ← List.append_assoc, ← HLS.out]
              have hbo := below_one w1 (.cells #[.slice D6 lls[j][i].length e6] 58)
              refine OwnLets.app (w := w1.alloc (.cells #[.slice D6 lls[j][i].length e6] 58)) (ls' := [lls[j][i]]) (news := [.slice D6 lls[j][i].length e6]) ?_ HXL.out ?_ hown3 hgrow (by simpa using hloc)
              · intro q hq
                obtain ⟨u, h3, h4⟩ := HEL.out q hq
                exact ⟨u, h3, (h4.call (fun b hb => hb.2.1) hbo).mono fun b hb => ⟨hb.1, Nat.lt_of_lt_of_le hb.2.1 hbo.size, hb.2.2⟩⟩
              · intro q hq
                obtain rfl : q = 0 := by simpa using hq
                refine ⟨_, rfl, (HLU.out.call (fun b hb => hb.2) hbo).mono fun b hb => ⟨Nat.le_trans hb2.size hb.1, Nat.lt_of_lt_of_le hb.2 hbo.size, fun e => ?_⟩⟩
                have := ((HOW.out.len).choose_spec.1.lt b e).2
                have := hb.1
                omega
            obtain ⟨A7, c7, rfl⟩ := own_shape hown3
            have HF := Lib.hid hfin
            have HB5 := Lib.hid hb5
            clear hfin hb5 hown3 hgrow hloc
            go_wp2_with fail
            go_roundw
            case rel => exact ⟨i + 1, hlt2, by go_num, HF.out, HB5.out⟩
            case measure => simp [intOf]; omega
          · obtain rfl : i = lls[j].length := by omega
            have HOW := Lib.hid hown
            clear hown
            go_wp2_with fail
            go_roundw
            case rel => exact ⟨j + 1, hlt, by go_num, by rw [take_flatten_succ _ _ hlt]; simpa using HOW.out, hb2⟩
            case measure => simp [intOf]; omega
    · obtain rfl : j = lls.length := by omega
      have HO := Lib.hid hown
      clear hown
      go_wp2
      go_ret
      exact ⟨_, rfl, by simpa using HO.out, hb⟩
end Go.Proofs.Ytedbjkjncfinnaa
