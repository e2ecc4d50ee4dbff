/-
  Layer 10: Spell: tokens as a text.
-/
import Derived.Test.YtedbjkjncfinnaaLexG
namespace Go.Proofs.Ytedbjkjncfinnaa
open Go.RowKit

/-- Tokens that can be read there. -/
def TksIn (w : World) (v : Value) (ts : List Tk) : Prop := ∃ A c, v = .slice A ts.length c ∧ (0 < ts.length → ∃ b, A = some ⟨b, 0, none⟩ ∧ b < w.heap.size ∧ ∀ j u, (tksCells ts)[j]? = some u → w.cell? ⟨b, j, none⟩ = some u)
theorem TksIn.call {w w' : World} {v : Value} {ts : List Tk} (h : TksIn w v ts) (hb : Below w.heap.size w w') : TksIn w' v ts := by
  obtain ⟨A, c, rfl, h⟩ := h
  refine ⟨A, c, rfl, fun h0 => ?_⟩
  obtain ⟨b, rfl, hl, hc⟩ := h h0
  exact ⟨b, rfl, Nat.lt_of_lt_of_le hl hb.size, fun j u hj => (hb.cell (p := ⟨b, j, none⟩) hl).trans (hc j u hj)⟩
theorem OwnTks.inn {w : World} {base : Nat} {v : Value} {ts : List Tk} (h : OwnTks w base v ts) : TksIn w v ts := by
  unfold OwnTks at h
  have h2 := h
  rcases h2.2 with ⟨rfl, h0⟩ | ⟨g, cap, cur, rfl, _, hg, _⟩
  · exact ⟨none, 0, by rw [h0], fun h1 => absurd h0 (by omega)⟩
  · refine ⟨some ⟨g, 0, none⟩, cap, rfl, fun _ => ⟨g, rfl, (h.lt g rfl).2, fun j u hj => ?_⟩⟩
    have := h.cells (g := g) rfl j u hj
    rwa [add_none, Nat.zero_add] at this
theorem tks_at (ts : List Tk) : ∀ i (h : i < ts.length), (tksCells ts)[i * 4]? = some (.int .i64 ts[i].kind) ∧ (tksCells ts)[i * 4 + 1]? = some (.string ⟨ts[i].text.toArray⟩) ∧ (tksCells ts)[i * 4 + 2]? = some (.int .i64 ts[i].ln) ∧ (tksCells ts)[i * 4 + 3]? = some (.int .i64 ts[i].co) := by
  induction ts with
  | nil => intro i h; simp at h
  | cons t ts ih =>
    intro i h
    have e : tksCells (t :: ts) = tkCells t ++ tksCells ts := by simp [tksCells]
    rw [e]
    rcases i with _ | i
    · exact ⟨rfl, rfl, rfl, rfl⟩
    · have h' : i < ts.length := by simpa using h
      obtain ⟨h1, h2, h3, h4⟩ := ih i h'
      have l4 : (tkCells t).length = 4 := rfl
      rw [List.getElem?_append_right (by omega), List.getElem?_append_right (by omega), List.getElem?_append_right (by omega), List.getElem?_append_right (by omega), l4]
      simp only [List.getElem_cons_succ]
      rw [show (i + 1) * 4 - 4 = i * 4 by omega, show (i + 1) * 4 + 1 - 4 = i * 4 + 1 by omega, show (i + 1) * 4 + 2 - 4 = i * 4 + 2 by omega, show (i + 1) * 4 + 3 - 4 = i * 4 + 3 by omega]
      exact ⟨h1, h2, h3, h4⟩
def txtB (t : Tk) : ByteArray := ⟨t.text.toArray⟩
def spellL (ts : List Tk) : List UInt8 := Lib.join (ts.map (·.text)) [32]
theorem string_info : (Try.prog.info? 9).map (fun i => (i.zero, i.size, i.bytes)) = some (some (.string ⟨#[]⟩), 1, 16) := by kernel_rfl
theorem own_shape1 {w : World} {base e n : Nat} {v : Value} {xs : List Value} (h : w.ownsRow base e 1 v n xs) : ∃ A c, v = .slice A n c := by
  rcases h.2 with ⟨rfl, rfl⟩ | ⟨g, cap, cur, rfl, _⟩
  · exact ⟨_, _, rfl⟩
  · exact ⟨_, _, rfl⟩
theorem takes_succ {α β : Type} (f : α → β) (l : List α) (k : Nat) (h : k < l.length) : (l.take (k + 1)).map f = (l.take k).map f ++ [f l[k]] := by
  rw [List.take_succ_eq_append_getElem h, List.map_append]
  rfl

def txtV (ts : List Tk) (k : Nat) : List Value := (ts.take k).map fun t => .string (txtB t)
set_option maxRecDepth 100000 in
set_option maxHeartbeats 4000000 in
theorem spell_any (ts : List Tk) (v : Value) (w : World) (h : TksIn w v ts) (hn : ts.length ≤ 1000000) (hl : (spellL ts).length ≤ 140737488355328) :
    Calls Try.prog 46 #[v] w fun e w' => e = .returned (.string ⟨(spellL ts).toArray⟩) ∧ Below w.heap.size w w' := by
  obtain ⟨i0, hi0, hz0, hz1, hz2⟩ := info_parts string_info
  obtain ⟨A, c, rfl, hx⟩ := h
  have HX := Lib.hid hx
  have HL := Lib.hid hl
  clear hx hl
  go_enter Try.func46, Try.ntmps46
  go_wp2_with fail
  go_loopw [3, 8] (fun v q wr => ∃ k : Nat, k ≤ ts.length ∧ q = .int .i64 k ∧ wr.ownsRow w.heap.size 9 1 v k (txtV ts k) ∧ Below w.heap.size w wr) (fun _ q _ => ts.length - (intOf q).toNat)
  case atStart => exact ⟨0, Nat.zero_le _, rfl, World.ownsRow_nil _ _ _ _, Below.refl _ _⟩
  case round =>
    obtain ⟨k, hk, rfl, hown, hb⟩ := hrel
    obtain ⟨A5, c5, rfl⟩ := own_shape1 hown
    have HO := Lib.hid hown
    have HB := Lib.hid hb
    clear hown hb
    by_cases hlt : k < ts.length
    · obtain ⟨b, rfl, hbl, hc⟩ := HX.out (by omega)
      obtain ⟨t0, t1, t2, t3⟩ := tks_at ts k hlt
      have c0 := (HB.out.cell (p := ⟨b, k * 4, none⟩) hbl).trans (hc _ _ t0)
      have c1 : wr.cell? ⟨b, k * 4 + 1, none⟩ = some (.string (txtB ts[k])) := (HB.out.cell (p := ⟨b, k * 4 + 1, none⟩) hbl).trans (hc _ _ t1)
      have c2 := (HB.out.cell (p := ⟨b, k * 4 + 2, none⟩) hbl).trans (hc _ _ t2)
      have c3 := (HB.out.cell (p := ⟨b, k * 4 + 3, none⟩) hbl).trans (hc _ _ t3)
      have HTK := Lib.hid (show txtV ts (k + 1) = txtV ts k ++ [.string (txtB ts[k])] from takes_succ (fun t => Value.string (txtB t)) ts k hlt)
      have l0 : b < wr.heap.size := lt_size c0
      have z0 : (0 : Int) ≤ (k : Int) := by omega
      have z1 : (k : Int) < (ts.length : Int) := by omega
      generalize ts[k] = t at *
      clear hc t0 t1 t2 t3 hbl
      obtain ⟨k4, k5, k6⟩ := boxes2 wr 68 9 #[.int .i64 t.kind, .string (txtB t), .int .i64 t.ln, .int .i64 t.co] #[.string (txtB t)]
      have HK6 := Lib.hid k5
      have HB6 := Lib.hid k6
      have HO6 := Lib.hid (own_call HO.out k6)
      clear k4 k5 k6
      go_wp2_with (at_builtin; refine wpList_append_own_at _ rfl _ _ 89 rfl w.heap.size 9 i0 (.string ⟨#[]⟩) 1 16 Try.underlying89 hi0 hz0 hz1 hz2 rfl (by decide) _ _ _ rfl HO6.out ⟨wr.heap.size + 1, 0, none⟩ 1 1 [.string (txtB t)] rfl rfl ?c1 ?c2 ?c3 ?c4 ?c5 ?_)
      case c1 =>
        intro m u hu
        have := HK6.out.cell m
        rw [add_none, Nat.zero_add, this]
        simpa using hu
      case c2 => intro u hu; simp at hu; subst hu; rfl
      case c3 => unfold maxLen; omega
      case c4 => omega
      case c5 => exact Nat.le_trans HB.out.size HB6.out.size
      intro v' w7 hown7 hgrow _ hloc
      obtain ⟨A7, c7, rfl⟩ := own_shape1 hown7
      have HO7 := Lib.hid hown7
      have HB7 := Lib.hid (below_grown (below_call HB.out HB6.out) hgrow (own_ge HO6.out (Nat.le_refl _)))
      clear hown7 hgrow hloc
      go_wp2_with fail
      go_roundw
      case rel => exact ⟨k + 1, hlt, by go_num, by rw [HTK.out]; exact HO7.out, HB7.out⟩
      case measure => simp [intOf]; omega
    · obtain rfl : k = ts.length := by omega
      have HT := Lib.hid (show txtV ts ts.length = (ts.map txtB).map Value.string by unfold txtV; rw [List.take_length, List.map_map]; rfl)
      have HJ2 := Lib.hid (show Lib.join ((ts.map txtB).map (·.data.toList)) [32] = spellL ts by unfold spellL; rw [List.map_map]; rfl)
      go_wp2_with fail
      by_cases h0 : ts.length = 0
      · have HE := Lib.hid (List.length_eq_zero_iff.1 h0)
        rw [h0]
        refine (Try.strings_Join_none _ _ _ wr).mono ?_
        rintro e w' ⟨rfl, rfl⟩
        go_wp2
        go_ret
        exact ⟨by rw [HE.out]; rfl, HB.out⟩
      · rcases HO.out.2 with ⟨h1, _⟩ | ⟨g, cap, cur, hv, hg1, hg2, hg3, _⟩
        · have : ts.length = 0 := by injection h1
          exact absurd this h0
        · obtain ⟨rfl, -, rfl⟩ : A5 = some ⟨g, 0, none⟩ ∧ True ∧ c5 = cap := by injection hv with h1 h2 h3; exact ⟨h1, trivial, h3⟩
          have hcells := HO.out.cells (g := g) rfl
          have hgl := (HO.out.lt g rfl).2
          have hlm : ts.length = (ts.map txtB).length := by simp
          have hj := Try.strings_Join g 0 c5 (ts.map txtB) ⟨#[32]⟩ wr (fun j x hx => by
            have := hcells j (.string x) (by rw [HT.out, List.getElem?_map, hx]; rfl)
            rwa [add_none] at this) hgl (by rw [← hlm]; omega) (by rw [← hlm]; omega) (by
              show (Lib.join ((ts.map txtB).map (·.data.toList)) [32]).length ≤ _
              rw [HJ2.out]; exact HL.out)
          rw [← hlm] at hj
          refine hj.mono ?_
          rintro e w' ⟨rfl, hb2⟩
          have HB8 := Lib.hid (below_call HB.out hb2)
          clear hj hcells hb2 hlm
          have hj3 : Lib.join ((ts.map txtB).map (·.data.toList)) (ByteArray.mk #[32]).data.toList = spellL ts := HJ2.out
          rw [hj3]
          clear hj3
          obtain ⟨r, hr⟩ : ∃ r, r = (spellL ts).toArray := ⟨_, rfl⟩
          have HRR := Lib.hid hr
          rw [← hr]
          clear hr
          go_wp2
          go_ret
          exact ⟨by rw [← HRR.out]; rfl, HB8.out⟩
end Go.Proofs.Ytedbjkjncfinnaa
