/-
  Layer 10's law LexNames: returns true where the texts are not too long together.
-/
import Derived.Test.YtedbjkjncfinnabLexY
import Derived.Test.YtedbjkjncfinnabLexAl
namespace Go.Proofs.Ytedbjkjncfinnab
open Go.RowKit

/-- Strings that can be read there. -/
def StrsIn (w : World) (v : Value) (bs : List ByteArray) : Prop := ∃ A c, v = .slice A bs.length c ∧ bs.length ≤ 9223372036854775807 ∧ (0 < bs.length → ∃ b o, A = some ⟨b, o, none⟩ ∧ b < w.heap.size ∧ ∀ i (h : i < bs.length), w.cell? ⟨b, o + i, none⟩ = some (.string bs[i]))
theorem StrsIn.call {w w' : World} {v : Value} {bs : List ByteArray} (h : StrsIn w v bs) (hb : Below w.heap.size w w') : StrsIn w' v bs := by
  obtain ⟨A, c, rfl, hm, h⟩ := h
  refine ⟨A, c, rfl, hm, fun h0 => ?_⟩
  obtain ⟨b, o, rfl, hl, hc⟩ := h h0
  exact ⟨b, o, rfl, Nat.lt_of_lt_of_le hl hb.size, fun j u => (hb.cell (p := ⟨b, o + j, none⟩) hl).trans (hc j u)⟩
def mkTk (b : ByteArray) : Tk := ⟨0, b.data.toList, 0, 0⟩
def tksOf (bs : List ByteArray) (k : Nat) : List Tk := (bs.take k).map mkTk
theorem tksOf_len (bs : List ByteArray) (k : Nat) (h : k ≤ bs.length) : (tksOf bs k).length = k := by
  unfold tksOf
  rw [List.length_map, List.length_take]
  omega
theorem tksOf_all (bs : List ByteArray) : tksOf bs bs.length = bs.map mkTk := by
  unfold tksOf
  rw [List.take_length]
theorem tksOf_succ (bs : List ByteArray) (k : Nat) (h : k < bs.length) : tksCells (tksOf bs (k + 1)) = tksCells (tksOf bs k) ++ [.int .i64 0, .string bs[k], .int .i64 0, .int .i64 0] := by
  unfold tksOf
  rw [List.take_succ_eq_append_getElem h, List.map_append, List.map_cons, List.map_nil, tks_snoc]
  rfl
theorem own_ne {w : World} {b1 b2 e1 e2 s1 s2 n1 n2 : Nat} {v1 v2 : Value} {x1 x2 : List Value} (h1 : w.ownsRow b1 e1 s1 v1 n1 x1) (h2 : w.ownsRow b2 e2 s2 v2 n2 x2) (he : e1 ≠ e2) : v2.ownBlock = none ∨ v2.ownBlock ≠ v1.ownBlock := by
  rcases h2.2 with ⟨rfl, _⟩ | ⟨g2, cap2, cur2, rfl, _, hg2, _⟩
  · exact .inl rfl
  · right
    rcases h1.2 with ⟨rfl, _⟩ | ⟨g1, cap1, cur1, rfl, _, hg1, _⟩
    · simp [Value.ownBlock]
    · intro h
      simp only [Value.ownBlock, Option.some.injEq] at h
      subst h
      rw [hg1] at hg2
      simp at hg2
      exact he hg2.2
theorem rtoken_info : (Try.prog.info? 30).map (fun i => (i.zero, i.size, i.bytes)) = some (some (.agg #[.int .i64 0, .string ⟨#[]⟩, .int .i64 0, .int .i64 0]), 4, 40) := by kernel_rfl
theorem own_inn {w : World} {base e n : Nat} {v : Value} {ts : List Tk} (h : w.ownsRow base e 4 v n (tksCells ts)) (hn : n = ts.length) : TksIn w v ts := by
  subst hn
  have h2 := h
  rcases h2.2 with ⟨rfl, h0⟩ | ⟨g, cap, cur, rfl, _, hg, _⟩
  · exact ⟨none, 0, by rw [h0], fun h1 => absurd h0 (by omega)⟩
  · refine ⟨some ⟨g, 0, none⟩, cap, rfl, fun _ => ⟨g, rfl, (h.lt g rfl).2, fun j u hj => ?_⟩⟩
    have := h.cells (g := g) rfl j u hj
    rwa [add_none, Nat.zero_add] at this
structure LN (w : World) (bs : List ByteArray) (k : Nat) (v1 v2 : Value) (W : World) : Prop where
  own1 : W.ownsRow w.heap.size 29 4 v1 k (tksCells (tksOf bs k))
  own2 : W.ownsRow w.heap.size 30 4 v2 k (tksCells (tksOf bs k))
  below : Below w.heap.size w W
set_option maxRecDepth 100000 in
set_option maxHeartbeats 8000000 in
theorem lexNames_any (s : ByteArray) (v : Value) (bs : List ByteArray) (w : World) (hs : s.size ≤ 9223372036854775807) (hv : StrsIn w v bs) (hl : bs.length ≤ 1000 → (spellL (bs.map mkTk)).length ≤ 4000000) :
    Calls Try.prog 3 #[.string s, v] w fun e w' => e = .returned (.bool true) ∧ Below w.heap.size w w' := by
  obtain ⟨i0, hi0, hz0, hz1, hz2⟩ := info_parts token_info
  obtain ⟨i1, hi1, hy0, hy1, hy2⟩ := info_parts rtoken_info
  have HX := Lib.hid hv
  have HL := Lib.hid hl
  obtain ⟨A, c, rfl, hm, hx⟩ := hv
  obtain ⟨n, hn⟩ : ∃ n, bs.length = n := ⟨_, rfl⟩
  have HN := Lib.hid hn
  rw [hn] at HX hm
  clear hx hl
  rw [hn]
  clear hn
  go_enter Try.func3, Try.ntmps3
  go_wp2_with fail
  refine (alive10_any w).mono ?_
  rintro e w1 ⟨rfl, hb1⟩
  have HB1 := Lib.hid hb1
  clear hb1
  by_cases h1 : 1000 < n
  · have q1 : (1000 : Int) < (n : Int) := by omega
    go_wp2
    go_ret
    exact ⟨rfl, HB1.out⟩
  have q1 : ¬ (1000 : Int) < (n : Int) := by omega
  go_wp2_with fail
  have hst : LN w bs 0 (.slice (some ⟨w1.heap.size, 0, none⟩) 0 0) (.slice (some ⟨w1.heap.size + 1, 0, none⟩) 0 0) ((w1.alloc (.cells #[] 29)).alloc (.cells #[] 30)) := by
    refine ⟨World.ownsRow.alloc (World.ownsRow_made w1 #[] 0 HB1.out.size (Nat.zero_le _) rfl) _, ?_, below_call HB1.out (below_alloc (below_one _ _))⟩
    have := World.ownsRow_made (base := w.heap.size) (e := 30) (size := 4) (w1.alloc (.cells #[] 29)) #[] 0 (by rw [World.size_alloc]; exact Nat.le_trans HB1.out.size (Nat.le_succ _)) (Nat.zero_le _) rfl
    rwa [World.size_alloc] at this
  have HST := Lib.hid hst
  clear hst
  generalize ((w1.alloc (.cells #[] 29)).alloc (.cells #[] 30)) = W2 at *
  generalize w1.heap.size = g1 at *
  go_loopw [5, 6, 18] (fun v1 v2 q wr => ∃ (k : Nat), k ≤ n ∧ q = .int .i64 k ∧ LN w bs k v1 v2 wr) (fun _ _ q _ => n - (intOf q).toNat)
  case atStart => exact ⟨0, Nat.zero_le _, rfl, HST.out⟩
  case round =>
    obtain ⟨k, hk, rfl, hln⟩ := hrel
    obtain ⟨A5, c5, rfl⟩ := own_shape4 hln.own1
    obtain ⟨A6, c6, rfl⟩ := own_shape4 hln.own2
    have HLN := Lib.hid hln
    clear hln HST
    by_cases hlt : k < n
    · have hkt : k < bs.length := by have := HN.out; omega
      obtain ⟨A', c', hv, -, hx⟩ := HX.out.call HLN.out.below
      obtain ⟨bb, oo, hA, lz, hcz⟩ := hx (by omega)
      obtain rfl : A = A' := by injection hv
      subst hA
      have cz := hcz k hkt
      have HSU := Lib.hid (tksOf_succ bs k hkt)
      generalize bs[k] = x at *
      clear hcz hx hv hkt
      have z0 : (0 : Int) ≤ (k : Int) := by omega
      have z1 : (k : Int) < (n : Int) := by omega
      have HK6 := Lib.hid (Blk.new wr 29 #[.int .i64 0, .string x, .int .i64 0, .int .i64 0])
      have HB6 := Lib.hid (below_one wr (.cells #[.int .i64 0, .string x, .int .i64 0, .int .i64 0] 29))
      have HO6 := Lib.hid (own_call HLN.out.own1 HB6.out)
      have HP6 := Lib.hid (own_call HLN.out.own2 HB6.out)
      go_wp2_with (at_builtin; refine wpList_append_own_at _ rfl _ _ 24 rfl w.heap.size 29 i0 (.agg #[.int .i64 0, .string ⟨#[]⟩, .int .i64 0, .int .i64 0]) 4 40 Try.underlying24 hi0 hz0 hz1 hz2 rfl (by decide) _ _ _ rfl HO6.out ⟨wr.heap.size, 0, none⟩ 1 1 [.int .i64 0, .string x, .int .i64 0, .int .i64 0] rfl rfl ?c1 ?c2 ?c3 ?c4 ?c5 ?_)
      case c1 =>
        intro m u hu
        have := HK6.out.cell m
        rw [add_none, Nat.zero_add, this]
        simpa using hu
      case c2 => intro u hu; simp at hu; rcases hu with rfl | rfl | rfl | rfl <;> rfl
      case c3 => unfold maxLen; omega
      case c4 => omega
      case c5 => exact Nat.le_trans HLN.out.below.size HB6.out.size
      intro v' w7 hown7 hgrow _ hloc
      have hp7 := HP6.out.kept hgrow (own_ne HO6.out HP6.out (by decide))
      have hb7 := below_grown (below_call HLN.out.below HB6.out) hgrow (own_ge HO6.out (Nat.le_refl _))
      obtain ⟨A7, c7, rfl⟩ := own_shape4 hown7
      have HO7 := Lib.hid hown7
      have HP7 := Lib.hid hp7
      have HB7 := Lib.hid hb7
      have HK8 := Lib.hid (Blk.new w7 30 #[.int .i64 0, .string x, .int .i64 0, .int .i64 0])
      have HB8 := Lib.hid (below_one w7 (.cells #[.int .i64 0, .string x, .int .i64 0, .int .i64 0] 30))
      have HO8 := Lib.hid (own_call HO7.out HB8.out)
      have HP8 := Lib.hid (own_call HP7.out HB8.out)
      clear hown7 hp7 hb7 hgrow hloc cz
      go_wp2_with (at_builtin; refine wpList_append_own_at _ rfl _ _ 25 rfl w.heap.size 30 i1 (.agg #[.int .i64 0, .string ⟨#[]⟩, .int .i64 0, .int .i64 0]) 4 40 Try.underlying25 hi1 hy0 hy1 hy2 rfl (by decide) _ _ _ rfl HP8.out ⟨w7.heap.size, 0, none⟩ 1 1 [.int .i64 0, .string x, .int .i64 0, .int .i64 0] rfl rfl ?c1 ?c2 ?c3 ?c4 ?c5 ?_)
      case c1 =>
        intro m u hu
        have := HK8.out.cell m
        rw [add_none, Nat.zero_add, this]
        simpa using hu
      case c2 => intro u hu; simp at hu; rcases hu with rfl | rfl | rfl | rfl <;> rfl
      case c3 => unfold maxLen; omega
      case c4 => omega
      case c5 => exact Nat.le_trans HB7.out.size HB8.out.size
      intro v' w9 hown9 hgrow _ hloc
      have ho9 := HO8.out.kept hgrow (own_ne HP8.out HO8.out (by decide))
      have hb9 := below_grown (below_call HB7.out HB8.out) hgrow (own_ge HP8.out (Nat.le_refl _))
      obtain ⟨A9, c9, rfl⟩ := own_shape4 hown9
      have HLN9 := Lib.hid (show LN w bs (k + 1) (.slice A7 (k + 1) c7) (.slice A9 (k + 1) c9) w9 from ⟨by rw [HSU.out]; exact ho9, by rw [HSU.out]; exact hown9, hb9⟩)
      clear hown9 ho9 hb9 hgrow hloc
      go_wp2_with fail
      go_roundw
      case rel => exact ⟨k + 1, hlt, by go_num, HLN9.out⟩
      case measure => simp [intOf]; omega
    · obtain rfl : k = n := by omega
      have HT := Lib.hid (show tksOf bs k = bs.map mkTk by rw [← HN.out]; exact tksOf_all bs)
      have hn1 : k = (bs.map mkTk).length := by rw [List.length_map, HN.out]
      have HI1 := Lib.hid (own_inn HLN.out.own1 (by rw [HT.out]; exact hn1))
      have HI2 := Lib.hid (own_inn HLN.out.own2 (by rw [HT.out]; exact hn1))
      rw [HT.out] at HI1 HI2
      have HLEN := Lib.hid (HL.out (by have := HN.out; omega))
      have HCN := Lib.hid (show (bs.map mkTk).length ≤ 1000000 by omega)
      generalize bs.map mkTk = ts at *
      obtain ⟨r, hr⟩ : ∃ r : ByteArray, (⟨(spellL ts).toArray⟩ : ByteArray) = r := ⟨_, rfl⟩
      have HR := Lib.hid hr
      obtain ⟨b1, hb1⟩ : ∃ b, nameB s.data.toList = b := ⟨_, rfl⟩
      obtain ⟨b2, hb2⟩ : ∃ b, numB s.data.toList = b := ⟨_, rfl⟩
      obtain ⟨b3, hb3⟩ : ∃ b, resB s.data.toList = b := ⟨_, rfl⟩
      have HB01 := Lib.hid hb1
      have HB02 := Lib.hid hb2
      have HB03 := Lib.hid hb3
      have y1 : (b1 == b1) = true := by simp
      have y2 : (b2 == b2) = true := by simp
      have y3 : (b3 == b3) = true := by simp
      have y4 : (r.toList == r.toList) = true := by simp
      have HBR := Lib.hid HLN.out.below
      clear hr hb1 hb2 hb3 hn1
      go_wp2_with fail
      refine (name_any s wr hs).mono ?_
      rw [HB01.out]
      rintro e v1 ⟨rfl, hb⟩
      have HC1 := Lib.hid hb
      clear hb
      go_wp2_with fail
      refine (rname_any s v1 hs).mono ?_
      rw [HB01.out]
      rintro e v1' ⟨rfl, rfl⟩
      go_wp2_with fail
      refine (number_any s v1 hs).mono ?_
      rw [HB02.out]
      rintro e v2 ⟨rfl, hb⟩
      have HC2 := Lib.hid (below_call HC1.out hb)
      clear hb
      go_wp2_with fail
      refine (rnumber_any s v2 hs).mono ?_
      rw [HB02.out]
      rintro e v2' ⟨rfl, rfl⟩
      go_wp2_with fail
      refine (reserved_any s v2).mono ?_
      rw [HB03.out]
      rintro e v3 ⟨rfl, hb⟩
      have HC3 := Lib.hid (below_call HC2.out hb)
      clear hb
      go_wp2_with fail
      refine (rresv_any s v3).mono ?_
      rw [HB03.out]
      rintro e v3' ⟨rfl, rfl⟩
      go_wp2_with fail
      refine (spell_at ts r _ v3 HR.out (HI1.out.call HC3.out) HCN.out (Nat.le_trans HLEN.out (by decide))).mono ?_
      rintro e v4 ⟨rfl, hb⟩
      have HC4 := Lib.hid (below_call HC3.out hb)
      clear hb
      go_wp2_with fail
      refine (rspell_any ts _ v4 (HI2.out.call HC4.out) HCN.out HLEN.out).mono ?_
      rw [HR.out]
      rintro e v5 ⟨rfl, hb⟩
      have HC5 := Lib.hid (below_call HC4.out hb)
      clear hb
      go_wp2
      go_ret
      exact ⟨rfl, below_call HBR.out HC5.out⟩
end Go.Proofs.Ytedbjkjncfinnab
