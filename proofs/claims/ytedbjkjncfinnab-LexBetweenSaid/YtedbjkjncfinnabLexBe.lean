/-
  Layer 10's law LexBetween: returns true.
-/
import Derived.Test.YtedbjkjncfinnabLexSp
import Derived.Test.YtedbjkjncfinnabLexU
namespace Go.Proofs.Ytedbjkjncfinnab
open Go.RowKit

/-- Numbers that can be read there. -/
def IntsIn (w : World) (v : Value) (zs : List Int) : Prop := ∃ A c, v = .slice A zs.length c ∧ zs.length ≤ 9223372036854775807 ∧ (0 < zs.length → ∃ b o, A = some ⟨b, o, none⟩ ∧ b < w.heap.size ∧ ∀ i (h : i < zs.length), w.cell? ⟨b, o + i, none⟩ = some (.int .i64 zs[i]))
theorem IntsIn.call {w w' : World} {v : Value} {zs : List Int} (h : IntsIn w v zs) (hb : Below w.heap.size w w') : IntsIn w' v zs := by
  obtain ⟨A, c, rfl, hm, h⟩ := h
  refine ⟨A, c, rfl, hm, fun h0 => ?_⟩
  obtain ⟨b, o, rfl, hl, hc⟩ := h h0
  exact ⟨b, o, rfl, Nat.lt_of_lt_of_le hl hb.size, fun j u => (hb.cell (p := ⟨b, o + j, none⟩) hl).trans (hc j u)⟩
def lowBits (z : Int) : Nat := (BitVec.ofInt 64 z &&& BitVec.ofInt 64 1023).toNat
theorem low_le (z : Int) : lowBits z ≤ 1023 := by
  unfold lowBits
  rw [BitVec.toNat_and]
  exact Nat.le_trans Nat.and_le_right (by decide)
def chose (z : Int) : Nat := lowBits z % 5
def jsOf (zs : List Int) : List Nat := zs.map chose
theorem cat_list' (s t : ByteArray) : (s ++ t).data.toList = s.data.toList ++ t.data.toList := by simp
/-- The five as the program has them. -/
def betB (rem : ByteArray) (j : Nat) : ByteArray := match j with | 0 => ⟨#[32]⟩ | 1 => ⟨#[9, 9]⟩ | 2 => ⟨#[10]⟩ | 3 => (⟨#[32, 35]⟩ ++ rem) ++ ⟨#[10]⟩ | _ => ⟨#[35, 10, 10, 32]⟩
theorem betB_list (rem : ByteArray) (j : Nat) : (betB rem j).data.toList = betw rem.data.toList j := by
  match j with
  | 0 | 1 | 2 => rfl
  | 3 =>
    show (((⟨#[32, 35]⟩ : ByteArray) ++ rem) ++ ⟨#[10]⟩).data.toList = [32, 35] ++ rem.data.toList ++ [10]
    rw [cat_list', cat_list']
  | j + 4 => rfl
theorem no10 (rem : ByteArray) (h : ∀ j, j < rem.size → (atB rem j).toNat ≠ 10) : ∀ c ∈ rem.data.toList, c.toNat ≠ 10 := by
  intro c hc
  obtain ⟨j, hj, rfl⟩ := List.getElem_of_mem hc
  have h2 := h j (by rwa [len_of] at hj)
  unfold atB at h2
  rwa [List.getD_eq_getElem?_getD, List.getElem?_eq_getElem hj] at h2
theorem bet_cell {w : World} {g : Nat} {rem : ByteArray} (h : Blk w g 9 #[.string ⟨#[32]⟩, .string ⟨#[9, 9]⟩, .string ⟨#[10]⟩, .string ((⟨#[32, 35]⟩ ++ rem) ++ ⟨#[10]⟩), .string ⟨#[35, 10, 10, 32]⟩]) (j : Nat) (hj : j < 5) : w.cell? ⟨g, j, none⟩ = some (.string (betB rem j)) := by
  rw [h.cell]
  match j, hj with
  | 0, _ | 1, _ | 2, _ | 3, _ | 4, _ => rfl
theorem gapAtL_in {rem : List UInt8} {zs : List Int} {k : Nat} (h : k < zs.length) : gapAtL rem (jsOf zs) k = betw rem (chose zs[k]) := by
  unfold gapAtL jsOf
  rw [if_pos (by simpa using h), List.getD_eq_getElem?_getD, List.getElem?_map, List.getElem?_eq_getElem h]
  rfl
theorem gapAtL_out {rem : List UInt8} {zs : List Int} {k : Nat} (h : ¬ k < zs.length) : gapAtL rem (jsOf zs) k = [32] := by
  unfold gapAtL jsOf
  rw [if_neg (by simpa using h)]
set_option maxRecDepth 100000 in
set_option maxHeartbeats 8000000 in
theorem lexBetween_any (s rem : ByteArray) (v : Value) (zs : List Int) (w : World) (hs : s.size ≤ 9223372036854775807) (hrem : rem.size ≤ 9223372036854775807) (hz : IntsIn w v zs) :
    Calls Try.prog 6 #[.string s, .string rem, v] w fun e w' => e = .returned (.bool true) ∧ Below w.heap.size w w' := by
  have HZ := Lib.hid hz
  obtain ⟨A, c, rfl, hzl, -⟩ := hz
  obtain ⟨nz, hnz⟩ : ∃ nz, zs.length = nz := ⟨_, rfl⟩
  rw [hnz] at hzl HZ
  have HNZ := Lib.hid hnz
  rw [hnz]
  clear hnz
  go_enter Try.func6, Try.ntmps6
  go_wp2_with fail
  refine (alive10_any w).mono ?_
  rintro e w1 ⟨rfl, hb1⟩
  have HB1 := Lib.hid hb1
  clear hb1
  by_cases h1 : 2000 < s.size
  · have q1 : (2000 : Int) < (s.size : Int) := by omega
    go_wp2
    go_ret
    exact ⟨rfl, HB1.out⟩
  have q1 : ¬ (2000 : Int) < (s.size : Int) := by omega
  have q1' : decide ((2000 : Int) < (s.size : Int)) = false := by simpa using q1
  by_cases h2 : 50 < rem.size
  · have q2 : (50 : Int) < (rem.size : Int) := by omega
    have q3 : decide ((50 : Int) < (rem.size : Int)) = true := by simpa using q2
    go_wp2
    go_ret
    exact ⟨rfl, HB1.out⟩
  have q2 : ¬ (50 : Int) < (rem.size : Int) := by omega
  have q2' : decide ((50 : Int) < (rem.size : Int)) = false := by simpa using q2
  by_cases h3 : 20 < nz
  · have q4 : (20 : Int) < (nz : Int) := by omega
    have q4' : decide ((20 : Int) < (nz : Int)) = true := by simpa using q4
    go_wp2
    go_ret
    exact ⟨rfl, HB1.out⟩
  have q4 : ¬ (20 : Int) < (nz : Int) := by omega
  have q4' : decide ((20 : Int) < (nz : Int)) = false := by simpa using q4
  go_wp2_with fail
  clear q1' q2' q4'
  cases hr : lexAll s.data.toList with
  | err c a b =>
    have hc := lexAll_err hr
    refine (all_err s c a b w1 hr hs).mono ?_
    rintro e w2 ⟨rfl, hb2⟩
    have HB2 := Lib.hid (below_call HB1.out hb2)
    have hq : ((c : Int) != 0) = true := by rw [bne_iff_ne]; omega
    clear hb2 hr hc
    go_wp2
    go_ret
    exact ⟨rfl, below_alloc HB2.out⟩
  | ok ts =>
    have HRR := Lib.hid hr
    have hgood := lexAll_good hr
    rw [len_of] at hgood
    obtain ⟨n, hn⟩ : ∃ n, ts.length = n := ⟨_, rfl⟩
    have HN := Lib.hid hn
    have hn5 : n ≤ 2001 := by omega
    clear hgood hn hr
    refine (all_okn s ts n w1 HRR.out HN.out hs).mono ?_
    rintro e w2 ⟨A0, c0, rfl, hts, hb2⟩
    have hbo := below_call hb2 (below_one w2 (.cells #[.int .i64 0, .int .i64 0] 27))
    have HT2 := Lib.hid (hts.call (below_one w2 (.cells #[.int .i64 0, .int .i64 0] 27)))
    have HB2 := Lib.hid (below_call HB1.out hbo)
    clear hb2 hbo hts
    go_wp2_with fail
    generalize (w2.alloc (.cells #[.int .i64 0, .int .i64 0] 27)) = W2 at *
    have HV := Lib.hid (fun k (h : k < rem.size) => atB_lt rem k h)
    go_loop [10] (fun q => ∃ k : Nat, k ≤ rem.size ∧ q = .int .i64 k ∧ ∀ j, j < k → (atB rem j).toNat ≠ 10) (fun q => rem.size - (intOf q).toNat)
    case atStart => exact ⟨0, Nat.zero_le _, rfl, fun j hj => absurd hj (by omega)⟩
    case round =>
      obtain ⟨k, hk, rfl, hall⟩ := hrel
      have HA := Lib.hid hall
      clear hall
      by_cases hlt : k < rem.size
      · have HVK := Lib.hid (HV.out k hlt)
        have z0 : (0 : Int) ≤ (k : Int) := by omega
        have z1 : (k : Int) < (rem.size : Int) := by omega
        by_cases h10 : (atB rem k).toNat = 10
        · have z2 : ((rem[k].toNat : Int) == 10) = true := by rw [HVK.out, h10]; rfl
          go_wp2
          go_ret
          exact ⟨rfl, HB2.out⟩
        · have z2 : ((rem[k].toNat : Int) == 10) = false := by rw [HVK.out, beq_eq_false_iff_ne]; omega
          have HNO := Lib.hid h10
          clear h10
          go_wp2_with fail
          go_round
          case rel => exact ⟨k + 1, hlt, by go_num, fun j hj => (Nat.lt_succ_iff_lt_or_eq.1 hj).elim (HA.out j) fun e => by subst e; exact HNO.out⟩
          case measure => simp [intOf]; omega
      · obtain rfl : k = rem.size := by omega
        have H10 := Lib.hid (no10 rem HA.out)
        clear HA hlt hk
        go_wp2_with fail
        have hk5 := Blk.new W2 9 #[.string ⟨#[32]⟩, .string ⟨#[9, 9]⟩, .string ⟨#[10]⟩, .string ((⟨#[32, 35]⟩ ++ rem) ++ ⟨#[10]⟩), .string ⟨#[35, 10, 10, 32]⟩]
        have hb5 := below_one W2 (.cells #[.string ⟨#[32]⟩, .string ⟨#[9, 9]⟩, .string ⟨#[10]⟩, .string ((⟨#[32, 35]⟩ ++ rem) ++ ⟨#[10]⟩), .string ⟨#[35, 10, 10, 32]⟩] 9)
        have HK5 := Lib.hid hk5
        have HT3 := Lib.hid (HT2.out.call hb5)
        have HB3 := Lib.hid (below_call HB2.out hb5)
        have HZ3 := Lib.hid (HZ.out.call (below_call HB2.out hb5))
        clear hk5 hb5 HT2 HB2 HZ
        generalize (W2.alloc (.cells #[.string ⟨#[32]⟩, .string ⟨#[9, 9]⟩, .string ⟨#[10]⟩, .string ((⟨#[32, 35]⟩ ++ rem) ++ ⟨#[10]⟩), .string ⟨#[35, 10, 10, 32]⟩] 9)) = W3 at *
        generalize W2.heap.size = g5 at *
        have HLEN := Lib.hid (fun k (h : k ≤ ts.length) => outL_len rem.data.toList (by rw [len_of]; omega) (jsOf zs) (by unfold jsOf; rw [List.length_map, HNZ.out]; omega) HRR.out (by rw [len_of]; omega) k h)
        go_loopw [12, 59] (fun o q wr => ∃ (k : Nat) (ob : ByteArray), k ≤ n ∧ q = .int .i64 k ∧ o = .string ob ∧ ob.data.toList = outL rem.data.toList (jsOf zs) ts k ∧ Below W3.heap.size W3 wr) (fun _ q _ => n - (intOf q).toNat)
        case atStart => exact ⟨0, ⟨#[]⟩, Nat.zero_le _, rfl, rfl, rfl, Below.refl _ _⟩
        case round =>
          obtain ⟨k, ob, hk, rfl, rfl, hob, hb⟩ := hrel
          have HBR := Lib.hid hb
          have HOB := Lib.hid hob
          clear hob
          by_cases hlt : k < n
          · have hkt : k < ts.length := by have := HN.out; omega
            have HSU := Lib.hid (outL_succ rem.data.toList (jsOf zs) ts k hkt)
            obtain ⟨-, b, rfl, l0, c0, c1, c2, c3⟩ := tks_cells (HT3.out.call hb) k hkt
            have HTX := Lib.hid (show (txtB ts[k]).data.toList = ts[k].text by simp [txtB])
            generalize txtB ts[k] = x at *
            generalize ts[k].kind = kd at *
            generalize ts[k].ln = ln at *
            generalize ts[k].co = co at *
            generalize ts[k].text = tx at *
            clear hkt
            have z0 : (0 : Int) ≤ (k : Int) := by omega
            have z1 : (k : Int) < (n : Int) := by omega
            have hbx := below_one wr (.cells #[.int .i64 kd, .string x, .int .i64 ln, .int .i64 co] 29)
            have HB6 := Lib.hid (below_call HBR.out hbx)
            have hf : ∀ (bb : ByteArray), bb.data.toList = gapAtL rem.data.toList (jsOf zs) k → ((ob ++ bb) ++ x).data.toList = outL rem.data.toList (jsOf zs) ts (k + 1) := fun bb hbb => by
              rw [HSU.out, cat_list', cat_list', HOB.out, hbb, HTX.out]
            have HF := Lib.hid hf
            clear hf hbx
            by_cases hkz : k < nz
            · have hkz' : k < zs.length := by have := HNZ.out; omega
              obtain ⟨A', c', hv, -, hx⟩ := HZ3.out.call hb
              obtain ⟨bz, oz, hA, lz, hcz⟩ := hx (by omega)
              obtain rfl : A = A' := by injection hv
              subst hA
              have cz := hcz k hkz'
              have HG := Lib.hid (gapAtL_in (rem := rem.data.toList) hkz')
              generalize zs[k] = z at *
              have hlb := low_le z
              have hbc := bet_cell (HK5.out.call hb) (chose z) (Nat.mod_lt _ (by decide))
              have l5 : g5 < wr.heap.size := lt_size hbc
              have hj5 : chose z < 5 := Nat.mod_lt _ (by decide)
              have ha : bits BinOp.and IntKind.i64 z 1023 = (lowBits z : Int) := Go.IntWalk.i64_in _ (by show _ ∧ ((lowBits z : Nat) : Int) ≤ _; omega)
              have ht : ((lowBits z : Nat) : Int).tmod 5 = (chose z : Int) := by
                rw [Int.tmod_eq_emod_of_nonneg (by omega)]
                unfold chose
                omega
              have ht2 : ((lowBits z : Nat) : Int) % 5 = (chose z : Int) := by unfold chose; omega
              have HBL := Lib.hid (show (betB rem (chose z)).data.toList = gapAtL rem.data.toList (jsOf zs) k by rw [betB_list, HG.out])
              have HFF := Lib.hid (HF.out _ HBL.out)
              generalize betB rem (chose z) = bb at *
              generalize chose z = j at *
              generalize hlw : lowBits z = lw at *
              clear hlw hcz hx hv hkz' hlb
              have z2 : (k : Int) < (nz : Int) := by omega
              have z3 : (0 : Int) ≤ (j : Int) := by omega
              have z4 : (j : Int) < 5 := by omega
              clear hb
              have hsz : ob.size + bb.size + x.size ≤ 6000 := by
                have h1 := HLEN.out (k + 1) (by have := HN.out; omega)
                rw [← HFF.out, len_of, ByteArray.size_append, ByteArray.size_append] at h1
                exact h1
              have hs1 : ob.size ≤ 6000 := by omega
              have hs2 : bb.size ≤ 6000 := by omega
              have hs3 : x.size ≤ 6000 := by omega
              have hs4 : (ob ++ bb).size ≤ 6000 := by rw [ByteArray.size_append]; omega
              go_wp2_with fail
              go_roundw
              case rel => exact ⟨k + 1, _, hlt, by go_num, rfl, HFF.out, HB6.out⟩
              case measure => simp [intOf]; omega
            · have hkz' : ¬ k < zs.length := by have := HNZ.out; omega
              have HG := Lib.hid (gapAtL_out (rem := rem.data.toList) hkz')
              have HFF := Lib.hid (HF.out ⟨#[32]⟩ HG.out.symm)
              have z2 : ¬ (k : Int) < (nz : Int) := by omega
              obtain ⟨bb, hbb⟩ : ∃ bb : ByteArray, bb = ⟨#[32]⟩ := ⟨_, rfl⟩
              rw [← hbb] at HFF
              clear hb hkz'
              have hsz : ob.size + bb.size + x.size ≤ 6000 := by
                have h1 := HLEN.out (k + 1) (by have := HN.out; omega)
                rw [← HFF.out, len_of, ByteArray.size_append, ByteArray.size_append] at h1
                exact h1
              have hs1 : ob.size ≤ 6000 := by omega
              have hs2 : bb.size ≤ 6000 := by omega
              have hs3 : x.size ≤ 6000 := by omega
              have hs4 : (ob ++ bb).size ≤ 6000 := by rw [ByteArray.size_append]; omega
              subst hbb
              clear hsz
              go_wp2_with fail
              go_roundw
              case rel => exact ⟨k + 1, _, hlt, by go_num, rfl, HFF.out, HB6.out⟩
              case measure => simp [intOf]; omega
          · obtain rfl : k = n := by omega
            have HU0 := Lib.hid (out_relex rem.data.toList H10.out (by rw [len_of]; omega) (jsOf zs) (by unfold jsOf; rw [List.length_map, HNZ.out]; omega) HRR.out (by rw [len_of]; omega))
            obtain ⟨us, hus, hal⟩ := HU0.out
            have HUN := Lib.hid ((alike_len hal).trans HN.out)
            have HAT := Lib.hid (fun i h1 h2 => alike_at hal i h1 h2)
            have HUS := Lib.hid (show lexAll ob.data.toList = .ok us by rw [HOB.out, ← HN.out]; exact hus)
            have HOS := Lib.hid (show ob.size ≤ 9223372036854775807 by
              have h1 := HLEN.out k (by have := HN.out; omega)
              rw [← HOB.out, len_of] at h1
              omega)
            have HT4 := Lib.hid (HT3.out.call hb)
            clear hus hal hb HU0
            go_wp2_with fail
            refine (all_okn ob us k wr HUS.out HUN.out HOS.out).mono ?_
            rintro e w4 ⟨A', c', rfl, hts, hb4⟩
            have hbo := below_one w4 (.cells #[.int .i64 0, .int .i64 0] 27)
            have HU5 := Lib.hid (hts.call hbo)
            have HT5 := Lib.hid (HT4.out.call (below_call hb4 hbo))
            have HB5 := Lib.hid (below_call HB3.out (below_call HBR.out (below_call hb4 hbo)))
            have hnn : ((k : Int) != (k : Int)) = false := by simp
            clear hb4 hbo hts HT4
            go_wp2_with fail
            generalize (w4.alloc (.cells #[.int .i64 0, .int .i64 0] 27)) = W5 at *
            clear hnn
            generalize hkk : k = m at *
            go_loopw [101] (fun q wr => ∃ k : Nat, k ≤ m ∧ q = .int .i64 k ∧ Below W5.heap.size W5 wr) (fun q _ => m - (intOf q).toNat)
            case atStart => exact ⟨0, Nat.zero_le _, rfl, Below.refl _ _⟩
            case round =>
              obtain ⟨i, hi, rfl, hb⟩ := hrel
              have HBI := Lib.hid hb
              by_cases hlti : i < m
              · have hkt : i < ts.length := by have := HN.out; omega
                have hku : i < us.length := by have := HUN.out; omega
                obtain ⟨-, b, rfl, l0, c0, c1, -, -⟩ := tks_cells (HT5.out.call hb) i hkt
                obtain ⟨-, b', rfl, l1, c2, c3, -, -⟩ := tks_cells (HU5.out.call hb) i hku
                obtain ⟨e1, e2⟩ := HAT.out i hku hkt
                rw [e1] at c2
                rw [show txtB us[i] = txtB ts[i] by unfold txtB; rw [e2]] at c3
                generalize txtB ts[i] = x at *
                generalize ts[i].kind = kd at *
                clear hb e1 e2 hkt hku
                have z0 : (0 : Int) ≤ (i : Int) := by omega
                have z1 : (i : Int) < (m : Int) := by omega
                have z2 : ((kd : Int) != (kd : Int)) = false := by simp
                go_wp2_with fail
                refine wp_region_later (by kernel_rfl) (by kernel_rfl) ?_
                repeat (go_big_quiet_step (fail))
                refine wpQuiet_nil ?_
                rintro _ ⟨y, rfl⟩
                have HB6 := Lib.hid (below_call HBI.out (below_later _ y))
                generalize later _ y = w6 at *
                clear c0 c1 c2 c3 l0 l1
                go_wp2_with fail
                go_roundw
                case rel => exact ⟨i + 1, hlti, by go_num, HB6.out⟩
                case measure => simp [intOf]; omega
              · obtain rfl : i = m := by omega
                go_wp2
                go_ret
                exact ⟨rfl, below_call HB5.out HBI.out⟩
end Go.Proofs.Ytedbjkjncfinnab
