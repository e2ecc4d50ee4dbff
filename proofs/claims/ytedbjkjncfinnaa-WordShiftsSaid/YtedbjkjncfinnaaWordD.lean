/-
  Layer 15: word.Same.
-/
import Derived.Test.YtedbjkjncfinnaaWordC
namespace Go.Proofs.Ytedbjkjncfinnaa
open Go.RowKit

/-- word.Same, of what is no greater than m. -/
def SameUp (m : Nat) : Prop := ∀ (t u : T), t.size ≤ m → ∀ (f g : Ltl) (k p : Int) (A : Option Addr) (n c : Nat) (k' p' : Int) (A' : Option Addr) (n' c' : Nat) (w : World) (S : Nat → Prop), Bd S w → f.norm = t → g.norm = u →
  Ltl.Is w S f [.int .i64 k, .int .i64 p, .slice A n c] → Ltl.Is w S g [.int .i64 k', .int .i64 p', .slice A' n' c'] →
  Calls Try.prog 17 #[.agg #[.int .i64 k, .int .i64 p, .slice A n c], .agg #[.int .i64 k', .int .i64 p', .slice A' n' c']] w fun e w' => e = .returned (.bool (t.same u)) ∧ Below w.heap.size w w'

/-- Of an atom: the kind, and the number. -/
theorem atom_of {k p : Int} {r : List Ltl} {t : T} (h : (Ltl.mk k p r).norm = t) : (k = 2 → t = .atom p) ∧ (k ≠ 2 → t.ltl.kind ≠ 2) := by
  have hk := kind_of k p r
  rw [h] at hk
  cases t <;> simp only [KindOf] at hk <;> simp [T.ltl, Ltl.kind] <;> omega

set_option maxHeartbeats 2000000 in
theorem same_up (m : Nat) (ih : SameUp m) : SameUp (m + 1) := by
  intro t u ht f g k p A n c k' p' A' n' c' w S hS hn hn' hf hg
  obtain ⟨r, rfl⟩ := ltl_form hf
  obtain ⟨r', rfl⟩ := ltl_form hg
  have ha : arity k = t.ar := by rw [ar_of k p r, hn]
  have hal := t.ar_le
  have hat := atom_of hn
  have hau := atom_of hn'
  have HKF : Hid (∀ wx, Below w.heap.size w wx → Calls Try.prog 40 #[.agg #[.int .i64 k, .int .i64 p, .slice A n c]] wx fun e w' => e = .returned (.int .i64 t.ltl.kind) ∧ Below wx.heap.size wx w') :=
    fun wx hb => by rw [← hn]; exact kind_any _ k p A n c wx S (hf.call hS hb)
  have HKG : Hid (∀ wx, Below w.heap.size w wx → Calls Try.prog 40 #[.agg #[.int .i64 k', .int .i64 p', .slice A' n' c']] wx fun e w' => e = .returned (.int .i64 u.ltl.kind) ∧ Below wx.heap.size wx w') :=
    fun wx hb => by rw [← hn']; exact kind_any _ k' p' A' n' c' wx S (hg.call hS hb)
  have kids : ∀ i, i < t.ar → i < u.ar → ∃ B m' d gk gp B' m'' d' gk' gp', ∀ wx : World, Below w.heap.size w wx →
      (∀ j : Int, j = i → Calls Try.prog 42 #[.agg #[.int .i64 k, .int .i64 p, .slice A n c], .int .i64 j] wx fun e w' => e = .returned (.agg #[.int .i64 gk, .int .i64 gp, .slice B m' d]) ∧ Below wx.heap.size wx w') ∧
      (∀ j : Int, j = i → Calls Try.prog 42 #[.agg #[.int .i64 k', .int .i64 p', .slice A' n' c'], .int .i64 j] wx fun e w' => e = .returned (.agg #[.int .i64 gk', .int .i64 gp', .slice B' m'' d']) ∧ Below wx.heap.size wx w') ∧
      Calls Try.prog 17 #[.agg #[.int .i64 gk, .int .i64 gp, .slice B m' d], .agg #[.int .i64 gk', .int .i64 gp', .slice B' m'' d']] wx fun e w' => e = .returned (.bool ((t.kidAt i).same (u.kidAt i))) ∧ Below wx.heap.size wx w' := by
    intro i hi hi'
    obtain ⟨B, m', d, h1, h2⟩ := kid_exact _ k p A n c i w S hf
    obtain ⟨B', m'', d', h1', h2'⟩ := kid_exact _ k' p' A' n' c' i w S hg
    refine ⟨B, m', d, _, _, B', m'', d', _, _, fun wx hb => ⟨fun j hj => h2 wx j hj hb, fun j hj => h2' wx j hj hb, ?_⟩⟩
    have hks := t.kid_size i hi
    exact ih (t.kidAt i) (u.kidAt i) (by omega) _ _ _ _ _ _ _ _ _ _ _ _ wx S (hS.call hb.size) (by rw [← hn]; exact kid_of _ i (by rw [hn]; exact hi)) (by rw [← hn']; exact kid_of _ i (by rw [hn']; exact hi')) (h1.call hS hb) (h1'.call hS hb)
  have KIDS := Lib.hid kids
  have HA := Lib.hid ha
  have HN := Lib.hid hn
  clear kids hf hg hn' ih hS ha ht
  by_cases hkk : t.ltl.kind = u.ltl.kind
  · by_cases hk2 : k = 2
    · subst hk2
      have ht2 := hat.1 rfl
      have hk' : k' = 2 := by
        rcases Int.decEq k' 2 with h | h
        · exact absurd (by rw [← hkk, ht2]; rfl) (hau.2 h)
        · exact h
      have hu2 := hau.1 hk'
      have hne : (t.ltl.kind != u.ltl.kind) = false := by simpa using hkk
      have HKS := Lib.hid (show t.same u = (p == p') by rw [ht2, hu2]; rfl)
      have HAR := Lib.hid (show arity 2 = 0 by decide)
      clear hat hau hn hkk ht2 hu2 hk' hal
      cases hpp : p != p'
      · go_enter Try.func17, Try.ntmps17
        go_wp2_with fail
        obtain ⟨W, hW⟩ : ∃ W, (w.alloc (.cells #[.int .i64 2, .int .i64 p, .slice A n c] 24)).alloc (.cells #[.int .i64 k', .int .i64 p', .slice A' n' c'] 24) = W := ⟨_, rfl⟩
        have hbW : Below w.heap.size w W := by rw [← hW]; exact below_alloc (below_one _ _)
        have hzW : W.heap.size = w.heap.size + 2 := by rw [← hW]; simp
        have b0 : W.cell? ⟨w.heap.size, 0, none⟩ = some (.int .i64 2) := by rw [← hW]; simp [go_sem]
        have b1 : W.cell? ⟨w.heap.size, 1, none⟩ = some (.int .i64 p) := by rw [← hW]; simp [go_sem]
        have b2 : W.cell? ⟨w.heap.size, 2, none⟩ = some (.slice A n c) := by rw [← hW]; simp [go_sem]
        have d0 : W.cell? ⟨w.heap.size + 1, 0, none⟩ = some (.int .i64 k') := by rw [← hW]; simp [go_sem]
        have d1 : W.cell? ⟨w.heap.size + 1, 1, none⟩ = some (.int .i64 p') := by rw [← hW]; simp [go_sem]
        have d2 : W.cell? ⟨w.heap.size + 1, 2, none⟩ = some (.slice A' n' c') := by rw [← hW]; simp [go_sem]
        have l0 : w.heap.size < W.heap.size := by omega
        have l1 : w.heap.size + 1 < W.heap.size := by omega
        rw [hW]
        clear hW hzW
        refine wp_region_later (by kernel_rfl) (by kernel_rfl) ?_
        repeat (go_big_quiet_step ((first | (go_at_call_of 40 (Value.slice A n c); exact later_call (HKF.out _ (hbW.trans ((below_later _ _).mono hbW.size)))) | (go_at_call_of 40 (Value.slice A' n' c'); exact later_call (HKG.out _ (hbW.trans ((below_later _ _).mono hbW.size)))))))
        refine wpQuiet_nil ?_
        rintro _ ⟨x, rfl⟩
        have hbx := below_later W x
        have m0 : (later W x).cell? ⟨w.heap.size, 0, none⟩ = some (.int .i64 2) := (cell?_later W x _ _ l0).trans b0
        generalize later W x = W1 at *
        go_wp2_with (go_at_call 41; refine (arity_any _ _).mono ?_; rintro e w' ⟨rfl, rfl⟩)
        rw [HAR.out]
        refine wp_loop_rounds 1 ?_
        rw [rounds_succ]
        go_wp2
        go_ret
        exact ⟨ret_bool (by rw [HKS.out]; simpa using hpp), hbW.trans (hbx.mono hbW.size)⟩
      · go_enter Try.func17, Try.ntmps17
        go_wp2_with fail
        obtain ⟨W, hW⟩ : ∃ W, (w.alloc (.cells #[.int .i64 2, .int .i64 p, .slice A n c] 24)).alloc (.cells #[.int .i64 k', .int .i64 p', .slice A' n' c'] 24) = W := ⟨_, rfl⟩
        have hbW : Below w.heap.size w W := by rw [← hW]; exact below_alloc (below_one _ _)
        have hzW : W.heap.size = w.heap.size + 2 := by rw [← hW]; simp
        have b0 : W.cell? ⟨w.heap.size, 0, none⟩ = some (.int .i64 2) := by rw [← hW]; simp [go_sem]
        have b1 : W.cell? ⟨w.heap.size, 1, none⟩ = some (.int .i64 p) := by rw [← hW]; simp [go_sem]
        have b2 : W.cell? ⟨w.heap.size, 2, none⟩ = some (.slice A n c) := by rw [← hW]; simp [go_sem]
        have d0 : W.cell? ⟨w.heap.size + 1, 0, none⟩ = some (.int .i64 k') := by rw [← hW]; simp [go_sem]
        have d1 : W.cell? ⟨w.heap.size + 1, 1, none⟩ = some (.int .i64 p') := by rw [← hW]; simp [go_sem]
        have d2 : W.cell? ⟨w.heap.size + 1, 2, none⟩ = some (.slice A' n' c') := by rw [← hW]; simp [go_sem]
        have l0 : w.heap.size < W.heap.size := by omega
        have l1 : w.heap.size + 1 < W.heap.size := by omega
        rw [hW]
        clear hW hzW
        refine wp_region_later (by kernel_rfl) (by kernel_rfl) ?_
        repeat (go_big_quiet_step ((first | (go_at_call_of 40 (Value.slice A n c); exact later_call (HKF.out _ (hbW.trans ((below_later _ _).mono hbW.size)))) | (go_at_call_of 40 (Value.slice A' n' c'); exact later_call (HKG.out _ (hbW.trans ((below_later _ _).mono hbW.size)))))))
        refine wpQuiet_nil ?_
        rintro _ ⟨x, rfl⟩
        go_wp2
        go_ret
        exact ⟨ret_bool (by rw [HKS.out]; simpa using hpp), hbW.trans ((below_later W x).mono hbW.size)⟩
    · have r2 : (k == 2) = false := by simpa using hk2
      have hne : (t.ltl.kind != u.ltl.kind) = false := by simpa using hkk
      have hkids := t.same_kids u hkk (by
        have h1 := hat.2 hk2
        have h2 : u.ltl.kind ≠ 2 := by rw [← hkk]; exact h1
        cases t <;> simp [T.ltl, Ltl.kind] at h1 <;> cases u <;> simp [T.ltl, Ltl.kind] at h2 <;> rfl)
      have HKS := Lib.hid hkids
      clear hkids hat hau hk2 hn hkk
      go_enter Try.func17, Try.ntmps17
      go_wp2_with fail
      obtain ⟨W, hW⟩ : ∃ W, (w.alloc (.cells #[.int .i64 k, .int .i64 p, .slice A n c] 24)).alloc (.cells #[.int .i64 k', .int .i64 p', .slice A' n' c'] 24) = W := ⟨_, rfl⟩
      have hbW : Below w.heap.size w W := by rw [← hW]; exact below_alloc (below_one _ _)
      have hzW : W.heap.size = w.heap.size + 2 := by rw [← hW]; simp
      have b0 : W.cell? ⟨w.heap.size, 0, none⟩ = some (.int .i64 k) := by rw [← hW]; simp [go_sem]
      have b1 : W.cell? ⟨w.heap.size, 1, none⟩ = some (.int .i64 p) := by rw [← hW]; simp [go_sem]
      have b2 : W.cell? ⟨w.heap.size, 2, none⟩ = some (.slice A n c) := by rw [← hW]; simp [go_sem]
      have d0 : W.cell? ⟨w.heap.size + 1, 0, none⟩ = some (.int .i64 k') := by rw [← hW]; simp [go_sem]
      have d1 : W.cell? ⟨w.heap.size + 1, 1, none⟩ = some (.int .i64 p') := by rw [← hW]; simp [go_sem]
      have d2 : W.cell? ⟨w.heap.size + 1, 2, none⟩ = some (.slice A' n' c') := by rw [← hW]; simp [go_sem]
      have l0 : w.heap.size < W.heap.size := by omega
      have l1 : w.heap.size + 1 < W.heap.size := by omega
      rw [hW]
      clear hW hzW
      refine wp_region_later (by kernel_rfl) (by kernel_rfl) ?_
      repeat (go_big_quiet_step ((first | (go_at_call_of 40 (Value.slice A n c); exact later_call (HKF.out _ (hbW.trans ((below_later _ _).mono hbW.size)))) | (go_at_call_of 40 (Value.slice A' n' c'); exact later_call (HKG.out _ (hbW.trans ((below_later _ _).mono hbW.size)))))))
      refine wpQuiet_nil ?_
      rintro _ ⟨x, rfl⟩
      have hbx := below_later W x
      have hbw := hbW.trans (hbx.mono hbW.size)
      have m0 : (later W x).cell? ⟨w.heap.size, 0, none⟩ = some (.int .i64 k) := (cell?_later W x _ _ l0).trans b0
      generalize later W x = W1 at *
      have l0' : w.heap.size < W1.heap.size := Nat.lt_of_lt_of_le l0 hbx.size
      have l1' : w.heap.size + 1 < W1.heap.size := Nat.lt_of_lt_of_le l1 hbx.size
      go_wp2_with (go_at_call 41; refine (arity_any _ _).mono ?_; rintro e w' ⟨rfl, rfl⟩)
      rw [HA.out]
      clear m0
      go_loopw [26] (fun i wr => ∃ j : Nat, j ≤ t.ar ∧ i = .int .i64 j ∧ (∀ i, i < j → (t.kidAt i).same (u.kidAt i) = true) ∧ Below W.heap.size W wr) (fun i _ => t.ar - (intOf i).toNat)
      case atStart => exact ⟨0, Nat.zero_le _, rfl, fun _ h => absurd h (by omega), hbx⟩
      case round =>
        obtain ⟨j, hj, rfl, hall, hb⟩ := hrel
        have HALL := Lib.hid hall
        clear hall
        have rd := (bcell hb).1
        have l2 : w.heap.size < wr.heap.size := Nat.lt_of_lt_of_le l0 hb.size
        have l3 : w.heap.size + 1 < wr.heap.size := Nat.lt_of_lt_of_le l1 hb.size
        by_cases hlt : j < t.ar
        · obtain ⟨B, m', d, gk, gp, B', m'', d', gk', gp', hcall⟩ := KIDS.out j hlt (by rw [← HKS.out.1]; exact hlt)
          cases hsm : (t.kidAt j).same (u.kidAt j)
          all_goals
            simp only [hsm] at hcall
            have HC := Lib.hid hcall
            have HM := Lib.hid hsm
            clear hcall hsm
            go_wp2_with fail
            refine wp_region_later (by kernel_rfl) (by kernel_rfl) ?_
            repeat (go_big_quiet_step ((first
              | (go_at_call_of 42 (Value.slice A n c); exact later_call ((HC.out _ (hbW.trans ((hb.trans ((below_later _ _).mono hb.size)).mono hbW.size))).1 _ rfl))
              | (go_at_call_of 42 (Value.slice A' n' c'); exact later_call ((HC.out _ (hbW.trans ((hb.trans ((below_later _ _).mono hb.size)).mono hbW.size))).2.1 _ rfl))
              | (go_at_call 17; exact later_call (HC.out _ (hbW.trans ((hb.trans ((below_later _ _).mono hb.size)).mono hbW.size))).2.2))))
            refine wpQuiet_nil ?_
            rintro _ ⟨y, rfl⟩
            have hby := below_call hb (below_later wr y)
            generalize later wr y = w1 at *
            go_wp2
          · go_ret
            exact ⟨ret_bool (by cases hq : t.same u with | false => rfl | true => exact absurd (HKS.out.2.1 hq j hlt) (by rw [HM.out]; simp)), hbW.trans (hby.mono hbW.size)⟩
          · go_roundw
            case rel => exact ⟨j + 1, by omega, by go_num, fun i hi => (Nat.lt_succ_iff_lt_or_eq.1 hi).elim (HALL.out i) (fun e => by rw [e]; exact HM.out), hby⟩
            case measure => simp [intOf]; omega
        · obtain rfl : j = t.ar := by omega
          go_wp2
          go_ret
          exact ⟨ret_bool (HKS.out.2.2 HALL.out).symm, hbW.trans (hb.mono hbW.size)⟩
      
  · have hne : (t.ltl.kind != u.ltl.kind) = true := by simpa using hkk
    have hs := Lib.hid (T.same_kind t u hkk)
    clear hat hau hn hkk
    go_enter Try.func17, Try.ntmps17
    go_wp2_with fail
    obtain ⟨W, hW⟩ : ∃ W, (w.alloc (.cells #[.int .i64 k, .int .i64 p, .slice A n c] 24)).alloc (.cells #[.int .i64 k', .int .i64 p', .slice A' n' c'] 24) = W := ⟨_, rfl⟩
    have hbW : Below w.heap.size w W := by rw [← hW]; exact below_alloc (below_one _ _)
    have hzW : W.heap.size = w.heap.size + 2 := by rw [← hW]; simp
    have b0 : W.cell? ⟨w.heap.size, 0, none⟩ = some (.int .i64 k) := by rw [← hW]; simp [go_sem]
    have b1 : W.cell? ⟨w.heap.size, 1, none⟩ = some (.int .i64 p) := by rw [← hW]; simp [go_sem]
    have b2 : W.cell? ⟨w.heap.size, 2, none⟩ = some (.slice A n c) := by rw [← hW]; simp [go_sem]
    have d0 : W.cell? ⟨w.heap.size + 1, 0, none⟩ = some (.int .i64 k') := by rw [← hW]; simp [go_sem]
    have d1 : W.cell? ⟨w.heap.size + 1, 1, none⟩ = some (.int .i64 p') := by rw [← hW]; simp [go_sem]
    have d2 : W.cell? ⟨w.heap.size + 1, 2, none⟩ = some (.slice A' n' c') := by rw [← hW]; simp [go_sem]
    have l0 : w.heap.size < W.heap.size := by omega
    have l1 : w.heap.size + 1 < W.heap.size := by omega
    rw [hW]
    clear hW hzW
    refine wp_region_later (by kernel_rfl) (by kernel_rfl) ?_
    repeat (go_big_quiet_step ((first | (go_at_call_of 40 (Value.slice A n c); exact later_call (HKF.out _ (hbW.trans ((below_later _ _).mono hbW.size)))) | (go_at_call_of 40 (Value.slice A' n' c'); exact later_call (HKG.out _ (hbW.trans ((below_later _ _).mono hbW.size)))))))
    refine wpQuiet_nil ?_
    rintro _ ⟨x, rfl⟩
    go_wp2
    go_ret
    exact ⟨ret_bool hs.out.symm, hbW.trans ((below_later W x).mono hbW.size)⟩

theorem same_all : ∀ m, SameUp m
  | 0 => fun t _ ht => by cases t <;> simp [T.size] at ht
  | m + 1 => same_up m (same_all m)
theorem same_any (f g : Ltl) (k p : Int) (A : Option Addr) (n c : Nat) (k' p' : Int) (A' : Option Addr) (n' c' : Nat) (w : World) (S : Nat → Prop) (hS : Bd S w)
    (hf : Ltl.Is w S f [.int .i64 k, .int .i64 p, .slice A n c]) (hg : Ltl.Is w S g [.int .i64 k', .int .i64 p', .slice A' n' c']) :
    Calls Try.prog 17 #[.agg #[.int .i64 k, .int .i64 p, .slice A n c], .agg #[.int .i64 k', .int .i64 p', .slice A' n' c']] w fun e w' => e = .returned (.bool (f.norm.same g.norm)) ∧ Below w.heap.size w w' :=
  same_all _ f.norm g.norm (Nat.le_refl _) f g k p A n c k' p' A' n' c' w S hS rfl rfl hf hg
end Go.Proofs.Ytedbjkjncfinnaa
