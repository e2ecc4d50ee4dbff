/-
  Layer 14's reference: Same, on properties as they stand.
-/
import Derived.Test.YtedbjkjncfinnaaRefA
import Derived.Test.YtedbjkjncfinnaaLater
namespace Go.Proofs.Ytedbjkjncfinnaa
open Go.RowKit

mutual
/-- Are they the same, as they stand? -/
def Ltl.same : Ltl → Ltl → Bool
  | .mk k p r, .mk k' p' r' => k == k' && p == p' && Ltl.sames r r'
def Ltl.sames : List Ltl → List Ltl → Bool
  | [], [] => true
  | f :: r, g :: s => f.same g && Ltl.sames r s
  | _, _ => false
end
mutual
theorem Ltl.same_iff : ∀ f g : Ltl, f.same g = true ↔ f = g
  | .mk k p r, .mk k' p' r' => by
    simp only [Ltl.same, Bool.and_eq_true, beq_iff_eq, Ltl.sames_iff r r', Ltl.mk.injEq, and_assoc]
theorem Ltl.sames_iff : ∀ r s : List Ltl, Ltl.sames r s = true ↔ r = s
  | [], [] => by simp [Ltl.sames]
  | f :: r, g :: s => by simp only [Ltl.sames, Bool.and_eq_true, Ltl.same_iff f g, Ltl.sames_iff r s, List.cons.injEq]
  | [], _ :: _ => by simp [Ltl.sames]
  | _ :: _, [] => by simp [Ltl.sames]
end
theorem Ltl.sames_at (r s : List Ltl) (h : r.length = s.length) : Ltl.sames r s = true ↔ ∀ i (hi : i < r.length) (hi' : i < s.length), r[i].same s[i] = true := by
  rw [Ltl.sames_iff]
  constructor
  · rintro rfl i hi hi'
    exact (Ltl.same_iff _ _).2 rfl
  · intro hx
    exact List.ext_getElem h fun i hi hi' => (Ltl.same_iff _ _).1 (hx i hi hi')

/-- plumblineref14.Same, of what is no greater than m. -/
def RSameUp (m : Nat) : Prop := ∀ (f g : Ltl), SizeOf.sizeOf f ≤ m → ∀ (k p : Int) (A : Option Addr) (n c : Nat) (k' p' : Int) (A' : Option Addr) (n' c' : Nat) (w : World) (S : Nat → Prop), Bd S w →
  Ltl.Is w S f [.int .i64 k, .int .i64 p, .slice A n c] → Ltl.Is w S g [.int .i64 k', .int .i64 p', .slice A' n' c'] →
  Calls Try.prog 15 #[.agg #[.int .i64 k, .int .i64 p, .slice A n c], .agg #[.int .i64 k', .int .i64 p', .slice A' n' c']] w fun e w' => e = .returned (.bool (f.same g)) ∧ Below w.heap.size w w'

theorem at_kid {w : World} {S : Nat → Prop} {k p : Int} {r : List Ltl} {A : Option Addr} {n c : Nat} (h : Ltl.Is w S (.mk k p r) [.int .i64 k, .int .i64 p, .slice A n c]) : n = r.length ∧ n ≤ maxLen ∧
    ∀ i (hi : i < r.length), ∃ b o B m d, A = some ⟨b, o, none⟩ ∧ b < w.heap.size ∧ w.cell? ⟨b, o + i * 3, none⟩ = some (.int .i64 r[i].kind) ∧ w.cell? ⟨b, o + i * 3 + 1, none⟩ = some (.int .i64 r[i].prop) ∧
      w.cell? ⟨b, o + i * 3 + 2, none⟩ = some (.slice B m d) ∧ Ltl.Is w S r[i] [.int .i64 r[i].kind, .int .i64 r[i].prop, .slice B m d] := by
  have hn : n = r.length := by
    obtain ⟨_, _, _, hcs, hn, _⟩ := h.form
    simp only [List.cons.injEq, Value.slice.injEq, and_true, true_and] at hcs
    omega
  refine ⟨hn, (kid_is h 0).1, fun i hi => ?_⟩
  obtain ⟨_, h1 | ⟨_, b, o, B, m, d, hA, _, h1, h2, h3, h4⟩⟩ := kid_is h i
  · omega
  · have hk : Ltl.kid (.mk k p r) i = r[i] := by simp [Ltl.kid, Ltl.kids, hi]
    rw [hk] at h1 h2 h4
    exact ⟨b, o, B, m, d, hA, lt_size h1, h1, h2, h3, h4⟩

set_option maxHeartbeats 2000000 in
theorem rsame_up (m : Nat) (ih : RSameUp m) : RSameUp (m + 1) := by
  intro f g hm k p A n c k' p' A' n' c' w S hS hf hg
  obtain ⟨r, rfl⟩ := ltl_form hf
  obtain ⟨r', rfl⟩ := ltl_form hg
  obtain ⟨hn, hmx, hk1⟩ := at_kid hf
  obtain ⟨hn', hmx', hk2⟩ := at_kid hg
  have hval : Ltl.same (.mk k p r) (.mk k' p' r') = (k == k' && p == p' && Ltl.sames r r') := by simp only [Ltl.same]
  rw [hval]
  clear hval
  have kids : ∀ i (hi : i < r.length) (hi' : i < r'.length), ∃ b o B m d b' o' B' m' d', A = some ⟨b, o, none⟩ ∧ A' = some ⟨b', o', none⟩ ∧ b < w.heap.size ∧ b' < w.heap.size ∧
      w.cell? ⟨b, o + i * 3, none⟩ = some (.int .i64 r[i].kind) ∧ w.cell? ⟨b, o + i * 3 + 1, none⟩ = some (.int .i64 r[i].prop) ∧ w.cell? ⟨b, o + i * 3 + 2, none⟩ = some (.slice B m d) ∧
      w.cell? ⟨b', o' + i * 3, none⟩ = some (.int .i64 r'[i].kind) ∧ w.cell? ⟨b', o' + i * 3 + 1, none⟩ = some (.int .i64 r'[i].prop) ∧ w.cell? ⟨b', o' + i * 3 + 2, none⟩ = some (.slice B' m' d') ∧
      ∀ wx : World, Below w.heap.size w wx → Calls Try.prog 15 #[.agg #[.int .i64 r[i].kind, .int .i64 r[i].prop, .slice B m d], .agg #[.int .i64 r'[i].kind, .int .i64 r'[i].prop, .slice B' m' d']] wx fun e w' => e = .returned (.bool (r[i].same r'[i])) ∧ Below wx.heap.size wx w' := by
    intro i hi hi'
    obtain ⟨b, o, B, m1, d, hA, hb, h1, h2, h3, h4⟩ := hk1 i hi
    obtain ⟨b', o', B', m1', d', hA', hb', h1', h2', h3', h4'⟩ := hk2 i hi'
    refine ⟨b, o, B, m1, d, b', o', B', m1', d', hA, hA', hb, hb', h1, h2, h3, h1', h2', h3', fun wx hbx => ?_⟩
    have hlt := List.sizeOf_lt_of_mem (List.getElem_mem hi)
    have hsz : SizeOf.sizeOf r[i] ≤ m := by simp at hm; omega
    exact ih _ _ hsz _ _ _ _ _ _ _ _ _ _ wx S (hS.call hbx.size) (h4.call hS hbx) (h4'.call hS hbx)
  have KIDS := Lib.hid kids
  clear kids hf hg ih hS hm hk1 hk2
  unfold maxLen at hmx hmx'
  cases hk : k != k'
  rotate_left
  · have hfin := Lib.hid (show (k == k' && p == p' && Ltl.sames r r') = false by simp at hk; simp [hk])
    clear hn hn'
    go_enter Try.func15, Try.ntmps15
    go_wp2
    go_ret
    exact ⟨ret_bool hfin.out.symm, below_alloc (below_one _ _)⟩
  cases hp : p != p'
  rotate_left
  · have hfin := Lib.hid (show (k == k' && p == p' && Ltl.sames r r') = false by simp at hp; simp [hp])
    clear hn hn'
    go_enter Try.func15, Try.ntmps15
    go_wp2
    go_ret
    exact ⟨ret_bool hfin.out.symm, below_alloc (below_one _ _)⟩
  cases hl : ((n : Int) != (n' : Int))
  rotate_left
  · have hfin := Lib.hid (show (k == k' && p == p' && Ltl.sames r r') = false by
      have : Ltl.sames r r' = false := by
        cases hq : Ltl.sames r r' with
        | false => rfl
        | true =>
          have := (Ltl.sames_iff r r').1 hq
          subst this
          simp at hl
          omega
      simp [this])
    clear hn hn'
    go_enter Try.func15, Try.ntmps15
    go_wp2
    go_ret
    exact ⟨ret_bool hfin.out.symm, below_alloc (below_one _ _)⟩
  have hlen : r.length = r'.length := by simp at hl; omega
  have HSA := Lib.hid (Ltl.sames_at r r' hlen)
  have HV := Lib.hid (show (k == k' && p == p' && Ltl.sames r r') = Ltl.sames r r' by simp at hk hp; simp [hk, hp])
  have HN := Lib.hid hn
  have HL := Lib.hid hlen
  have hnn : n ≤ r.length ∧ r.length ≤ n := by omega
  have hnn' : n' ≤ n ∧ n ≤ n' := by omega
  obtain ⟨g1, g2⟩ := hnn
  obtain ⟨g3, g4⟩ := hnn'
  obtain ⟨g5, g6⟩ : r.length ≤ r'.length ∧ r'.length ≤ r.length := by omega
  clear hlen hn hn'
  go_enter Try.func15, Try.ntmps15
  go_wp2_with fail
  obtain ⟨W, hW⟩ : ∃ W, (w.alloc (.cells #[.int .i64 k, .int .i64 p, .slice A n c] 24)).alloc (.cells #[.int .i64 k', .int .i64 p', .slice A' n' c'] 24) = W := ⟨_, rfl⟩
  have hbW : Below w.heap.size w W := by rw [← hW]; exact below_alloc (below_one _ _)
  have hzW : W.heap.size = w.heap.size + 2 := by rw [← hW]; simp
  have b2 : W.cell? ⟨w.heap.size, 2, none⟩ = some (.slice A n c) := by rw [← hW]; simp [go_sem]
  have d2 : W.cell? ⟨w.heap.size + 1, 2, none⟩ = some (.slice A' n' c') := by rw [← hW]; simp [go_sem]
  have l0 : w.heap.size < W.heap.size := by omega
  have l1 : w.heap.size + 1 < W.heap.size := by omega
  rw [hW]
  clear hW hzW
  go_wp2_with fail
  have HH := Lib.hid (And.intro hk (And.intro hp hl))
  clear hk hp hl
  go_loopw [5] (fun i wr => ∃ j : Nat, j ≤ n ∧ i = .int .i64 j ∧ (∀ i (hi : i < r.length) (hi' : i < r'.length), i < j → r[i].same r'[i] = true) ∧ Below W.heap.size W wr) (fun i _ => n - (intOf i).toNat)
  case atStart => exact ⟨0, Nat.zero_le _, rfl, fun i _ _ h => absurd h (by omega), Below.refl _ _⟩
  case round =>
    obtain ⟨j, hj, rfl, hall, hb⟩ := hrel
    have HALL := Lib.hid hall
    clear hall
    have rd := (bcell hb).1
    have l2 : w.heap.size < wr.heap.size := Nat.lt_of_lt_of_le l0 hb.size
    have l3 : w.heap.size + 1 < wr.heap.size := Nat.lt_of_lt_of_le l1 hb.size
    by_cases hlt : j < n
    · obtain ⟨b, o, B, m1, d, b', o', B', m1', d', rfl, rfl, hbb, hbb', h1, h2, h3, h1', h2', h3', hcall⟩ := KIDS.out j (by omega) (by omega)
      have hbr : Below w.heap.size w wr := hbW.trans (hb.mono hbW.size)
      have e1 := (hbr.cell (p := ⟨b, o + j * 3, none⟩) hbb).trans h1
      have e2 := (hbr.cell (p := ⟨b, o + j * 3 + 1, none⟩) hbb).trans h2
      have e3 := (hbr.cell (p := ⟨b, o + j * 3 + 2, none⟩) hbb).trans h3
      have e1' := (hbr.cell (p := ⟨b', o' + j * 3, none⟩) hbb').trans h1'
      have e2' := (hbr.cell (p := ⟨b', o' + j * 3 + 1, none⟩) hbb').trans h2'
      have e3' := (hbr.cell (p := ⟨b', o' + j * 3 + 2, none⟩) hbb').trans h3'
      have hbr1 : b < wr.heap.size := lt_size e1
      have hbr2 : b' < wr.heap.size := lt_size e1'
      have n0 : (0 : Int) ≤ (j : Int) := by omega
      have n1 : (j : Int) < (n : Int) := by omega
      have n2 : (j : Int) < (n' : Int) := by omega
      clear h1 h2 h3 h1' h2' h3' hbb hbb'
      have hj1 : j < r.length := by omega
      have hj2 : j < r'.length := by omega
      cases hsm : r[j].same r'[j]
      all_goals
        simp only [hsm] at hcall
        have HC := Lib.hid hcall
        have HM := Lib.hid hsm
        clear hcall hsm
        go_wp2_with fail
        refine wp_region_later (by kernel_rfl) (by kernel_rfl) ?_
        repeat (go_big_quiet_step ((go_at_call 15; exact later_call (HC.out _ (hbr.trans ((below_later _ _).mono hbr.size))))))
        refine wpQuiet_nil ?_
        rintro _ ⟨y, rfl⟩
        have hby := below_call hb (below_later wr y)
        generalize later wr y = w1 at *
        go_wp2
      · go_ret
        refine ⟨ret_bool ?_, hbW.trans (hby.mono hbW.size)⟩
        rw [HV.out]
        cases hq : Ltl.sames r r' with
        | false => rfl
        | true => exact absurd (HSA.out.1 hq j hj1 hj2) (by rw [HM.out]; simp)
      · go_roundw
        case rel => exact ⟨j + 1, by omega, by go_num, fun i hi hi' hij => (Nat.lt_succ_iff_lt_or_eq.1 hij).elim (HALL.out i hi hi') (fun e => by subst e; exact HM.out), hby⟩
        case measure => simp [intOf]; omega
    · obtain rfl : j = n := by omega
      go_wp2
      go_ret
      exact ⟨ret_bool (by rw [HV.out]; exact (HSA.out.2 fun i hi hi' => HALL.out i hi hi' (by omega)).symm), hbW.trans (hb.mono hbW.size)⟩

theorem rsame_all : ∀ m, RSameUp m
  | 0 => fun f _ hf => by cases f; simp at hf
  | m + 1 => rsame_up m (rsame_all m)
theorem rsame_any (f g : Ltl) (k p : Int) (A : Option Addr) (n c : Nat) (k' p' : Int) (A' : Option Addr) (n' c' : Nat) (w : World) (S : Nat → Prop) (hS : Bd S w)
    (hf : Ltl.Is w S f [.int .i64 k, .int .i64 p, .slice A n c]) (hg : Ltl.Is w S g [.int .i64 k', .int .i64 p', .slice A' n' c']) :
    Calls Try.prog 15 #[.agg #[.int .i64 k, .int .i64 p, .slice A n c], .agg #[.int .i64 k', .int .i64 p', .slice A' n' c']] w fun e w' => e = .returned (.bool (f.same g)) ∧ Below w.heap.size w w' :=
  rsame_all _ f g (Nat.le_refl _) k p A n c k' p' A' n' c' w S hS hf hg
end Go.Proofs.Ytedbjkjncfinnaa
