/-
  slices.Clone over this seat's element types.
  slices.Grow of nil over this seat's element types.
  Functions of the program as trees: what a call comes to.
-/
import Derived.Maps.AppendAt
import Derived.Test.YtlmhajfbpplpoaaGreatWAW
import Derived.Test.YtlmhajfbpplpoaaGreatWAB
import Derived.Test.YtlmhajfbpplpoaaGreatWAY
import Derived.Test.YtlmhajfbpplpoaaGreatWAS
import Derived.Lib.AppendZeros
set_option linter.unusedSectionVars false
set_option linter.unusedSimpArgs false
set_option linter.unusedVariables false
namespace Go.Proofs.YtlmhajfbpplpoaaGreat
open Go.RowKit
theorem add_block (a : Addr) (j : Nat) : (a.add j).block = a.block := by unfold Addr.add; split <;> rfl
set_option maxRecDepth 100000 in
set_option maxHeartbeats 4000000 in
theorem cloneP_any (w : World) (A : Option Addr) (n c : Nat) (us : List Value) (hn : us.length = n * 3) (hc : n ≤ c) (hA : n ≠ 0 → ∃ g o, A = some ⟨g, o, none⟩ ∧ ∀ j u, us[j]? = some u → w.cell? ⟨g, o + j, none⟩ = some u)
  (h1 : ∀ u ∈ us, u.oneCell' = true) (hby : n * 40 ≤ 140737488355328) :
  Calls Tryz.prog 151 #[.slice A n c] w fun e w' => ∃ v', e = .returned v' ∧ w'.ownsRow w.heap.size 154 3 v' n us ∧ Below w.heap.size w w' := by
 obtain ⟨i0, hi0, hz0, hz1, hz2⟩ := info_parts (show (Tryz.prog.info? 154).map (fun i => (i.zero, i.size, i.bytes)) = some (some (.agg #[.int .i64 0, .bool false, .slice none 0 0]), 3, 40) by kernel_rfl)
 have HU := Lib.hid hn
 have HA := Lib.hid hA
 have H1 := Lib.hid h1
 clear hn hA h1
 have hq : ∀ (w : World) (a : Option Addr) (n c : Nat), (binOp .eql 50 (.slice a n c) (.slice none 0 0)).run Tryz.prog w = .ok (.bool a.isNone) w := fun w a n c => Lib.run_eql_slice_nil w _ _ a n c 0 0 Tryz.underlying50
 go_enter Tryz.func151, Tryz.ntmps151
 cases A with
 | none =>
  have h0 : n = 0 := by
   rcases Nat.eq_zero_or_pos n with h | h
   ·exact h
   ·exfalso
    obtain ⟨g, o, h2, _⟩ := HA.out (Nat.ne_of_gt h)
    cases h2
  subst h0
  go_wp2
  go_ret
  have hu : us = [] := List.eq_nil_of_length_eq_zero (by rw [HU.out, Nat.zero_mul])
  rw [hu]
  exact ⟨_, rfl, World.ownsRow_nil _ _ _ _, Below.refl _ _⟩
 | some ad =>
  obtain ⟨ag, ao, asp⟩ := ad
  have hcells : ∀ j u, us[j]? = some u → ag < w.heap.size ∧ w.cell? ((⟨ag, ao, asp⟩ : Addr).add j) = some u := fun j u hj => by
   have hn0 : n ≠ 0 := by
    rintro rfl
    have hu : us = [] := List.eq_nil_of_length_eq_zero (by rw [HU.out, Nat.zero_mul])
    rw [hu] at hj
    cases hj
   obtain ⟨g, o, h2, h3⟩ := HA.out hn0
   cases h2
   have h5 := h3 j u hj
   exact ⟨heap_lt h5, by rw [add_none]; exact h5⟩
  have HC := Lib.hid hcells
  clear hcells
  go_wp2_with (at_builtin; refine wpList_append_own_at _ rfl _ _ 50 rfl w.heap.size 154 i0 (.agg #[.int .i64 0, .bool false, .slice none 0 0]) 3 40 Tryz.underlying50 hi0 hz0 hz1 hz2 rfl (by decide) _ 0 [] rfl ?c0 ⟨ag, ao, asp⟩ n c us rfl HU.out ?c1 H1.out ?c3 ?c4 ?c5 ?_)
  case c0 => exact ⟨by simp, .inr ⟨w.heap.size, 0, #[], rfl, Nat.le_refl _, heap_alloc_new _ _, Nat.le_refl _, Nat.zero_le _, by simp, by simp⟩⟩
  case c1 =>
   intro j u hj
   have := HC.out j u hj
   exact ((below_one w (.cells #[] 154)).cell (p := (⟨ag, ao, asp⟩ : Addr).add j) (by rw [add_block]; exact this.1)).trans this.2
  case c3 => unfold maxLen; omega
  case c4 => omega
  case c5 => exact (below_one w _).size
  intro v' w3 hown hgrow _ _
  try simp only [Nat.zero_add, List.nil_append] at hown
  have HO := Lib.hid hown
  have HB := Lib.hid ((below_one w (.cells #[] 154)).grown hgrow (below_one w _).size (fun k hk => by have hk : some w.heap.size = some k := hk; cases hk; exact Nat.le_refl _))
  clear hown hgrow
  go_wp2_with fail
  go_ret
  exact ⟨_, rfl, HO.out, HB.out⟩
set_option maxRecDepth 100000 in
set_option maxHeartbeats 4000000 in
theorem cloneN_any (w : World) (A : Option Addr) (n c : Nat) (us : List Value) (hn : us.length = n * 1) (hc : n ≤ c) (hA : n ≠ 0 → ∃ g o, A = some ⟨g, o, none⟩ ∧ ∀ j u, us[j]? = some u → w.cell? ⟨g, o + j, none⟩ = some u)
  (h1 : ∀ u ∈ us, u.oneCell' = true) (hby : n * 4 ≤ 140737488355328) :
  Calls Tryz.prog 240 #[.slice A n c] w fun e w' => ∃ v', e = .returned v' ∧ w'.ownsRow w.heap.size 230 1 v' n us ∧ Below w.heap.size w w' := by
 obtain ⟨i0, hi0, hz0, hz1, hz2⟩ := info_parts (show (Tryz.prog.info? 230).map (fun i => (i.zero, i.size, i.bytes)) = some (some (.int .u32 0), 1, 4) by kernel_rfl)
 have HU := Lib.hid hn
 have HA := Lib.hid hA
 have H1 := Lib.hid h1
 clear hn hA h1
 have hq : ∀ (w : World) (a : Option Addr) (n c : Nat), (binOp .eql 52 (.slice a n c) (.slice none 0 0)).run Tryz.prog w = .ok (.bool a.isNone) w := fun w a n c => Lib.run_eql_slice_nil w _ _ a n c 0 0 Tryz.underlying52
 go_enter Tryz.func240, Tryz.ntmps240
 cases A with
 | none =>
  have h0 : n = 0 := by
   rcases Nat.eq_zero_or_pos n with h | h
   ·exact h
   ·exfalso
    obtain ⟨g, o, h2, _⟩ := HA.out (Nat.ne_of_gt h)
    cases h2
  subst h0
  go_wp2
  go_ret
  have hu : us = [] := List.eq_nil_of_length_eq_zero (by rw [HU.out, Nat.zero_mul])
  rw [hu]
  exact ⟨_, rfl, World.ownsRow_nil _ _ _ _, Below.refl _ _⟩
 | some ad =>
  obtain ⟨ag, ao, asp⟩ := ad
  have hcells : ∀ j u, us[j]? = some u → ag < w.heap.size ∧ w.cell? ((⟨ag, ao, asp⟩ : Addr).add j) = some u := fun j u hj => by
   have hn0 : n ≠ 0 := by
    rintro rfl
    have hu : us = [] := List.eq_nil_of_length_eq_zero (by rw [HU.out, Nat.zero_mul])
    rw [hu] at hj
    cases hj
   obtain ⟨g, o, h2, h3⟩ := HA.out hn0
   cases h2
   have h5 := h3 j u hj
   exact ⟨heap_lt h5, by rw [add_none]; exact h5⟩
  have HC := Lib.hid hcells
  clear hcells
  go_wp2_with (at_builtin; refine wpList_append_own_at _ rfl _ _ 52 rfl w.heap.size 230 i0 (.int .u32 0) 1 4 Tryz.underlying52 hi0 hz0 hz1 hz2 rfl (by decide) _ 0 [] rfl ?c0 ⟨ag, ao, asp⟩ n c us rfl HU.out ?c1 H1.out ?c3 ?c4 ?c5 ?_)
  case c0 => exact ⟨by simp, .inr ⟨w.heap.size, 0, #[], rfl, Nat.le_refl _, heap_alloc_new _ _, Nat.le_refl _, Nat.zero_le _, by simp, by simp⟩⟩
  case c1 =>
   intro j u hj
   have := HC.out j u hj
   exact ((below_one w (.cells #[] 230)).cell (p := (⟨ag, ao, asp⟩ : Addr).add j) (by rw [add_block]; exact this.1)).trans this.2
  case c3 => unfold maxLen; omega
  case c4 => omega
  case c5 => exact (below_one w _).size
  intro v' w3 hown hgrow _ _
  try simp only [Nat.zero_add, List.nil_append] at hown
  have HO := Lib.hid hown
  have HB := Lib.hid ((below_one w (.cells #[] 230)).grown hgrow (below_one w _).size (fun k hk => by have hk : some w.heap.size = some k := hk; cases hk; exact Nat.le_refl _))
  clear hown hgrow
  go_wp2_with fail
  go_ret
  exact ⟨_, rfl, HO.out, HB.out⟩
section
variable {μ : Mu} {F : Prot} {w : World} {g : Nat}
theorem at_vals : ∀ (xs : List AV) (o : Nat), RepAt μ F w g xs o → ∃ us, RepList μ F w xs us ∧ ∀ j u, us[j]? = some u → w.cell? ⟨g, o + j, none⟩ = some u
 | [], o, _ => ⟨[], rfl, fun j u h => by simp at h⟩
 | x :: r, o, h => by
  simp only [RepAt] at h
  obtain ⟨⟨_, u, h2, h3⟩, h4⟩ := h
  obtain ⟨us, h5, h6⟩ := at_vals r (o + 1) h4
  refine ⟨u :: us, ⟨u, us, rfl, h3, h5⟩, fun j v hj => ?_⟩
  cases j with
  | zero => simp at hj; subst hj; exact h2
  | succ j =>
   have := h6 j v (by simpa using hj)
   rwa [show o + 1 + j = o + (j + 1) by omega] at this
theorem rows_vals {e : Nat} : ∀ (xs : List (List AV)) (o : Nat), RepRows μ F w g e xs o → ∃ us, RepList μ F w xs.flatten us ∧ ∀ j u, us[j]? = some u → w.cell? ⟨g, o + j, none⟩ = some u
 | [], o, _ => ⟨[], rfl, fun j u h => by simp at h⟩
 | x :: r, o, h => by
  simp only [RepRows] at h
  obtain ⟨h1, h2, h3⟩ := h
  obtain ⟨us, a1, a2⟩ := at_vals x o h2
  obtain ⟨vs, b1, b2⟩ := rows_vals r (o + e) h3
  refine ⟨us ++ vs, by rw [List.flatten_cons]; exact RepList.append a1 b1, fun j v hj => ?_⟩
  have hl : us.length = e := by rw [a1.length, h1]
  by_cases hj2 : j < us.length
  ·exact a2 j v (by rwa [List.getElem?_append_left hj2] at hj)
  ·rw [List.getElem?_append_right (by omega), hl] at hj
   have := b2 (j - e) v hj
   rwa [show o + e + (j - e) = o + j by omega] at this
end
def resClone (e B : Nat) : List AV → Option (Nat × List AV)
 | [.ls xs] => if (wideR e xs && oneL (catR xs) && noidL (catR xs) && Nat.ble (lenR xs * B) 140737488355328) = true then some (lenR xs, catR xs) else none
 | _ => none
theorem clone_good {P : Program} {f : Nat} {ety : TypeId} (e B : Nat) (h : ∀ (w : World) (A : Option Addr) (n c : Nat) (us : List Value), us.length = n * e → n ≤ c → (n ≠ 0 → ∃ g o, A = some ⟨g, o, none⟩ ∧ ∀ j u, us[j]? = some u → w.cell? ⟨g, o + j, none⟩ = some u) →
  (∀ u ∈ us, u.oneCell' = true) → n * B ≤ 140737488355328 → Calls P f #[.slice A n c] w fun e' w' => ∃ v', e' = .returned v' ∧ w'.ownsRow w.heap.size ety e v' n us ∧ Below w.heap.size w w') : GoodD (SemFn P f) (ownD e (resClone e B)) := by
 refine goodD_own (semFn_mono P f) e _ fun args n cells hr => ?_
 unfold resClone at hr
 split at hr
 ·rename_i xs
  split at hr
  ·rename_i hc
   simp only [Bool.and_eq_true, Nat.ble_eq] at hc
   obtain ⟨⟨⟨c1, c2⟩, c3⟩, c4⟩ := hc
   rw [wideR_eq] at c1
   rw [catR_eq] at c2 c3
   rw [lenR_eq] at c4
   simp only [Option.some.injEq, Prod.mk.injEq] at hr
   obtain ⟨rfl, rfl⟩ := hr
   rw [lenR_eq, catR_eq]
   have hlen : xs.flatten.length = xs.length * e := by
    clear c2 c3 c4
    induction xs with
    | nil => simp
    | cons x r ih =>
     rw [List.all_cons, Bool.and_eq_true] at c1
     rw [List.flatten_cons, List.length_append, ih c1.2, List.length_cons, Nat.add_mul, Nat.one_mul]
     have : x.length = e := by simpa using c1.1
     omega
   refine ⟨c3, hlen, fun μ F w us hF hus => ?_⟩
   obtain ⟨v, t, rfl, hv, ht⟩ := hus
   have ht : t = [] := ht
   subst ht
   unfold Rep at hv
   obtain ⟨_, A, c, rfl, h2, _, h4⟩ := hv
   have key : ∃ vs, RepList μ F w xs.flatten vs ∧ (xs.length ≠ 0 → ∃ g o, A = some ⟨g, o, none⟩ ∧ ∀ j u, vs[j]? = some u → w.cell? ⟨g, o + j, none⟩ = some u) := by
    by_cases hx : xs = []
    ·subst hx
     exact ⟨[], rfl, fun h => absurd rfl h⟩
    ·obtain ⟨g, o, e', hA, hr⟩ := h4 hx
     obtain ⟨vs, k1, k2⟩ := rows_vals xs o hr
     exact ⟨vs, k1, fun _ => ⟨g, o, hA, k2⟩⟩
   obtain ⟨vs, k1, k2⟩ := key
   have hone : ∀ u ∈ vs, u.oneCell' = true := fun u hu => by
    obtain ⟨j, hj, rfl⟩ := List.getElem_of_mem hu
    have hj2 : j < xs.flatten.length := by rw [← k1.length]; exact hj
    obtain ⟨u, a1, a2⟩ := k1.get (List.getElem?_eq_getElem hj2)
    rw [List.getElem?_eq_getElem hj] at a1
    cases a1
    rw [oneL_eq] at c2
    exact a2.one (List.all_eq_true.1 c2 _ (List.getElem_mem hj2))
   refine Calls.mono (h w A xs.length c vs (by rw [k1.length, hlen]) h2 k2 hone c4) ?_
   rintro e' w' ⟨v', rfl, ho, hb⟩
   exact ⟨v', rfl, ety, vs, ho, hb, k1⟩
  ·cases hr
 ·cases hr
theorem clone_nat : GoodD (SemFn Tryz.prog 240) (ownD 1 (resClone 1 4)) := clone_good 1 4 fun w A n c us h1 h2 h3 h4 h5 => cloneN_any w A n c us h1 h2 h3 h4 h5
theorem clone_part : GoodD (SemFn Tryz.prog 151) (ownD 3 (resClone 3 40)) := clone_good 3 40 fun w A n c us h1 h2 h3 h4 h5 => cloneP_any w A n c us h1 h2 h3 h4 h5
end Go.Proofs.YtlmhajfbpplpoaaGreat
namespace Go.Proofs.YtlmhajfbpplpoaaGreat
open Go.RowKit
set_option maxRecDepth 100000 in
set_option maxHeartbeats 4000000 in
theorem growP_any (w : World) (n : Nat) (hby : n * 40 ≤ 140737488355328) :
  Calls Tryz.prog 263 #[.slice none 0 0, .int .i64 n] w fun e w' => ∃ v', e = .returned v' ∧ w'.ownsRow w.heap.size 154 3 v' 0 [] ∧ Below w.heap.size w w' := by
 have y0 : ¬ (n : Int) < 0 := by omega
 go_enter Tryz.func263, Tryz.ntmps263
 by_cases h0 : n = 0
 ·subst h0
  go_wp2
  go_ret
  exact ⟨_, rfl, World.ownsRow_nil _ _ _ _, Below.refl _ _⟩
 ·have y1 : (0 : Int) < (n : Int) := by omega
  obtain ⟨i0, hi0, hz0, hz1, hz2⟩ := info_parts (show (Tryz.prog.info? 154).map (fun i => (i.zero, i.size, i.bytes)) = some (some (.agg #[.int .i64 0, .bool false, .slice none 0 0]), 3, 40) by kernel_rfl)
  have hr := fun ty => Lib.run_append_nil_zeros (P := Tryz.prog) w 50 3 ty 154 i0 _ .i64 .i64 Tryz.underlying50 Tryz.underlying3 hi0 hz0 n (by omega) (by rw [hz1]; decide) (by omega) (by rw [hz2]; omega)
  have c1 := grownCap_ge w n 0 154
  have c2 := grownCap_le_maxLen w n 0 154 (by unfold maxLen; omega)
  have HR := Lib.hid hr
  clear hr
  generalize grownCap w n 0 154 = cap at *
  go_wp2_with (at_builtin; refine Lib.wpList_append_run _ rfl _ _ _ _ rfl _ _ rfl rfl _ _ (HR.out _) ?_)
  go_wp2_with fail
  go_ret
  refine ⟨_, rfl, ⟨by simp, .inr ⟨w.heap.size, cap, _, rfl, Nat.le_refl _, heap_alloc_new _ _, Nat.zero_le _, c2, ?_, by simp⟩⟩, ?_⟩
  ·rw [Array.size_append, size_zeroCells, size_zeroCells]
   show n * 3 + (cap - n) * 3 = cap * 3
   omega
  ·exact (below_drew (Below.refl _ _)).alloc (Nat.le_refl _) _
def resGrow (B : Nat) : List AV → Option (Nat × List AV)
 | [.v (.slice none 0 0), .v (.int .i64 (.ofNat n))] => if Nat.ble (n * B) 140737488355328 = true then some (0, []) else none
 | _ => none
theorem grow_part : GoodD (SemFn Tryz.prog 263) (ownD 3 (resGrow 40)) := by
 refine goodD_own (semFn_mono _ _) 3 _ fun args n cells hr => ?_
 unfold resGrow at hr
 split at hr
 ·rename_i k
  split at hr
  ·rename_i hk
   simp only [Option.some.injEq, Prod.mk.injEq] at hr
   obtain ⟨rfl, rfl⟩ := hr
   refine ⟨rfl, rfl, fun μ F w us hF hus => ?_⟩
   obtain ⟨u, t, rfl, hu, u2, t2, rfl, hu2, ht⟩ := hus
   have ht : t2 = [] := ht
   subst ht
   unfold Rep at hu hu2
   rw [hu.1, hu2.1]
   refine Calls.mono (growP_any w k (Nat.le_of_ble_eq_true hk)) ?_
   rintro e' w' ⟨v', rfl, ho, hb⟩
   exact ⟨v', rfl, _, [], ho, hb, rfl⟩
  ·cases hr
 ·cases hr
end Go.Proofs.YtlmhajfbpplpoaaGreat
namespace Go.Proofs.YtlmhajfbpplpoaaGreat
open Go.RowKit
def ownAl : List (Nat × Nat) := [(152, 0), (206, 0), (242, 0), (243, 0), (260, 0), (273, 0), (156, 0), (208, 0), (263, 0)]
def hsAl44 : Hints := [⟨61, [false, true, false, false, true, false, true, false, false, false, false, false, false, false, false, true, true, true], [], [], [(0, ([false, false, false, false, true, true], ([], []))), (1, ([false, false, false, false, true, false, true], ([], [])))]⟩]
noncomputable def mfAl44 : MFn := mfD Tryz.prog entsC hsAl44 false false 44
def hsAl23 : Hints := []
noncomputable def mfAl23 : MFn := mfD Tryz.prog entsC hsAl23 false false 23
def hsAl59 : Hints := []
noncomputable def mfAl59 : MFn := mfD Tryz.prog entsC hsAl59 false false 59
def hsAl107 : Hints := [⟨19, [true, true, false, false, false, false, false, true, true], [], [], [(0, ([false, false, false, false, true], ([], []))), (1, ([], ([], [])))]⟩]
noncomputable def mfAl107 : MFn := mfD Tryz.prog entsC hsAl107 false false 107
def hsAl60 : Hints := []
noncomputable def mfAl60 : MFn := mfD Tryz.prog entsC hsAl60 false false 60
def hsAl61 : Hints := []
noncomputable def mfAl61 : MFn := mfD Tryz.prog entsC hsAl61 false false 61
def hsAl84 : Hints := []
noncomputable def mfAl84 : MFn := mfD Tryz.prog entsC hsAl84 false false 84
def hsAl146 : Hints := []
noncomputable def mfAl146 : MFn := mfD Tryz.prog entsC hsAl146 false false 146
def hsAl200 : Hints := []
noncomputable def mfAl200 : MFn := mfD Tryz.prog entsC hsAl200 false false 200
def hsAl204 : Hints := [⟨21, [true, false, false, true], [], [], [(1, ([true, false, false, true], ([], [])))]⟩]
noncomputable def mfAl204 : MFn := mfD Tryz.prog entsC hsAl204 false false 204
def hsAl145 : Hints := []
noncomputable def mfAl145 : MFn := mfD Tryz.prog entsC hsAl145 false false 145
def hsAl85 : Hints := []
noncomputable def mfAl85 : MFn := mfD Tryz.prog entsC hsAl85 false false 85
def hsAl147 : Hints := []
noncomputable def mfAl147 : MFn := mfD Tryz.prog entsC hsAl147 false false 147
def hsAl201 : Hints := []
noncomputable def mfAl201 : MFn := mfD Tryz.prog entsC hsAl201 false false 201
def hsAl241 : Hints := []
noncomputable def mfAl241 : MFn := mfD Tryz.prog entsC hsAl241 false false 241
def hsAl148 : Hints := [⟨49, [true, false, false, false, true, true, true, false, false, false, false, false, false, false, false, false, false, false, true, true], [], [], [(0, ([false, false, true, true], ([], []))), (2, ([false, false, false, false, true, true, true], ([], [])))]⟩]
noncomputable def mfAl148 : MFn := mfD Tryz.prog entsC hsAl148 false false 148
def hsAl202 : Hints := []
noncomputable def mfAl202 : MFn := mfD Tryz.prog entsC hsAl202 false false 202
def hsAl203 : Hints := [⟨47, [false, true, false, false, false, false, false, true, true, false, false, false, false, false, false, false, false, false, true, true, true], [], [], [(1, ([false, false, false, false, false, false, false, true, true], ([], [])))]⟩]
noncomputable def mfAl203 : MFn := mfD Tryz.prog entsC hsAl203 false false 203
def hsAl86 : Hints := []
noncomputable def mfAl86 : MFn := mfD Tryz.prog entsC hsAl86 false false 86
def hsAl87 : Hints := []
noncomputable def mfAl87 : MFn := mfD Tryz.prog entsC hsAl87 false false 87
def hsAl149 : Hints := [⟨61, [false, true, false, false, false, true, true, false, false, false, false, false, false, false, false, false, false, false, false, false, false, false, false, false, false, true, true, true], [], [], [(1, ([false, false, false, false, false, true, true], ([], [])))]⟩]
noncomputable def mfAl149 : MFn := mfD Tryz.prog entsC hsAl149 false false 149
def hsAl150 : Hints := [⟨59, [false, true, false, false, false, false, true, true, false, false, false, false, false, false, false, false, false, false, false, false, false, false, false, true, true, true], [], [], [(1, ([false, false, false, false, false, false, true], ([], [])))]⟩]
noncomputable def mfAl150 : MFn := mfD Tryz.prog entsC hsAl150 false false 150
def hsAl205 : Hints := [⟨49, [true, true, false, false, false, true], [], [], [(0, ([false, false, false, false, true], ([], []))), (2, ([], ([], [])))]⟩]
noncomputable def mfAl205 : MFn := mfD Tryz.prog entsC hsAl205 false false 205
def hsAl88 : Hints := [⟨19, [true, true, false, false, false, false, false, true, true], [], [], [(0, ([false, false, false, false, true], ([], []))), (1, ([], ([], [])))]⟩]
noncomputable def mfAl88 : MFn := mfD Tryz.prog entsC hsAl88 false false 88
def hsAl89 : Hints := [⟨74, [false, false, true, false, true, false, false, false, false, false, false, false, false, false, false, false, false, true, true, true], [], [], [(1, ([false, false, true, false, true], ([], [])))]⟩]
noncomputable def mfAl89 : MFn := mfD Tryz.prog entsC hsAl89 false false 89
def hsAl152 : Hints := []
noncomputable def mfAl152 : MFn := mfD Tryz.prog entsC hsAl152 false false 152
def hsAl206 : Hints := [⟨63, [true, true, true, false, false, false, true, true, true], [], [], [(1, ([true, true, true, false, false, false, true, true], ([], [1000000])))]⟩, ⟨63, [true, true, true, false, false, false, true], [], [], [(3, ([], ([], [1000000])))]⟩, ⟨63, [true, true, true, false, false, false, true, true, true], [], [], [(5, ([true, true, true, false, false, false, true, true], ([], [1000000])))]⟩]
noncomputable def mfAl206 : MFn := mfD Tryz.prog entsC hsAl206 false false 206
def hsAl242 : Hints := [⟨53, [true, true, true, true, false, false, false, false, true], [], [], [(1, ([], ([], [1000000])))]⟩, ⟨53, [true, true, true, true, false, false, false, false, true, true], [], [], [(3, ([true, true, true, true, false, false, false, false, true], ([], [1000000])))]⟩]
noncomputable def mfAl242 : MFn := mfD Tryz.prog entsC hsAl242 false false 242
def hsAl243 : Hints := [⟨220, [true, true, false, false, true, false, false, false, false, false, true, true], [], [], [(1, ([true, true, false, false, false, false, false, false, false, false, true], ([], [1000000])))]⟩, ⟨220, [true, false, false, false, false, false, false, false, false, false, true, false, false, true], [], [], [(3, ([], ([], [1000000])))]⟩, ⟨220, [true, false, true, false, true, false, false, false, false, false, false, false, false, false, true, true], [], [], [(5, ([true, false, true, false, false, false, false, false, false, false, false, false, false, false, true], ([], [1000000])))]⟩, ⟨220, [true, false, false, false, false, false, false, false, false, false, false, false, false, false, true, false, false, true], [], [], [(7, ([], ([], [1000000])))]⟩, ⟨220, [true, true, true, true, true, false, false, false, false, false, false, false, false, false, false, false, false, false, true, true, true, true, true], [], [], [(9, ([true, true, true, true, true, false, false, false, false, false, false, false, false, false, false, false, false, false, true, true, true], ([], [1000000])))]⟩]
noncomputable def mfAl243 : MFn := mfD Tryz.prog entsC hsAl243 false false 243
def hsAl260 : Hints := [⟨58, [true, false, true, false, true, false, false, false, false, false, true, true], [], [], [(1, ([true, false, true, false, true, false, false, false, false, false, true], ([], [1000000])))]⟩]
noncomputable def mfAl260 : MFn := mfD Tryz.prog entsC hsAl260 false false 260
def hsAl273 : Hints := [⟨38, [true, true, true, true, false, false, false, false, false, false, true], [], [], [(1, ([], ([], [1000000])))]⟩]
noncomputable def mfAl273 : MFn := mfD Tryz.prog entsC hsAl273 false false 273
def hsAl153 : Hints := []
noncomputable def mfAl153 : MFn := mfD Tryz.prog entsC hsAl153 false false 153
def hsAl154 : Hints := []
noncomputable def mfAl154 : MFn := mfD Tryz.prog entsC hsAl154 false false 154
def hsAl207 : Hints := []
noncomputable def mfAl207 : MFn := mfD Tryz.prog entsC hsAl207 false false 207
def hsAl155 : Hints := []
noncomputable def mfAl155 : MFn := mfD Tryz.prog entsC hsAl155 false false 155
def hsAl156 : Hints := [⟨42, [true, true, false, false, false, true, true], [], [], [(1, ([true, false, false, false, false, true], ([], [1000000])))]⟩]
noncomputable def mfAl156 : MFn := mfD Tryz.prog entsC hsAl156 true false 156
def hsAl208 : Hints := [⟨19, [true, true, false, false, false, false, false, true, true], [], [], [(0, ([false, false, false, false, true], ([], [1000000]))), (1, ([], ([], [1000000])))]⟩]
noncomputable def mfAl208 : MFn := mfD Tryz.prog entsC hsAl208 false false 208
def hsAl157 : Hints := []
noncomputable def mfAl157 : MFn := mfD Tryz.prog entsC hsAl157 false false 157
def hsAl158 : Hints := []
noncomputable def mfAl158 : MFn := mfD Tryz.prog entsC hsAl158 false false 158
def hsAl209 : Hints := []
noncomputable def mfAl209 : MFn := mfD Tryz.prog entsC hsAl209 false false 209
def hsAl27 : Hints := []
noncomputable def mfAl27 : MFn := mfD Tryz.prog entsC hsAl27 false false 27
def hsAl24 : Hints := []
noncomputable def mfAl24 : MFn := mfD Tryz.prog entsC hsAl24 false false 24
def hsAl62 : Hints := [⟨59, [false, true, true, false, false, false, false, false, false, false, false, false, false, false, false, false, false, false, false, false, false, false, false, false, false, false, false, false, false, false, false, false, false, false, false, true, true, true], [], [], [(0, ([false, false, false, false, true], ([], []))), (1, ([], ([], [])))]⟩]
noncomputable def mfAl62 : MFn := mfD Tryz.prog entsC hsAl62 false false 62
def hsAl46 : Hints := []
noncomputable def mfAl46 : MFn := mfD Tryz.prog entsC hsAl46 false false 46
def hsAl45 : Hints := []
noncomputable def mfAl45 : MFn := mfD Tryz.prog entsC hsAl45 false false 45
def hsAl110 : Hints := []
noncomputable def mfAl110 : MFn := mfD Tryz.prog entsC hsAl110 false false 110
def hsAl111 : Hints := []
noncomputable def mfAl111 : MFn := mfD Tryz.prog entsC hsAl111 false false 111
def hsAl64 : Hints := []
noncomputable def mfAl64 : MFn := mfD Tryz.prog entsC hsAl64 false false 64
def hsAl65 : Hints := [⟨82, [false, true, true, false, true, false, false, false, false, false, true, false, false, false, false, false, false, false, false, false, false, false, false, false, false, false, false, false, false, false, false, false, false, false, false, false, false, false, false, false, false, false, true, true, true], [], [], [(0, ([false, false, false, false, true, true], ([], []))), (1, ([false, false, true, false, true, false, false, false, false, false, true], ([], [])))]⟩]
noncomputable def mfAl65 : MFn := mfD Tryz.prog entsC hsAl65 false false 65
def hsAl112 : Hints := []
noncomputable def mfAl112 : MFn := mfD Tryz.prog entsC hsAl112 false false 112
def hsAl170 : Hints := []
noncomputable def mfAl170 : MFn := mfD Tryz.prog entsC hsAl170 false false 170
def hsAl173 : Hints := []
noncomputable def mfAl173 : MFn := mfD Tryz.prog entsC hsAl173 false false 173
def hsAl224 : Hints := []
noncomputable def mfAl224 : MFn := mfD Tryz.prog entsC hsAl224 false false 224
def hsAl251 : Hints := [⟨35, [false, false, false, true, true, true, false, false, false, false, false, false, false, false, true, true, true], [], [], [(1, ([false, false, false, false, true, true], ([], [])))]⟩]
noncomputable def mfAl251 : MFn := mfD Tryz.prog entsC hsAl251 false false 251
def hsAl264 : Hints := []
noncomputable def mfAl264 : MFn := mfD Tryz.prog entsC hsAl264 false false 264
def hsAl275 : Hints := []
noncomputable def mfAl275 : MFn := mfD Tryz.prog entsC hsAl275 false false 275
def hsAl282 : Hints := [⟨68, [false, true, false, false, false, true, false, false, false, false, false, false, false, false, false, false, false, false, true, true, true], [], [], [(1, ([false, false, false, false, false, true], ([], [])))]⟩, ⟨68, [false, true, false, false, false, true, true, true, true, false, false, false, false, false, false, false, false, false, true, true, true, false, false, false, false, true, true, true], [], [], [(3, ([false, true, false, false, false, true, true, false, true, false, false, false, false, false, false, false, false, false, true, true, true], ([], [])))]⟩]
noncomputable def mfAl282 : MFn := mfD Tryz.prog entsC hsAl282 false false 282
def hsAl283 : Hints := []
noncomputable def mfAl283 : MFn := mfD Tryz.prog entsC hsAl283 false false 283
def hsAl288 : Hints := []
noncomputable def mfAl288 : MFn := mfD Tryz.prog entsC hsAl288 false false 288
def hsAl289 : Hints := []
noncomputable def mfAl289 : MFn := mfD Tryz.prog entsC hsAl289 false false 289
def hsAl223 : Hints := []
noncomputable def mfAl223 : MFn := mfD Tryz.prog entsC hsAl223 false false 223
def hsAl250 : Hints := [⟨36, [true, false, false, true, false, false, false, false, false, true, true, true], [], [], [(1, ([true, false, false, true], ([], [])))]⟩, ⟨36, [false, false, false, false, false, false, true, false, false, false, false, false, false, false, false, false, false, false, false, false, false, false, false, false, false, true, true, true], [], [], [(3, ([false, false, false, false, false, false, true], ([], [])))]⟩]
noncomputable def mfAl250 : MFn := mfD Tryz.prog entsC hsAl250 false false 250
def hsAl172 : Hints := []
noncomputable def mfAl172 : MFn := mfD Tryz.prog entsC hsAl172 false false 172
def hsAl171 : Hints := []
noncomputable def mfAl171 : MFn := mfD Tryz.prog entsC hsAl171 false false 171
def hsAl222 : Hints := []
noncomputable def mfAl222 : MFn := mfD Tryz.prog entsC hsAl222 false false 222
def hsAl113 : Hints := []
noncomputable def mfAl113 : MFn := mfD Tryz.prog entsC hsAl113 false false 113
def hsAl175 : Hints := []
noncomputable def mfAl175 : MFn := mfD Tryz.prog entsC hsAl175 false false 175
def hsAl225 : Hints := []
noncomputable def mfAl225 : MFn := mfD Tryz.prog entsC hsAl225 false false 225
def hsAl176 : Hints := [⟨19, [false, false, false, true, false, false, true, true, true], [], [], [(1, ([false, false, false, true], ([], [])))]⟩]
noncomputable def mfAl176 : MFn := mfD Tryz.prog entsC hsAl176 false false 176
def hsAl174 : Hints := []
noncomputable def mfAl174 : MFn := mfD Tryz.prog entsC hsAl174 false false 174
def hsAl114 : Hints := []
noncomputable def mfAl114 : MFn := mfD Tryz.prog entsC hsAl114 false false 114
def hsAl115 : Hints := []
noncomputable def mfAl115 : MFn := mfD Tryz.prog entsC hsAl115 false false 115
def hsAl25 : Hints := []
noncomputable def mfAl25 : MFn := mfD Tryz.prog entsC hsAl25 false false 25
def hsAl63 : Hints := [⟨64, [false, true, false, true, false, false, false, false, true, true, true], [], [], [(1, ([false, true, false, true], ([], [])))]⟩]
noncomputable def mfAl63 : MFn := mfD Tryz.prog entsC hsAl63 false false 63
def hsAl47 : Hints := []
noncomputable def mfAl47 : MFn := mfD Tryz.prog entsC hsAl47 false false 47
def hsAl90 : Hints := []
noncomputable def mfAl90 : MFn := mfD Tryz.prog entsC hsAl90 false false 90
noncomputable def tabAl : List (Nat × MFn) := [(44, mfAl44), (23, mfAl23), (59, mfAl59), (107, mfAl107), (60, mfAl60), (61, mfAl61), (84, mfAl84), (146, mfAl146), (200, mfAl200), (204, mfAl204), (145, mfAl145), (85, mfAl85), (147, mfAl147), (201, mfAl201), (241, mfAl241), (148, mfAl148), (202, mfAl202), (203, mfAl203), (86, mfAl86), (87, mfAl87), (149, mfAl149), (150, mfAl150), (205, mfAl205), (88, mfAl88), (89, mfAl89), (152, mfAl152), (206, mfAl206), (242, mfAl242), (243, mfAl243), (260, mfAl260), (273, mfAl273), (153, mfAl153), (154, mfAl154), (207, mfAl207), (155, mfAl155), (156, mfAl156), (208, mfAl208), (157, mfAl157), (158, mfAl158), (209, mfAl209), (27, mfAl27), (24, mfAl24), (62, mfAl62), (46, mfAl46), (45, mfAl45), (110, mfAl110), (111, mfAl111), (64, mfAl64), (65, mfAl65), (112, mfAl112), (170, mfAl170), (173, mfAl173), (224, mfAl224), (251, mfAl251), (264, mfAl264), (275, mfAl275), (282, mfAl282), (283, mfAl283), (288, mfAl288), (289, mfAl289), (223, mfAl223), (250, mfAl250), (172, mfAl172), (171, mfAl171), (222, mfAl222), (113, mfAl113), (175, mfAl175), (225, mfAl225), (176, mfAl176), (174, mfAl174), (114, mfAl114), (115, mfAl115), (25, mfAl25), (63, mfAl63), (47, mfAl47), (90, mfAl90)]
end Go.Proofs.YtlmhajfbpplpoaaGreat
