/-
  Layer 15, the reference: Arity, Kid, two, not.
-/
import Derived.Test.YtedbjkjncfinnaaWordB
import Derived.Test.YtedbjkjncfinnaaWordC
namespace Go.Proofs.Ytedbjkjncfinnaa
open Go.RowKit

theorem rarity_any (k : Int) (w : World) :
    Calls Try.prog 37 #[.int .i64 k] w fun e w' => e = .returned (.int .i64 (arity k)) ∧ w = w' := by
  go_enter Try.func37, Try.ntmps37
  go_wp2
  all_goals go_ret
  all_goals (refine ⟨ret_int ?_, rfl⟩)
  all_goals (simp_all [arity])

/-- Kid i is known ahead of the call. -/
theorem rkid_exact (f : Ltl) (k p : Int) (A : Option Addr) (n c i : Nat) (w : World) (S : Nat → Prop) (hf : Ltl.Is w S f [.int .i64 k, .int .i64 p, .slice A n c]) :
    ∃ D m d, Ltl.Is w S (f.kid i) [.int .i64 (f.kid i).kind, .int .i64 (f.kid i).prop, .slice D m d] ∧
      ∀ (wx : World) (j : Int), j = i → Below w.heap.size w wx → Calls Try.prog 35 #[.agg #[.int .i64 k, .int .i64 p, .slice A n c], .int .i64 j] wx fun e w' =>
        e = .returned (.agg #[.int .i64 (f.kid i).kind, .int .i64 (f.kid i).prop, .slice D m d]) ∧ Below wx.heap.size wx w' := by
  obtain ⟨hm, hf' | hf'⟩ := kid_is hf i
  · obtain ⟨hi, hk⟩ := hf'
    have hlt : ¬ i < n := by omega
    rw [hk]
    refine ⟨none, 0, 0, fls_is _ _, fun wx j hj _ => ?_⟩
    subst hj
    clear hf hk
    unfold maxLen at hm
    go_enter Try.func35, Try.ntmps35
    go_wp2
    refine bodyPost_ret (v := .agg #[.int .i64 1, .int .i64 0, .slice none 0 0]) (by simp [results, Try.results35, go_sem]) rfl ?_
    exact ⟨rfl, below_alloc (below_one _ _)⟩
  · obtain ⟨hi, b, o, D, m, d, rfl, hb0, h1, h2, h3, h4⟩ := hf'
    refine ⟨D, m, d, h4, fun wx j hj hb => ?_⟩
    subst hj
    generalize f.kid i = g at *
    have hlt := lt_size h1
    have hbx : b < wx.heap.size := Nat.lt_of_lt_of_le hlt hb.size
    have e1 := (hb.cell (p := ⟨b, o + i * 3, none⟩) hlt).trans h1
    have e2 := (hb.cell (p := ⟨b, o + i * 3 + 1, none⟩) hlt).trans h2
    have e3 := (hb.cell (p := ⟨b, o + i * 3 + 2, none⟩) hlt).trans h3
    clear hf hb0 h4 h1 h2 h3 hb hlt
    unfold maxLen at hm
    go_enter Try.func35, Try.ntmps35
    go_wp2
    refine bodyPost_ret (v := .agg #[.int .i64 g.kind, .int .i64 g.prop, .slice D m d]) (by simp [results, Try.results35, go_sem]) rfl ?_
    exact ⟨rfl, below_alloc (below_one _ _)⟩

theorem rtwo_any (k : Int) (P Q : Ltl) (A B : Option Addr) (n c m d : Nat) (w : World) (S : Nat → Prop) (hS : Bd S w) (hp : Ltl.Is w S P [.int .i64 P.kind, .int .i64 P.prop, .slice A n c]) (hq : Ltl.Is w S Q [.int .i64 Q.kind, .int .i64 Q.prop, .slice B m d]) :
    Calls Try.prog 38 #[.int .i64 k, .agg #[.int .i64 P.kind, .int .i64 P.prop, .slice A n c], .agg #[.int .i64 Q.kind, .int .i64 Q.prop, .slice B m d]] w (RetLtl w S (.mk k 0 [P, Q])) := by
  have HP := Lib.hid hp
  have HQ := Lib.hid hq
  have HS := Lib.hid hS
  clear hp hq hS
  go_enter Try.func38, Try.ntmps38
  go_wp2
  refine bodyPost_ret (v := .agg #[.int .i64 k, .int .i64 0, .slice (some ⟨w.heap.size + 1 + 1 + 1, 0, none⟩) 2 2]) (by simp [results, Try.results38, go_sem]) rfl ?_
  have hb3 := below_alloc (o := .cells #[.int .i64 k, .int .i64 0, .slice (some ⟨w.heap.size + 1 + 1 + 1, 0, none⟩) 2 2] 24) (below_alloc (o := .cells #[.int .i64 Q.kind, .int .i64 Q.prop, .slice B m d] 24) (below_one w (.cells #[.int .i64 P.kind, .int .i64 P.prop, .slice A n c] 24)))
  refine ⟨_, _, _, rfl, two_is k P Q A B n c m d w _ S _ HS.out HP.out HQ.out (below_alloc hb3) (by omega) ?_, below_alloc hb3⟩
  have := Blk.new ((((w.alloc (.cells #[.int .i64 P.kind, .int .i64 P.prop, .slice A n c] 24)).alloc (.cells #[.int .i64 Q.kind, .int .i64 Q.prop, .slice B m d] 24)).alloc (.cells #[.int .i64 k, .int .i64 0, .slice (some ⟨w.heap.size + 1 + 1 + 1, 0, none⟩) 2 2] 24)))
    24 #[.int .i64 P.kind, .int .i64 P.prop, .slice A n c, .int .i64 Q.kind, .int .i64 Q.prop, .slice B m d]
  simpa using this


theorem rnot_any (P : Ltl) (A : Option Addr) (n c : Nat) (w : World) (S : Nat → Prop) (hS : Bd S w) (hp : Ltl.Is w S P [.int .i64 P.kind, .int .i64 P.prop, .slice A n c]) :
    Calls Try.prog 39 #[.agg #[.int .i64 P.kind, .int .i64 P.prop, .slice A n c]] w (RetLtl w S (.mk 3 0 [P])) := by
  have HP := Lib.hid hp
  have HS := Lib.hid hS
  clear hp hS
  go_enter Try.func39, Try.ntmps39
  go_wp2
  refine bodyPost_ret (v := .agg #[.int .i64 3, .int .i64 0, .slice (some ⟨w.heap.size + 1 + 1, 0, none⟩) 1 1]) (by simp [results, Try.results39, go_sem]) rfl ?_
  have hb3 := below_alloc (o := .cells #[.int .i64 3, .int .i64 0, .slice (some ⟨w.heap.size + 1 + 1, 0, none⟩) 1 1] 24) (below_one w (.cells #[.int .i64 P.kind, .int .i64 P.prop, .slice A n c] 24))
  refine ⟨_, _, _, rfl, one_is 3 P A n c w _ S _ HS.out HP.out (below_alloc hb3) (by omega) ?_, below_alloc hb3⟩
  have := Blk.new (((w.alloc (.cells #[.int .i64 P.kind, .int .i64 P.prop, .slice A n c] 24)).alloc (.cells #[.int .i64 3, .int .i64 0, .slice (some ⟨w.heap.size + 1 + 1, 0, none⟩) 1 1] 24)))
    24 #[.int .i64 P.kind, .int .i64 P.prop, .slice A n c]
  simpa using this
end Go.Proofs.Ytedbjkjncfinnaa
