/-
  Layer 15's law: one, two; Size of word.
-/
import Derived.Test.YtedbjkjncfinnaaWordB
import Derived.Test.YtedbjkjncfinnaaWordC
namespace Go.Proofs.Ytedbjkjncfinnaa
open Go.RowKit

theorem size_all : ∀ m, SizeUp m
  | 0 => fun t ht => by have := t.size_pos; omega
  | m + 1 => size_up m (size_all m)
theorem size_any (f : Ltl) (k p : Int) (A : Option Addr) (n c : Nat) (w : World) (S : Nat → Prop) (hm : f.norm.size ≤ 1000000) (hS : Bd S w) (hf : Ltl.Is w S f [.int .i64 k, .int .i64 p, .slice A n c]) :
    Calls Try.prog 19 #[.agg #[.int .i64 k, .int .i64 p, .slice A n c]] w fun e w' => e = .returned (.int .i64 f.norm.size) ∧ Below w.heap.size w w' :=
  size_all _ f.norm (Nat.le_refl _) hm f k p A n c w S hS rfl hf

theorem ltwo_any (k : Int) (P Q : Ltl) (A B : Option Addr) (n c m d : Nat) (w : World) (S : Nat → Prop) (hS : Bd S w) (hp : Ltl.Is w S P [.int .i64 P.kind, .int .i64 P.prop, .slice A n c]) (hq : Ltl.Is w S Q [.int .i64 Q.kind, .int .i64 Q.prop, .slice B m d]) :
    Calls Try.prog 22 #[.int .i64 k, .agg #[.int .i64 P.kind, .int .i64 P.prop, .slice A n c], .agg #[.int .i64 Q.kind, .int .i64 Q.prop, .slice B m d]] w (RetLtl w S (.mk k 0 [P, Q])) := by
  have HP := Lib.hid hp
  have HQ := Lib.hid hq
  have HS := Lib.hid hS
  clear hp hq hS
  go_enter Try.func22, Try.ntmps22
  go_wp2
  refine bodyPost_ret (v := .agg #[.int .i64 k, .int .i64 0, .slice (some ⟨w.heap.size + 1 + 1 + 1, 0, none⟩) 2 2]) (by simp [results, Try.results22, go_sem]) rfl ?_
  have hb3 := below_alloc (o := .cells #[.int .i64 k, .int .i64 0, .slice (some ⟨w.heap.size + 1 + 1 + 1, 0, none⟩) 2 2] 24) (below_alloc (o := .cells #[.int .i64 Q.kind, .int .i64 Q.prop, .slice B m d] 24) (below_one w (.cells #[.int .i64 P.kind, .int .i64 P.prop, .slice A n c] 24)))
  refine ⟨_, _, _, rfl, two_is k P Q A B n c m d w _ S _ HS.out HP.out HQ.out (below_alloc hb3) (by omega) ?_, below_alloc hb3⟩
  have := Blk.new ((((w.alloc (.cells #[.int .i64 P.kind, .int .i64 P.prop, .slice A n c] 24)).alloc (.cells #[.int .i64 Q.kind, .int .i64 Q.prop, .slice B m d] 24)).alloc (.cells #[.int .i64 k, .int .i64 0, .slice (some ⟨w.heap.size + 1 + 1 + 1, 0, none⟩) 2 2] 24)))
    24 #[.int .i64 P.kind, .int .i64 P.prop, .slice A n c, .int .i64 Q.kind, .int .i64 Q.prop, .slice B m d]
  simpa using this
theorem lone_any (k : Int) (P : Ltl) (A : Option Addr) (n c : Nat) (w : World) (S : Nat → Prop) (hS : Bd S w) (hp : Ltl.Is w S P [.int .i64 P.kind, .int .i64 P.prop, .slice A n c]) :
    Calls Try.prog 23 #[.int .i64 k, .agg #[.int .i64 P.kind, .int .i64 P.prop, .slice A n c]] w (RetLtl w S (.mk k 0 [P])) := by
  have HP := Lib.hid hp
  have HS := Lib.hid hS
  clear hp hS
  go_enter Try.func23, Try.ntmps23
  go_wp2
  refine bodyPost_ret (v := .agg #[.int .i64 k, .int .i64 0, .slice (some ⟨w.heap.size + 1 + 1, 0, none⟩) 1 1]) (by simp [results, Try.results23, go_sem]) rfl ?_
  have hb3 := below_alloc (o := .cells #[.int .i64 k, .int .i64 0, .slice (some ⟨w.heap.size + 1 + 1, 0, none⟩) 1 1] 24) (below_one w (.cells #[.int .i64 P.kind, .int .i64 P.prop, .slice A n c] 24))
  refine ⟨_, _, _, rfl, one_is k P A n c w _ S _ HS.out HP.out (below_alloc hb3) (by omega) ?_, below_alloc hb3⟩
  have := Blk.new (((w.alloc (.cells #[.int .i64 P.kind, .int .i64 P.prop, .slice A n c] 24)).alloc (.cells #[.int .i64 k, .int .i64 0, .slice (some ⟨w.heap.size + 1 + 1, 0, none⟩) 1 1] 24)))
    24 #[.int .i64 P.kind, .int .i64 P.prop, .slice A n c]
  simpa using this
end Go.Proofs.Ytedbjkjncfinnaa
