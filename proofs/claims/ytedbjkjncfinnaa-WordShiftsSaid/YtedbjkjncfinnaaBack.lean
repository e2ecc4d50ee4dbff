/-
  slices.Backward over bools: the iterator's contract.
-/
import Derived.Test.YtedbjkjncfinnaaRound
import Derived.Test.YtedbjkjncfinnaaWordW
namespace Go.Proofs.Ytedbjkjncfinnaa
open Go.RowKit Go.Shelf
attribute [local go_sem] Oper.semAt_some

/-- What a round keeps: the iterator's box; the row is bools still. -/
def KeepRow (B b o n : Nat) (W W' : World) : Prop :=
  W'.cell? ⟨B, 0, none⟩ = W.cell? ⟨B, 0, none⟩ ∧ ∀ j, j < n → (∃ v, W.cell? ⟨b, o + j, none⟩ = some (.bool v)) → ∃ v, W'.cell? ⟨b, o + j, none⟩ = some (.bool v)
theorem keepRow_t {B b o n : Nat} {X Y Z : World} (h : KeepRow B b o n X Y) (k : KeepRow B b o n Y Z) : KeepRow B b o n X Z :=
  ⟨k.1.trans h.1, fun j hj hv => k.2 j hj (h.2 j hj hv)⟩
theorem keepRow_of {B b o n : Nat} {X Y : World} (h1 : Y.cell? ⟨B, 0, none⟩ = X.cell? ⟨B, 0, none⟩) (h2 : ∀ j, j < n → Y.cell? ⟨b, o + j, none⟩ = X.cell? ⟨b, o + j, none⟩) : KeepRow B b o n X Y :=
  ⟨h1, fun j hj hv => by rw [h2 j hj]; exact hv⟩
theorem keepRow_below {B b o n k : Nat} {X Y : World} (h : Below k X Y) (hB : B < k) (hb : b < k) : KeepRow B b o n X Y :=
  keepRow_of (h.cell (p := ⟨B, 0, none⟩) hB) fun j _ => h.cell (p := ⟨b, o + j, none⟩) hb
theorem keepRow_b {B b o n : Nat} {w : World} (hB : B < w.heap.size) (hb : b < w.heap.size) (W : World) (l : Nat) (x y : Obj) (hl : w.heap.size ≤ l) (h : W.heap[l]? = some x) (h1 : x.isCells = false) (h2 : x.isWalk = false) : KeepRow B b o n W (W.putObj l y) :=
  keepRow_below (belowK_b (Nat.le_refl _) W l x y hl h h1 h2) hB hb

abbrev Turn (n : Nat) : Type := Fin n × Bool
def turnArgs {n : Nat} (x : Turn n) : Array Value := #[.int .i64 ((x.1.val : Nat) : Int), .bool x.2]
def Came {n : Nat} (k : Nat) (pre : List (Turn n)) : Prop := ∀ i, k ≤ i → i < n → ∃ x ∈ pre, x.1.val = i

set_option maxRecDepth 100000 in
set_option maxHeartbeats 2000000 in
theorem back_stops (d : Nat) (B b o n cap : Nat) (w : World) (hn : n ≤ 1000000000) (hB : B < w.heap.size) (hb : b < w.heap.size) (hs : w.cell? ⟨B, 0, none⟩ = some (.slice (some ⟨b, o, none⟩) n cap)) (hc : ∀ j, j < n → ∃ v, w.cell? ⟨b, o + j, none⟩ = some (.bool v)) :
    SeqStopsK Fence.wide d Try.prog 99 #[.pointer (some ⟨B, 0, none⟩)] (turnArgs (n := n)) (KeepRow B b o n) (Came 0) (fun _ => True) n w := by
  intro l J Jx W hW _ _ hY h0
  have hr : Fence.wide.round = none := rfl
  have hf : ∀ k, Fence.wide.fn k := fun _ => trivial
  have hwW : KeepRow B b o n w W := keepRow_below hW hB hb
  have hsW := hwW.1.trans hs
  refine callsIn_of_wp Try.func99 rfl trivial ?_ rfl
  simp only [Try.ntmps99, List.size_toArray, List.length_cons, List.length_nil, Nat.reduceAdd, Nat.reduceSub, Array.replicate_succ, Array.replicate_zero, List.push_toArray, List.append_toArray, List.nil_append, List.cons_append]
  gi_wp2
  gi_loopw [3] (fun i wr => ∃ (z : Int) (k : Nat) (pre : List (Turn n)), i = .int .i64 z ∧ z + 1 = k ∧ k ≤ n ∧ pre.length = n - k ∧ Came k pre ∧ J pre wr ∧ KeepRow B b o n w wr)
    (fun i _ => (intOf i + 1).toNat)
  case atStart => exact ⟨_, n, [], rfl, by omega, Nat.le_refl _, by simp, fun i h1 h2 => by omega, h0, hwW⟩
  case round =>
    obtain ⟨z, k, pre, rfl, hz, hk, hpre, hcame, hJs, hkeep⟩ := hrel
    have hsr := hkeep.1.trans hs
    rcases k with _ | k
    · obtain rfl : z = -1 := by omega
      gi_wp2
      go_end0
      exact ⟨⟨_, rfl⟩, .inl ⟨pre, hcame, hJs⟩⟩
    · obtain rfl : z = (k : Int) := by omega
      obtain ⟨v, hv⟩ := hkeep.2 k (by omega) (hc k (by omega))
      obtain ⟨fn, tmps, assign, body, hy, hR⟩ := hY pre (⟨k, by omega⟩, v) wr hJs (by omega)
      dsimp only [turnArgs] at hy
      gi_wp2
      refine ⟨fun h => (by cases h), hR.mono ?_⟩
      rintro e W3 (⟨rfl, hJ3, hk3⟩ | ⟨rfl, hJx3⟩)
      · gi_wp2
        go_roundw
        case rel =>
          refine ⟨_, k, pre ++ [(⟨k, by omega⟩, v)], rfl, by omega, by omega, by simp; omega, fun i h1 h2 => ?_, hJ3, keepRow_t hkeep hk3⟩
          by_cases h : i = k
          · exact ⟨_, List.mem_append_right _ (List.mem_singleton.2 rfl), h.symm⟩
          · obtain ⟨x, hx, hxi⟩ := hcame i (by omega) h2
            exact ⟨x, List.mem_append_left _ hx, hxi⟩
        case measure => simp [intOf]
      · gi_wp2
        refine bodyPost_ret (results_none rfl _ _ _) rfl ?_
        exact ⟨⟨_, rfl⟩, .inr ⟨_, trivial, hJx3⟩⟩
end Go.Proofs.Ytedbjkjncfinnaa
