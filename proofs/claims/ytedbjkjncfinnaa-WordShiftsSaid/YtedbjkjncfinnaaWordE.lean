/-
  Layer 15: each (a truth at each place).
-/
import Derived.Test.YtedbjkjncfinnaaWordW
import Derived.Maps.AppendAt
namespace Go.Proofs.Ytedbjkjncfinnaa
open Go.RowKit

theorem bool_info : (Try.prog.info? 4).map (fun i => (i.zero, i.size, i.bytes)) = some (some (.bool false), 1, 1) := by kernel_rfl

set_option maxHeartbeats 2000000 in
set_option maxRecDepth 100000 in
theorem each_any (x : Wd) (A B : Option Addr) (c d : Nat) (g : FuncId) (cap : Array Value) (w : World) (F : Nat → Bool) (hx : x.size ≤ 1000000000) (hg : Enters Try.prog g)
    (hcl : ∀ wx, Below w.heap.size w wx → ∀ i : Nat, i < x.size → Calls Try.prog g (#[.int .i64 i] ++ cap) wx fun e w' => e = .returned (.bool (F i)) ∧ Below wx.heap.size wx w') :
    Calls Try.prog 55 #[.agg #[.slice A x.stem.length c, .slice B x.cycle.length d], .func (.func g) #[] cap] w fun e w' =>
      ∃ v, e = .returned v ∧ w'.ownsRow w.heap.size 4 1 v x.size ((List.range x.size).map fun i => .bool (F i)) ∧ Below w.heap.size w w' := by
  obtain ⟨i0, hi0, hz0, hz1, hz2⟩ := info_parts bool_info
  have HCL := Lib.hid hcl
  have HG := Lib.hid hg
  unfold Wd.size at *
  generalize x.stem.length = n at *
  generalize x.cycle.length = m at *
  clear hcl hg
  go_enter Try.func55, Try.ntmps55
  go_wp2_with (go_at_call 66; refine (wsize_any _ _ _ _ _ _ _ ?_).mono ?_; (omega); rintro e w1 ⟨rfl, hb1⟩)
  have hb0 := below_one w (.cells #[.slice A n c, .slice B m d] 27)
  generalize (w.alloc (.cells #[.slice A n c, .slice B m d] 27)) = W0 at *
  have hbw := hb0.trans (hb1.mono hb0.size)
  have hw1 : w.heap.size ≤ w1.heap.size := hbw.size
  clear hb0 hb1
  go_loopw [5, 9] (fun v i wr => ∃ j : Nat, j ≤ n + m ∧ i = .int .i64 j ∧ wr.ownsRow w1.heap.size 4 1 v j ((List.range j).map fun i => .bool (F i)) ∧ Below w1.heap.size w1 wr) (fun _ i _ => n + m - (intOf i).toNat)
  case atStart => exact ⟨0, Nat.zero_le _, rfl, World.ownsRow_nil _ _ _ _, Below.refl _ _⟩
  case round =>
    obtain ⟨j, hj, rfl, hown, hb⟩ := hrel
    by_cases hlt : j < n + m
    · obtain ⟨A', c', rfl⟩ := own_shape hown
      have HC := Lib.hid (HCL.out wr (hbw.trans (hb.mono hw1)) j hlt)
      have HE := HG.out
      have HO := Lib.hid hown
      clear hown
      unfold Enters at HE
      go_wp2_with (first
        | (at_builtin; refine wpList_append_own _ rfl _ _ 58 rfl w1.heap.size 4 i0 (.bool false) 1 1 Try.underlying58 hi0 hz0 hz1 hz2 rfl (by decide) _ _ _ rfl (hown2.alloc _) ⟨w2.heap.size, 0, none⟩ 1 1 [.bool (F j)] rfl rfl ?c1 ?c2 ?c3 ?c4 ?c5 ?_)
        | (with_reducible refine Calls.mono HC.out ?_; rintro e w2 ⟨rfl, hb2⟩; have hown2 := own_call HO.out hb2))
      case c1 => exact cell_one_new _ _ _
      case c2 => intro u hu; simp at hu; subst hu; rfl
      case c3 => unfold maxLen; omega
      case c4 => omega
      case c5 => have h1 := hb.size; have h2 := hb2.size; simp; omega
      intro v' w3 hown3 hgrow _
      have hb3 : Below w1.heap.size w1 w3 := below_grown (below_alloc (below_call hb hb2)) hgrow (own_ge (hown2.alloc (.cells #[.bool (F j)] 4)) (Nat.le_refl _))
      obtain ⟨A3, c3, rfl⟩ := own_shape hown3
      have HO3 := Lib.hid hown3
      clear hown3 hown2 hgrow hb2
      go_wp2
      go_roundw
      case rel => exact ⟨j + 1, by omega, by go_num, by rw [List.range_succ, List.map_append]; exact HO3.out, hb3⟩
      case measure => simp [intOf]; omega
    · obtain rfl : j = n + m := by omega
      have HO := Lib.hid hown
      clear hown
      go_wp2
      go_ret
      exact ⟨_, rfl, own_base HO.out hw1, hbw.trans (hb.mono hw1)⟩
end Go.Proofs.Ytedbjkjncfinnaa
