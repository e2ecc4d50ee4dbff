/-
  Layer 10's law LexFirst: returns true.
-/
import Derived.Test.YtedbjkjncfinnabLexAl
import Derived.Test.YtedbjkjncfinnabLexP
namespace Go.Proofs.Ytedbjkjncfinnab
open Go.RowKit

theorem cat_list (s t : ByteArray) : (s ++ t).data.toList = s.data.toList ++ t.data.toList := by simp
set_option maxRecDepth 100000 in
set_option maxHeartbeats 8000000 in
theorem lexFirst_any (s t : ByteArray) (w : World) (hs : s.size ≤ 9223372036854775807) (ht : t.size ≤ 9223372036854775807) :
    Calls Try.prog 7 #[.string s, .string t] w fun e w' => e = .returned (.bool true) ∧ Below w.heap.size w w' := by
  go_enter Try.func7, Try.ntmps7
  go_wp2_with fail
  refine (alive10_any w).mono ?_
  rintro e w1 ⟨rfl, hb1⟩
  have HB1 := Lib.hid hb1
  clear hb1
  by_cases h1 : 2000 < s.size
  · have q1 : (2000 : Int) < (s.size : Int) := by omega
    go_wp2
    go_ret
    exact ⟨rfl, HB1.out⟩
  by_cases h2 : 2000 < t.size
  · have q1 : ¬ (2000 : Int) < (s.size : Int) := by omega
    have q2 : (2000 : Int) < (t.size : Int) := by omega
    have q3 : decide ((2000 : Int) < (t.size : Int)) = true := by simpa using q2
    go_wp2
    go_ret
    exact ⟨rfl, HB1.out⟩
  have q1 : ¬ (2000 : Int) < (s.size : Int) := by omega
  have q2 : ¬ (2000 : Int) < (t.size : Int) := by omega
  have q3 : decide ((2000 : Int) < (t.size : Int)) = false := by simpa using q2
  have q4 : decide ((2000 : Int) < (s.size : Int)) = false := by simpa using q1
  go_wp2_with fail
  cases hr : lexAll s.data.toList with
  | ok ts =>
    refine (all_ok s ts w1 hr hs).mono ?_
    rintro e w2 ⟨A, c, rfl, _, hb2⟩
    have HB2 := Lib.hid (below_call HB1.out hb2)
    clear hb2
    go_wp2
    go_ret
    exact ⟨rfl, below_alloc HB2.out⟩
  | err c a b =>
    refine (all_err s c a b w1 hr hs).mono ?_
    rintro e w2 ⟨rfl, hb2⟩
    have HB2 := Lib.hid (below_call HB1.out hb2)
    clear hb2
    by_cases hc : c = 100
    · subst hc
      have HR := Lib.hid (show lexAll (s ++ t).data.toList = .err 100 a b by
        rw [cat_list]
        refine first_all _ _ a b hr ?_
        rw [List.length_append, Array.length_toList, Array.length_toList]
        have e1 : s.data.size = s.size := rfl
        have e2 : t.data.size = t.size := rfl
        omega)
      have hsz : (s ++ t).size ≤ 9223372036854775807 := by rw [ByteArray.size_append]; omega
      have HSZ := Lib.hid hsz
      have hk := Blk.new w2 27 #[.int .i64 a, .int .i64 b]
      have hbo := below_one w2 (.cells #[.int .i64 a, .int .i64 b] 27)
      have HK := Lib.hid hk
      have HB3 := Lib.hid (below_call HB2.out hbo)
      clear hk hbo hsz hr
      go_wp2_with fail
      generalize (w2.alloc (.cells #[.int .i64 a, .int .i64 b] 27)) = W2 at *
      generalize w2.heap.size = P at *
      refine (all_err (s ++ t) 100 a b W2 HR.out HSZ.out).mono ?_
      rintro e w3 ⟨rfl, hb3⟩
      have HK3 := Lib.hid (HK.out.call hb3)
      have HB4 := Lib.hid (below_call HB3.out hb3)
      obtain ⟨c0, c1⟩ := cells2' HK3.out
      have l0 : P < w3.heap.size := lt_size c0
      clear hb3 HK
      have za : ((a : Int) == (a : Int)) = true := by simp
      go_wp2
      go_ret
      exact ⟨rfl, below_alloc HB4.out⟩
    · have hq : ((c : Int) != 100) = true := by rw [bne_iff_ne]; omega
      clear hr hc
      go_wp2
      go_ret
      exact ⟨rfl, below_alloc HB2.out⟩
end Go.Proofs.Ytedbjkjncfinnab
