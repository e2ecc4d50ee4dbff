/-
  Layer 15's law: the document's example.
-/
import Derived.Test.YtedbjkjncfinnaaLawA
import Derived.Test.YtedbjkjncfinnaaUnroll
import Derived.Test.YtedbjkjncfinnaaHolds
import Derived.Test.YtedbjkjncfinnaaWordD
namespace Go.Proofs.Ytedbjkjncfinnaa
open Go.RowKit

/-- The example's word, and its atoms. -/
def x0 : Wd := ⟨[[true, false]], [[false, true]]⟩
def fa : Ltl := .mk 2 0 []
def fb : Ltl := .mk 2 1 []
theorem nm (k p : Int) (r : List Ltl) : Ltl.norm (.mk k p r) = T.build k p (Ltl.norms r) := by simp only [Ltl.norm]
theorem fa_norm : fa.norm = .atom 0 := by simp [fa, Ltl.norm, T.build]
theorem fb_norm : fb.norm = .atom 1 := by simp [fb, Ltl.norm, T.build]
theorem sat1 : (Ltl.mk 11 0 [fa, fb]).norm.sat x0 0 = true := by simp only [nm, Ltl.norms, fa_norm, fb_norm]; decide
theorem sat2 : (Ltl.mk 9 0 [fb]).norm.sat x0 0 = false := by simp only [nm, Ltl.norms, fb_norm]; decide
theorem sat3 : (Ltl.mk 8 0 [.mk 9 0 [fb]]).norm.sat x0 0 = true := by simp only [nm, Ltl.norms, fb_norm]; decide
theorem sat4 : fb.norm.sat x0 7 = true := by rw [fb_norm]; decide
/-- What Plain makes of F a, denied. -/
def fp : Ltl := .mk 12 0 [.mk 1 0 [], .mk 3 0 [.mk 2 0 []]]
theorem fp_eq : ((Ltl.mk 10 0 [fa]).norm.plain true).ltl = fp := by simp [nm, Ltl.norms, fa_norm, T.build, T.plain, T.ltl, fp]
theorem fp_size : fp.norm.size = 4 := by simp [fp, Ltl.norm, Ltl.norms, T.build, T.size]
theorem fp_same : fp.norm.same fp.norm = true := (T.same_iff _ _).2 rfl
theorem fab_same : fa.norm.same fb.norm = false := by rw [fa_norm, fb_norm]; decide
theorem sh0 : x0.shift 1 = ⟨[], [[false, true]]⟩ := by rfl
theorem un0 : x0.unroll 2 = ⟨[[true, false], [false, true], [false, true]], [[false, true]]⟩ := by rfl
theorem wholds_val (x : Wd) (f : Ltl) (k p : Int) (K : Option Addr) (n e : Nat) (A B : Option Addr) (c d : Nat) (i : Int) (w : World) (v : Bool) (hv : f.norm.sat x i.toNat = v) (hx : x.size ≤ 1000000000) (h0 : 0 < x.cycle.length) (hi : i ≤ 9223372036854775807)
    (hf : Ltl.Is w (Lt w.heap.size) f [.int .i64 k, .int .i64 p, .slice K n e]) (hw : WdIs w (Lt w.heap.size) x (.slice A x.stem.length c) (.slice B x.cycle.length d)) :
    Calls Try.prog 11 #[.agg #[.int .i64 k, .int .i64 p, .slice K n e], .agg #[.slice A x.stem.length c, .slice B x.cycle.length d], .int .i64 i] w fun e w' => e = .returned (.bool v) ∧ Below w.heap.size w w' :=
  hv ▸ wholds_any x f k p K n e A B c d i w (Lt w.heap.size) hx h0 hi (Bd.lt w) hf hw
theorem same_val (f g : Ltl) (k p : Int) (A : Option Addr) (n c : Nat) (k' p' : Int) (A' : Option Addr) (n' c' : Nat) (w : World) (v : Bool) (hv : f.norm.same g.norm = v)
    (hf : Ltl.Is w (Lt w.heap.size) f [.int .i64 k, .int .i64 p, .slice A n c]) (hg : Ltl.Is w (Lt w.heap.size) g [.int .i64 k', .int .i64 p', .slice A' n' c']) :
    Calls Try.prog 17 #[.agg #[.int .i64 k, .int .i64 p, .slice A n c], .agg #[.int .i64 k', .int .i64 p', .slice A' n' c']] w fun e w' => e = .returned (.bool v) ∧ Below w.heap.size w w' :=
  hv ▸ same_any f g k p A n c k' p' A' n' c' w (Lt w.heap.size) (Bd.lt w) hf hg
theorem size_val (f : Ltl) (k p : Int) (A : Option Addr) (n c : Nat) (w : World) (m : Nat) (hv : f.norm.size = m) (hm : m ≤ 1000000) (hf : Ltl.Is w (Lt w.heap.size) f [.int .i64 k, .int .i64 p, .slice A n c]) :
    Calls Try.prog 19 #[.agg #[.int .i64 k, .int .i64 p, .slice A n c]] w fun e w' => e = .returned (.int .i64 (m : Int)) ∧ Below w.heap.size w w' := by
  subst hv
  exact size_any f k p A n c w (Lt w.heap.size) hm (Bd.lt w) hf
/-- The stem's and the cycle's length of a word that comes back. -/
def RetLen (a b : Nat) (w : World) (e : Ending) (w' : World) : Prop := ∃ A c B d, e = .returned (.agg #[.slice A a c, .slice B b d]) ∧ Below w.heap.size w w'
theorem RetWd.len {w w' : World} {y : Wd} {e : Ending} (h : RetWd w y e w') : RetLen y.stem.length y.cycle.length w e w' := by
  obtain ⟨u, v, rfl, h1, h2⟩ := h
  obtain ⟨A, c, rfl⟩ := h1.1.form
  obtain ⟨B, d, rfl⟩ := h1.2.form
  exact ⟨A, c, B, d, rfl, h2⟩
theorem shift_len (w : World) (U V : Option Addr) (hw : WdIs w (Lt w.heap.size) x0 (.slice U 1 1) (.slice V 1 1)) :
    Calls Try.prog 24 #[.agg #[.slice U 1 1, .slice V 1 1], .int .i64 1] w (RetLen 0 1 w) :=
  (shift_any x0 U V 1 1 1 w (Lt w.heap.size) (Bd.lt _) (by decide) (by decide) (by decide) (by decide) hw).mono fun _ _ h => h.len
theorem unroll_len (w : World) (U V : Option Addr) (hw : WdIs w (Lt w.heap.size) x0 (.slice U 1 1) (.slice V 1 1)) :
    Calls Try.prog 25 #[.agg #[.slice U 1 1, .slice V 1 1], .int .i64 2] w (RetLen 3 1 w) :=
  (unroll_any x0 U V 1 1 2 2 w (Lt w.heap.size) (Bd.lt _) (by decide) (by decide) (by decide) (by decide) hw).mono fun _ _ h => h.len
theorem wd_field (A B : Option Addr) (a c b d : Nat) (W : World) : (Instr.field 27 (.agg #[.slice A a c, .slice B b d]) 0).run Try.prog W = .ok (.slice A a c) W := by kernel_rfl
theorem no_bd (w : World) : Bd (fun _ => False) w := fun _ h => h.elim
/-- Carried over a jump: what a call has laid. -/
theorem is_jump {F : Nat → Prop} {v w w' : World} {f : Ltl} {cs : List Value} (h : Ltl.Is w (Ext (fun _ => False) v w) f cs) (hj : Jmp F w w') (hF : ∀ b, Iv v w b → F b) : Ltl.Is w' (Lt w'.heap.size) f cs :=
  D.Is.keep (fun b hb => hb.elim False.elim fun hb => ⟨Nat.lt_of_lt_of_le hb.2 hj.size, hj.keep b (hF b hb)⟩) _ _ h
theorem is_jump2 {F : Nat → Prop} {S : Nat → Prop} {v w w' : World} {f : Ltl} {cs : List Value} (h : Ltl.Is w (Ext S v w) f cs) (hb : Bd S w) (hj : Jmp F w w') (hF : ∀ b, Iv v w b ∨ S b → F b) : Ltl.Is w' (Lt w'.heap.size) f cs :=
  D.Is.keep (fun b h => h.elim (fun h => ⟨Nat.lt_of_lt_of_le (hb b h) hj.size, hj.keep b (hF b (.inr h))⟩) fun h => ⟨Nat.lt_of_lt_of_le h.2 hj.size, hj.keep b (hF b (.inl h))⟩) _ _ h
/-- What is read of fp. -/
theorem fp_cells {w : World} {S : Nat → Prop} {g : Nat} {t : TypeId} {D : Option Addr} {m d : Nat} (h : Ltl.Is w S fp [.int .i64 12, .int .i64 0, .slice D m d]) (hS : Bd S w) (hk : Blk w g t #[.int .i64 12, .int .i64 0, .slice D m d]) :
    ∃ b o, D = some ⟨b, o, none⟩ ∧ m = 2 ∧ ∀ W', Below w.heap.size w W' → W'.cell? ⟨g, 0, none⟩ = some (.int .i64 12) ∧ W'.cell? ⟨g, 1, none⟩ = some (.int .i64 0) ∧ W'.cell? ⟨g, 2, none⟩ = some (.slice (some ⟨b, o, none⟩) 2 d) ∧ W'.cell? ⟨b, o + 3, none⟩ = some (.int .i64 3) := by
  obtain ⟨_, h1 | h1⟩ := kid_is h 1
  · obtain ⟨k, p, v, hc, hn, _⟩ := (Ltl.Is.form (k := 12) (p := 0) (r := [.mk 1 0 [], .mk 3 0 [.mk 2 0 []]]) h)
    simp at hc
    have : m = 2 := by rw [hc.2.1, hn]; rfl
    omega
  · obtain ⟨_, b, o, B, m', d', rfl, hb, h2, h3, h4, h5⟩ := h1
    obtain ⟨_, n', _, hc, hn, _⟩ := (Ltl.Is.form (k := 12) (p := 0) (r := [.mk 1 0 [], .mk 3 0 [.mk 2 0 []]]) h)
    simp at hc
    obtain ⟨_, rfl, _⟩ := hc
    obtain rfl : m = 2 := hn
    refine ⟨b, o, rfl, rfl, fun W' hW => ?_⟩
    rw [(hk.call hW).cell, (hk.call hW).cell, (hk.call hW).cell]
    exact ⟨rfl, rfl, rfl, (hW.cell (p := ⟨b, o + 3, none⟩) (hS b hb)).trans h2⟩

/-- The example's memory. -/
structure Al (w : World) (g1 g2 g3 : Nat) (u v : Value) (W : World) : Prop where
  below : Below w.heap.size w W
  b1 : Blk W g1 27 #[u, v]
  b2 : Blk W g2 24 #[.int .i64 2, .int .i64 0, .slice none 0 0]
  b3 : Blk W g3 24 #[.int .i64 2, .int .i64 1, .slice none 0 0]
  wd : WdIs W (Lt W.heap.size) x0 u v
section
variable {w W W' : World} {g1 g2 g3 : Nat} {u v : Value} {S : Nat → Prop} {f : Ltl} {cs : List Value}
theorem lt_call (h : Ltl.Is W (Lt W.heap.size) f cs) (hb : Below W.heap.size W W') : Ltl.Is W' (Lt W'.heap.size) f cs := (h.call (fun _ h => h) hb).mono fun _ h => Nat.lt_of_lt_of_le h hb.size
theorem lt_ret (h : Ltl.Is W' (Ext (Lt W.heap.size) W W') f cs) (hb : Below W.heap.size W W') : Ltl.Is W' (Lt W'.heap.size) f cs := h.mono fun _ h => h.elim (fun h => Nat.lt_of_lt_of_le h hb.size) (·.2)
theorem wd_call {x : Wd} (h : WdIs W (Lt W.heap.size) x u v) (hb : Below W.heap.size W W') : WdIs W' (Lt W'.heap.size) x u v :=
  ⟨(h.1.call (fun _ h => h) hb).mono fun _ h => Nat.lt_of_lt_of_le h hb.size, (h.2.call (fun _ h => h) hb).mono fun _ h => Nat.lt_of_lt_of_le h hb.size⟩
theorem Al.call (h : Al w g1 g2 g3 u v W) (hb : Below W.heap.size W W') : Al w g1 g2 g3 u v W' := ⟨below_call h.below hb, h.b1.call hb, h.b2.call hb, h.b3.call hb, wd_call h.wd hb⟩
theorem Al.cells (h : Al w g1 g2 g3 u v W) : W.cell? ⟨g1, 0, none⟩ = some u ∧ W.cell? ⟨g1, 1, none⟩ = some v ∧ W.cell? ⟨g2, 0, none⟩ = some (.int .i64 2) ∧ W.cell? ⟨g2, 1, none⟩ = some (.int .i64 0) ∧ W.cell? ⟨g2, 2, none⟩ = some (.slice none 0 0) ∧
    W.cell? ⟨g3, 0, none⟩ = some (.int .i64 2) ∧ W.cell? ⟨g3, 1, none⟩ = some (.int .i64 1) ∧ W.cell? ⟨g3, 2, none⟩ = some (.slice none 0 0) := by
  rw [h.b1.cell, h.b1.cell, h.b2.cell, h.b2.cell, h.b2.cell, h.b3.cell, h.b3.cell, h.b3.cell]
  exact ⟨rfl, rfl, rfl, rfl, rfl, rfl, rfl, rfl⟩
end
theorem letD_is {w : World} {S : Nat → Prop} {g : Nat} {t : TypeId} {a b : Bool} (hk : Blk w g t #[.bool a, .bool b]) (hS : S g) : LetIs w S [a, b] (.slice (some ⟨g, 0, none⟩) 2 2) :=
  LetIs.mk_ rfl (Nat.le_refl _) (by decide) fun _ => ⟨g, 0, rfl, hS, fun i hi => by
    rcases (show i = 0 ∨ i = 1 by omega) with rfl | rfl
    · exact hk.cell 0
    · exact hk.cell 1⟩
theorem lets1 {w : World} {S : Nat → Prop} {g : Nat} {t : TypeId} {l : List Bool} {v : Value} (h : LetIs w S l v) (hk : Blk w g t #[v]) (hS : S g) : LetsIs w S [l] (.slice (some ⟨g, 0, none⟩) 1 1) :=
  D.Is.slice_mk rfl (Nat.le_refl _) (by decide) fun _ => ⟨g, 0, rfl, hS, fun i hi => by
    obtain rfl : i = 0 := by simpa using hi
    refine ⟨[v], rfl, fun j x hj => ?_, h⟩
    rcases j with _ | j
    · rw [hk.cell]; simpa using hj
    · simp at hj⟩
theorem alive_mem (w : World) : Al w (w.heap.size + 1 + 1 + 1 + 1) (w.heap.size + 1 + 1 + 1 + 1 + 1) (w.heap.size + 1 + 1 + 1 + 1 + 1 + 1) (.slice (some ⟨w.heap.size + 1, 0, none⟩) 1 1) (.slice (some ⟨w.heap.size + 1 + 1 + 1, 0, none⟩) 1 1) (((((((w.alloc (.cells #[.bool true, .bool false] 4)).alloc (.cells #[.slice (some ⟨w.heap.size, 0, none⟩) 2 2] 58)).alloc (.cells #[.bool false, .bool true] 4)).alloc (.cells #[.slice (some ⟨w.heap.size + 1 + 1, 0, none⟩) 2 2] 58)).alloc (.cells #[.slice (some ⟨w.heap.size + 1, 0, none⟩) 1 1, .slice (some ⟨w.heap.size + 1 + 1 + 1, 0, none⟩) 1 1] 27)).alloc (.cells #[.int .i64 2, .int .i64 0, .slice none 0 0] 24)).alloc (.cells #[.int .i64 2, .int .i64 1, .slice none 0 0] 24)) := by
  have nx : ∀ (V : World) (o : Obj) {g : Nat}, g = V.heap.size → (V.alloc o).heap[g]? = some o := fun V o g h => by subst h; exact heap_alloc_new V o
  have k0 := (((((((show Blk (w.alloc (.cells #[.bool true, .bool false] 4)) (w.heap.size) 4 #[.bool true, .bool false] from nx _ _ (by simp)).alloc (.cells #[.slice (some ⟨w.heap.size, 0, none⟩) 2 2] 58)).alloc (.cells #[.bool false, .bool true] 4)).alloc (.cells #[.slice (some ⟨w.heap.size + 1 + 1, 0, none⟩) 2 2] 58)).alloc (.cells #[.slice (some ⟨w.heap.size + 1, 0, none⟩) 1 1, .slice (some ⟨w.heap.size + 1 + 1 + 1, 0, none⟩) 1 1] 27)).alloc (.cells #[.int .i64 2, .int .i64 0, .slice none 0 0] 24)).alloc (.cells #[.int .i64 2, .int .i64 1, .slice none 0 0] 24))
  have k1 := ((((((show Blk ((w.alloc (.cells #[.bool true, .bool false] 4)).alloc (.cells #[.slice (some ⟨w.heap.size, 0, none⟩) 2 2] 58)) (w.heap.size + 1) 58 #[.slice (some ⟨w.heap.size, 0, none⟩) 2 2] from nx _ _ (by simp)).alloc (.cells #[.bool false, .bool true] 4)).alloc (.cells #[.slice (some ⟨w.heap.size + 1 + 1, 0, none⟩) 2 2] 58)).alloc (.cells #[.slice (some ⟨w.heap.size + 1, 0, none⟩) 1 1, .slice (some ⟨w.heap.size + 1 + 1 + 1, 0, none⟩) 1 1] 27)).alloc (.cells #[.int .i64 2, .int .i64 0, .slice none 0 0] 24)).alloc (.cells #[.int .i64 2, .int .i64 1, .slice none 0 0] 24))
  have k2 := (((((show Blk (((w.alloc (.cells #[.bool true, .bool false] 4)).alloc (.cells #[.slice (some ⟨w.heap.size, 0, none⟩) 2 2] 58)).alloc (.cells #[.bool false, .bool true] 4)) (w.heap.size + 1 + 1) 4 #[.bool false, .bool true] from nx _ _ (by simp)).alloc (.cells #[.slice (some ⟨w.heap.size + 1 + 1, 0, none⟩) 2 2] 58)).alloc (.cells #[.slice (some ⟨w.heap.size + 1, 0, none⟩) 1 1, .slice (some ⟨w.heap.size + 1 + 1 + 1, 0, none⟩) 1 1] 27)).alloc (.cells #[.int .i64 2, .int .i64 0, .slice none 0 0] 24)).alloc (.cells #[.int .i64 2, .int .i64 1, .slice none 0 0] 24))
  have k3 := ((((show Blk ((((w.alloc (.cells #[.bool true, .bool false] 4)).alloc (.cells #[.slice (some ⟨w.heap.size, 0, none⟩) 2 2] 58)).alloc (.cells #[.bool false, .bool true] 4)).alloc (.cells #[.slice (some ⟨w.heap.size + 1 + 1, 0, none⟩) 2 2] 58)) (w.heap.size + 1 + 1 + 1) 58 #[.slice (some ⟨w.heap.size + 1 + 1, 0, none⟩) 2 2] from nx _ _ (by simp)).alloc (.cells #[.slice (some ⟨w.heap.size + 1, 0, none⟩) 1 1, .slice (some ⟨w.heap.size + 1 + 1 + 1, 0, none⟩) 1 1] 27)).alloc (.cells #[.int .i64 2, .int .i64 0, .slice none 0 0] 24)).alloc (.cells #[.int .i64 2, .int .i64 1, .slice none 0 0] 24))
  have k4 := (((show Blk (((((w.alloc (.cells #[.bool true, .bool false] 4)).alloc (.cells #[.slice (some ⟨w.heap.size, 0, none⟩) 2 2] 58)).alloc (.cells #[.bool false, .bool true] 4)).alloc (.cells #[.slice (some ⟨w.heap.size + 1 + 1, 0, none⟩) 2 2] 58)).alloc (.cells #[.slice (some ⟨w.heap.size + 1, 0, none⟩) 1 1, .slice (some ⟨w.heap.size + 1 + 1 + 1, 0, none⟩) 1 1] 27)) (w.heap.size + 1 + 1 + 1 + 1) 27 #[.slice (some ⟨w.heap.size + 1, 0, none⟩) 1 1, .slice (some ⟨w.heap.size + 1 + 1 + 1, 0, none⟩) 1 1] from nx _ _ (by simp)).alloc (.cells #[.int .i64 2, .int .i64 0, .slice none 0 0] 24)).alloc (.cells #[.int .i64 2, .int .i64 1, .slice none 0 0] 24))
  have k5 := ((show Blk ((((((w.alloc (.cells #[.bool true, .bool false] 4)).alloc (.cells #[.slice (some ⟨w.heap.size, 0, none⟩) 2 2] 58)).alloc (.cells #[.bool false, .bool true] 4)).alloc (.cells #[.slice (some ⟨w.heap.size + 1 + 1, 0, none⟩) 2 2] 58)).alloc (.cells #[.slice (some ⟨w.heap.size + 1, 0, none⟩) 1 1, .slice (some ⟨w.heap.size + 1 + 1 + 1, 0, none⟩) 1 1] 27)).alloc (.cells #[.int .i64 2, .int .i64 0, .slice none 0 0] 24)) (w.heap.size + 1 + 1 + 1 + 1 + 1) 24 #[.int .i64 2, .int .i64 0, .slice none 0 0] from nx _ _ (by simp)).alloc (.cells #[.int .i64 2, .int .i64 1, .slice none 0 0] 24))
  have k6 := (show Blk (((((((w.alloc (.cells #[.bool true, .bool false] 4)).alloc (.cells #[.slice (some ⟨w.heap.size, 0, none⟩) 2 2] 58)).alloc (.cells #[.bool false, .bool true] 4)).alloc (.cells #[.slice (some ⟨w.heap.size + 1 + 1, 0, none⟩) 2 2] 58)).alloc (.cells #[.slice (some ⟨w.heap.size + 1, 0, none⟩) 1 1, .slice (some ⟨w.heap.size + 1 + 1 + 1, 0, none⟩) 1 1] 27)).alloc (.cells #[.int .i64 2, .int .i64 0, .slice none 0 0] 24)).alloc (.cells #[.int .i64 2, .int .i64 1, .slice none 0 0] 24)) (w.heap.size + 1 + 1 + 1 + 1 + 1 + 1) 24 #[.int .i64 2, .int .i64 1, .slice none 0 0] from nx _ _ (by simp))
  exact ⟨(below_alloc (below_alloc (below_alloc (below_alloc (below_alloc (below_alloc (below_one w _))))))), k4, k5, k6, lets1 (letD_is k0 k0.lt) k1 k1.lt, lets1 (letD_is k2 k2.lt) k3 k3.lt⟩

set_option maxRecDepth 100000 in
set_option maxHeartbeats 8000000 in
theorem alive15_any (w : World) : Calls Try.prog 9 #[] w fun e w' => e = .returned (.bool true) ∧ Below w.heap.size w w' := by
  have HA0 := Lib.hid (alive_mem w)
  go_enter Try.func9, Try.ntmps9
  go_wp2_with fail
  generalize (((((((w.alloc (.cells #[.bool true, .bool false] 4)).alloc (.cells #[.slice (some ⟨w.heap.size, 0, none⟩) 2 2] 58)).alloc (.cells #[.bool false, .bool true] 4)).alloc (.cells #[.slice (some ⟨w.heap.size + 1 + 1, 0, none⟩) 2 2] 58)).alloc (.cells #[.slice (some ⟨w.heap.size + 1, 0, none⟩) 1 1, .slice (some ⟨w.heap.size + 1 + 1 + 1, 0, none⟩) 1 1] 27)).alloc (.cells #[.int .i64 2, .int .i64 0, .slice none 0 0] 24)).alloc (.cells #[.int .i64 2, .int .i64 1, .slice none 0 0] 24)) = W0 at *
  generalize w.heap.size + 1 + 1 + 1 + 1 + 1 + 1 = g3 at *
  generalize w.heap.size + 1 + 1 + 1 + 1 + 1 = g2 at *
  generalize w.heap.size + 1 + 1 + 1 + 1 = g1 at *
  generalize (some (⟨w.heap.size + 1 + 1 + 1, 0, none⟩ : Addr)) = V at *
  generalize (some (⟨w.heap.size + 1, 0, none⟩ : Addr)) = U at *
  refine (lone_any 10 fa none 0 0 W0 (fun _ => False) (no_bd _) (leaf_is _ _ _ _)).mono ?_
  rintro e1 w1 ⟨A1, n1, c1, rfl, hi1, hb1⟩
  have HI1 := Lib.hid (show Ltl.Is w1 (Lt w1.heap.size) (.mk 10 0 [fa]) [.int .i64 10, .int .i64 0, .slice A1 n1 c1] from hi1.mono fun b hb => hb.elim False.elim fun hb => hb.2)
  have HA1 := Lib.hid (HA0.out.call hb1)
  clear hi1 hb1
  go_wp2_with fail
  refine (plain_any (.mk 10 0 [fa]) 10 0 A1 n1 c1 true w1 (Lt w1.heap.size) (Bd.lt _) HI1.out).mono ?_
  rw [fp_eq]
  rintro e2 w2 ⟨Ap, np, cp, rfl, hi2, hb2⟩
  rw [show fp.kind = 12 from rfl, show fp.prop = 0 from rfl]
  have HI2 := Lib.hid (show Ltl.Is w2 (Lt w2.heap.size) fp [.int .i64 12, .int .i64 0, .slice Ap np cp] from lt_ret hi2 hb2)
  have HA2 := Lib.hid (HA1.out.call hb2)
  clear hi2 hb2
  go_wp2_with fail
  obtain ⟨pb, po, rfl, rfl, hpc⟩ := fp_cells (HI2.out.call (Bd.lt _) (below_one w2 (.cells #[.int .i64 12, .int .i64 0, .slice Ap np cp] 24))) (fun b h => Nat.lt_of_lt_of_le h (below_one w2 (.cells #[.int .i64 12, .int .i64 0, .slice Ap np cp] 24)).size) (Blk.new w2 24 #[.int .i64 12, .int .i64 0, .slice Ap np cp])
  have HPC := Lib.hid hpc
  have HA3 := Lib.hid (HA2.out.call (below_one w2 (.cells #[.int .i64 12, .int .i64 0, .slice (some ⟨pb, po, none⟩) 2 cp] 24)))
  have HI3 := Lib.hid (lt_call HI2.out (below_one w2 (.cells #[.int .i64 12, .int .i64 0, .slice (some ⟨pb, po, none⟩) 2 cp] 24)))
  clear hpc
  generalize w2.alloc (.cells #[.int .i64 12, .int .i64 0, .slice (some ⟨pb, po, none⟩) 2 cp] 24) = W3 at *
  generalize w2.heap.size = g4 at *
  have hfld := wd_field
  refine wp_region_jump (L := #[false, false, false, false, false, false, false, false, false, false, false, false, false, false, false, false, false, false, false, false, false, false, false, false, false, false, false, false, false, false, false, false, false, false, false, false, false, false, false, false, false, false, false, false, false, false, false, false, false, false, false, false, false, false, false, false, false, false, false, false, false, false, false, false, false, false, false, true]) 67 (by kernel_rfl) (by kernel_rfl) (by kernel_rfl) ?_
  have hF0 : ∀ k, Lt W3.drew.heap.size k → k < W3.drew.heap.size := fun _ h => h
  refine wpJ_takeL (i := 0) (v := ?_) rfl (by kernel_rfl) (by kernel_rfl) (by kernel_rfl) (fun _ _ _ h => h) hF0 (Or.inl ⟨by rfl, ?_⟩) ?_
  rotate_left
  focus
    intro W' hj
    obtain ⟨c0, c1, c2', c3, c4, c5, c6, c7⟩ := (HA3.out.call (Jmp.low hj)).cells
    obtain ⟨p0, p1, p2, p3⟩ := HPC.out W' (Jmp.low hj)
    clear hj
    go_simp
    try with_reducible rfl
  simp only [Act.put, List.setIfInBounds_toArray, List.set_cons_zero, List.set_cons_succ]
  refine wpJ_takeL (i := 1) (v := ?_) rfl (by kernel_rfl) (by kernel_rfl) (by kernel_rfl) (fun _ _ _ h => h) hF0 (Or.inl ⟨by rfl, ?_⟩) ?_
  rotate_left
  focus
    intro W' hj
    obtain ⟨c0, c1, c2', c3, c4, c5, c6, c7⟩ := (HA3.out.call (Jmp.low hj)).cells
    obtain ⟨p0, p1, p2, p3⟩ := HPC.out W' (Jmp.low hj)
    clear hj
    go_simp
    try with_reducible rfl
  simp only [Act.put, List.setIfInBounds_toArray, List.set_cons_zero, List.set_cons_succ]
  refine wpJ_takeL (i := 3) (v := ?_) rfl (by kernel_rfl) (by kernel_rfl) (by kernel_rfl) (fun _ _ _ h => h) hF0 (Or.inl ⟨by rfl, ?_⟩) ?_
  rotate_left
  focus
    intro W' hj
    obtain ⟨c0, c1, c2', c3, c4, c5, c6, c7⟩ := (HA3.out.call (Jmp.low hj)).cells
    obtain ⟨p0, p1, p2, p3⟩ := HPC.out W' (Jmp.low hj)
    clear hj
    go_simp
    try with_reducible rfl
  simp only [Act.put, List.setIfInBounds_toArray, List.set_cons_zero, List.set_cons_succ]
  refine wpJ_callL (i := 2) (by kernel_rfl) rfl fun v2 j2 K2 k2 => ?_
  go_wp2_with fail
  refine (ltwo_any 11 fa fb none none 0 0 0 0 v2 (fun _ => False) (no_bd _) (leaf_is _ _ _ _) (leaf_is _ _ _ _)).mono ?_
  rintro e2 w2 ⟨A2, n2, c2, rfl, hi2, b2⟩
  have HI2 := Lib.hid hi2
  clear hi2
  go_wp2_with fail
  refine k2.out _ _ b2 ?_
  clear k2
  have hF3 := grow_F (j2.grow hF0) b2.size
  refine wpJ_callL (i := 4) (by kernel_rfl) rfl fun v4 j4 K4 k4 => ?_
  go_wp2_with fail
  refine (wholds_val x0 (.mk 11 0 [fa, fb]) 11 0 A2 n2 c2 U V 1 1 0 v4 true sat1 (by decide) (by decide) (by decide) (is_jump HI2.out j4 (fun b hb => .inr hb)) (HA3.out.call (Jmp.low (j2.back hF0 b2 j4))).wd).mono ?_
  rintro e4 w4 ⟨rfl, b4⟩
  go_wp2_with fail
  refine k4.out _ _ b4 ?_
  clear k4
  have hF5 := grow_F (j4.grow hF3) b4.size
  refine wpJ_takeL (i := 5) (v := ?_) rfl (by kernel_rfl) (by kernel_rfl) (by kernel_rfl) (fun _ _ _ h => h) hF5 (Or.inl ⟨by rfl, ?_⟩) ?_
  rotate_left
  focus
    intro W' hj
    obtain ⟨c0, c1, c2', c3, c4, c5, c6, c7⟩ := (HA3.out.call (Jmp.low (j2.back hF0 b2 (j4.back hF3 b4 hj)))).cells
    obtain ⟨p0, p1, p2, p3⟩ := HPC.out W' (Jmp.low (j2.back hF0 b2 (j4.back hF3 b4 hj)))
    clear hj
    go_simp
    try with_reducible rfl
  simp only [Act.put, List.setIfInBounds_toArray, List.set_cons_zero, List.set_cons_succ]
  refine wpJ_takeL (i := 6) (v := ?_) rfl (by kernel_rfl) (by kernel_rfl) (by kernel_rfl) (fun _ _ _ h => h) hF5 (Or.inl ⟨by rfl, ?_⟩) ?_
  rotate_left
  focus
    intro W' hj
    obtain ⟨c0, c1, c2', c3, c4, c5, c6, c7⟩ := (HA3.out.call (Jmp.low (j2.back hF0 b2 (j4.back hF3 b4 hj)))).cells
    obtain ⟨p0, p1, p2, p3⟩ := HPC.out W' (Jmp.low (j2.back hF0 b2 (j4.back hF3 b4 hj)))
    clear hj
    go_simp
    try with_reducible rfl
  simp only [Act.put, List.setIfInBounds_toArray, List.set_cons_zero, List.set_cons_succ]
  refine wpJ_takeL (i := 8) (v := ?_) rfl (by kernel_rfl) (by kernel_rfl) (by kernel_rfl) (fun _ _ _ h => h) hF5 (Or.inl ⟨by rfl, ?_⟩) ?_
  rotate_left
  focus
    intro W' hj
    obtain ⟨c0, c1, c2', c3, c4, c5, c6, c7⟩ := (HA3.out.call (Jmp.low (j2.back hF0 b2 (j4.back hF3 b4 hj)))).cells
    obtain ⟨p0, p1, p2, p3⟩ := HPC.out W' (Jmp.low (j2.back hF0 b2 (j4.back hF3 b4 hj)))
    clear hj
    go_simp
    try with_reducible rfl
  simp only [Act.put, List.setIfInBounds_toArray, List.set_cons_zero, List.set_cons_succ]
  refine wpJ_callL (i := 7) (by kernel_rfl) rfl fun v7 j7 K7 k7 => ?_
  go_wp2_with fail
  refine (lone_any 9 fb none 0 0 v7 (fun _ => False) (no_bd _) (leaf_is _ _ _ _)).mono ?_
  rintro e7 w7 ⟨A7, n7, c7, rfl, hi7, b7⟩
  have HI7 := Lib.hid hi7
  clear hi7
  go_wp2_with fail
  refine k7.out _ _ b7 ?_
  clear k7
  have hF8 := grow_F (j7.grow hF5) b7.size
  refine wpJ_callL (i := 9) (by kernel_rfl) rfl fun v9 j9 K9 k9 => ?_
  go_wp2_with fail
  refine (wholds_val x0 (.mk 9 0 [fb]) 9 0 A7 n7 c7 U V 1 1 0 v9 false sat2 (by decide) (by decide) (by decide) (is_jump HI7.out j9 (fun b hb => .inr hb)) (HA3.out.call (Jmp.low (j2.back hF0 b2 (j4.back hF3 b4 (j7.back hF5 b7 j9))))).wd).mono ?_
  rintro e9 w9 ⟨rfl, b9⟩
  go_wp2_with fail
  refine k9.out _ _ b9 ?_
  clear k9
  have hF10 := grow_F (j9.grow hF8) b9.size
  refine wpJ_takeL (i := 10) (v := ?_) rfl (by kernel_rfl) (by kernel_rfl) (by kernel_rfl) (fun _ _ _ h => h) hF10 (Or.inl ⟨by rfl, ?_⟩) ?_
  rotate_left
  focus
    intro W' hj
    obtain ⟨c0, c1, c2', c3, c4, c5, c6, c7⟩ := (HA3.out.call (Jmp.low (j2.back hF0 b2 (j4.back hF3 b4 (j7.back hF5 b7 (j9.back hF8 b9 hj)))))).cells
    obtain ⟨p0, p1, p2, p3⟩ := HPC.out W' (Jmp.low (j2.back hF0 b2 (j4.back hF3 b4 (j7.back hF5 b7 (j9.back hF8 b9 hj)))))
    clear hj
    go_simp
    try with_reducible rfl
  simp only [Act.put, List.setIfInBounds_toArray, List.set_cons_zero, List.set_cons_succ]
  refine wpJ_takeL (i := 11) (v := ?_) rfl (by kernel_rfl) (by kernel_rfl) (by kernel_rfl) (fun _ _ _ h => h) hF10 (Or.inl ⟨by rfl, ?_⟩) ?_
  rotate_left
  focus
    intro W' hj
    obtain ⟨c0, c1, c2', c3, c4, c5, c6, c7⟩ := (HA3.out.call (Jmp.low (j2.back hF0 b2 (j4.back hF3 b4 (j7.back hF5 b7 (j9.back hF8 b9 hj)))))).cells
    obtain ⟨p0, p1, p2, p3⟩ := HPC.out W' (Jmp.low (j2.back hF0 b2 (j4.back hF3 b4 (j7.back hF5 b7 (j9.back hF8 b9 hj)))))
    clear hj
    go_simp
    try with_reducible rfl
  simp only [Act.put, List.setIfInBounds_toArray, List.set_cons_zero, List.set_cons_succ]
  refine wpJ_takeL (i := 12) (v := ?_) rfl (by kernel_rfl) (by kernel_rfl) (by kernel_rfl) (fun _ _ _ h => h) hF10 (Or.inl ⟨by rfl, ?_⟩) ?_
  rotate_left
  focus
    intro W' hj
    obtain ⟨c0, c1, c2', c3, c4, c5, c6, c7⟩ := (HA3.out.call (Jmp.low (j2.back hF0 b2 (j4.back hF3 b4 (j7.back hF5 b7 (j9.back hF8 b9 hj)))))).cells
    obtain ⟨p0, p1, p2, p3⟩ := HPC.out W' (Jmp.low (j2.back hF0 b2 (j4.back hF3 b4 (j7.back hF5 b7 (j9.back hF8 b9 hj)))))
    clear hj
    go_simp
    try with_reducible rfl
  simp only [Act.put, List.setIfInBounds_toArray, List.set_cons_zero, List.set_cons_succ]
  refine wpJ_takeL (i := 13) (v := ?_) rfl (by kernel_rfl) (by kernel_rfl) (by kernel_rfl) (fun _ _ _ h => h) hF10 (Or.inl ⟨by rfl, ?_⟩) ?_
  rotate_left
  focus
    intro W' hj
    obtain ⟨c0, c1, c2', c3, c4, c5, c6, c7⟩ := (HA3.out.call (Jmp.low (j2.back hF0 b2 (j4.back hF3 b4 (j7.back hF5 b7 (j9.back hF8 b9 hj)))))).cells
    obtain ⟨p0, p1, p2, p3⟩ := HPC.out W' (Jmp.low (j2.back hF0 b2 (j4.back hF3 b4 (j7.back hF5 b7 (j9.back hF8 b9 hj)))))
    clear hj
    go_simp
    try with_reducible rfl
  simp only [Act.put, List.setIfInBounds_toArray, List.set_cons_zero, List.set_cons_succ]
  refine wpJ_takeL (i := 16) (v := ?_) rfl (by kernel_rfl) (by kernel_rfl) (by kernel_rfl) (fun _ _ _ h => h) hF10 (Or.inl ⟨by rfl, ?_⟩) ?_
  rotate_left
  focus
    intro W' hj
    obtain ⟨c0, c1, c2', c3, c4, c5, c6, c7⟩ := (HA3.out.call (Jmp.low (j2.back hF0 b2 (j4.back hF3 b4 (j7.back hF5 b7 (j9.back hF8 b9 hj)))))).cells
    obtain ⟨p0, p1, p2, p3⟩ := HPC.out W' (Jmp.low (j2.back hF0 b2 (j4.back hF3 b4 (j7.back hF5 b7 (j9.back hF8 b9 hj)))))
    clear hj
    go_simp
    try with_reducible rfl
  simp only [Act.put, List.setIfInBounds_toArray, List.set_cons_zero, List.set_cons_succ]
  refine wpJ_callL (i := 14) (by kernel_rfl) rfl fun v14 j14 K14 k14 => ?_
  go_wp2_with fail
  refine (lone_any 9 fb none 0 0 v14 (fun _ => False) (no_bd _) (leaf_is _ _ _ _)).mono ?_
  rintro e14 w14 ⟨A14, n14, c14, rfl, hi14, b14⟩
  have HI14 := Lib.hid hi14
  clear hi14
  go_wp2_with fail
  refine k14.out _ _ b14 ?_
  clear k14
  have hF15 := grow_F (j14.grow hF10) b14.size
  refine wpJ_callL (i := 15) (by kernel_rfl) rfl fun v15 j15 K15 k15 => ?_
  go_wp2_with fail
  refine (lone_any 8 (.mk 9 0 [fb]) A14 n14 c14 v15 (Iv v14 w14) (fun b hb => Nat.lt_of_lt_of_le hb.2 j15.size) (D.Is.keep (fun b hb => hb.elim False.elim fun hb => ⟨hb, j15.keep b (.inr hb)⟩) _ _ HI14.out)).mono ?_
  rintro e15 w15 ⟨A15, n15, c15, rfl, hi15, b15⟩
  have HI15 := Lib.hid hi15
  clear hi15
  go_wp2_with fail
  refine k15.out _ _ b15 ?_
  clear k15
  have hF16 := grow_F (j15.grow hF15) b15.size
  refine wpJ_callL (i := 17) (by kernel_rfl) rfl fun v17 j17 K17 k17 => ?_
  go_wp2_with fail
  refine (wholds_val x0 (.mk 8 0 [.mk 9 0 [fb]]) 8 0 A15 n15 c15 U V 1 1 0 v17 true sat3 (by decide) (by decide) (by decide) (is_jump2 HI15.out (fun b hb => Nat.lt_of_lt_of_le hb.2 (Nat.le_trans j15.size b15.size)) j17 (fun b hb => hb.elim .inr fun hb => .inl (.inr hb))) (HA3.out.call (Jmp.low (j2.back hF0 b2 (j4.back hF3 b4 (j7.back hF5 b7 (j9.back hF8 b9 (j14.back hF10 b14 (j15.back hF15 b15 j17)))))))).wd).mono ?_
  rintro e17 w17 ⟨rfl, b17⟩
  go_wp2_with fail
  refine k17.out _ _ b17 ?_
  clear k17
  have hF18 := grow_F (j17.grow hF16) b17.size
  refine wpJ_takeL (i := 18) (v := ?_) rfl (by kernel_rfl) (by kernel_rfl) (by kernel_rfl) (fun _ _ _ h => h) hF18 (Or.inl ⟨by rfl, ?_⟩) ?_
  rotate_left
  focus
    intro W' hj
    obtain ⟨c0, c1, c2', c3, c4, c5, c6, c7⟩ := (HA3.out.call (Jmp.low (j2.back hF0 b2 (j4.back hF3 b4 (j7.back hF5 b7 (j9.back hF8 b9 (j14.back hF10 b14 (j15.back hF15 b15 (j17.back hF16 b17 hj))))))))).cells
    obtain ⟨p0, p1, p2, p3⟩ := HPC.out W' (Jmp.low (j2.back hF0 b2 (j4.back hF3 b4 (j7.back hF5 b7 (j9.back hF8 b9 (j14.back hF10 b14 (j15.back hF15 b15 (j17.back hF16 b17 hj))))))))
    clear hj
    go_simp
    try with_reducible rfl
  simp only [Act.put, List.setIfInBounds_toArray, List.set_cons_zero, List.set_cons_succ]
  refine wpJ_takeL (i := 19) (v := ?_) rfl (by kernel_rfl) (by kernel_rfl) (by kernel_rfl) (fun _ _ _ h => h) hF18 (Or.inl ⟨by rfl, ?_⟩) ?_
  rotate_left
  focus
    intro W' hj
    obtain ⟨c0, c1, c2', c3, c4, c5, c6, c7⟩ := (HA3.out.call (Jmp.low (j2.back hF0 b2 (j4.back hF3 b4 (j7.back hF5 b7 (j9.back hF8 b9 (j14.back hF10 b14 (j15.back hF15 b15 (j17.back hF16 b17 hj))))))))).cells
    obtain ⟨p0, p1, p2, p3⟩ := HPC.out W' (Jmp.low (j2.back hF0 b2 (j4.back hF3 b4 (j7.back hF5 b7 (j9.back hF8 b9 (j14.back hF10 b14 (j15.back hF15 b15 (j17.back hF16 b17 hj))))))))
    clear hj
    go_simp
    try with_reducible rfl
  simp only [Act.put, List.setIfInBounds_toArray, List.set_cons_zero, List.set_cons_succ]
  refine wpJ_takeL (i := 20) (v := ?_) rfl (by kernel_rfl) (by kernel_rfl) (by kernel_rfl) (fun _ _ _ h => h) hF18 (Or.inl ⟨by rfl, ?_⟩) ?_
  rotate_left
  focus
    intro W' hj
    obtain ⟨c0, c1, c2', c3, c4, c5, c6, c7⟩ := (HA3.out.call (Jmp.low (j2.back hF0 b2 (j4.back hF3 b4 (j7.back hF5 b7 (j9.back hF8 b9 (j14.back hF10 b14 (j15.back hF15 b15 (j17.back hF16 b17 hj))))))))).cells
    obtain ⟨p0, p1, p2, p3⟩ := HPC.out W' (Jmp.low (j2.back hF0 b2 (j4.back hF3 b4 (j7.back hF5 b7 (j9.back hF8 b9 (j14.back hF10 b14 (j15.back hF15 b15 (j17.back hF16 b17 hj))))))))
    clear hj
    go_simp
    try with_reducible rfl
  simp only [Act.put, List.setIfInBounds_toArray, List.set_cons_zero, List.set_cons_succ]
  refine wpJ_takeL (i := 21) (v := ?_) rfl (by kernel_rfl) (by kernel_rfl) (by kernel_rfl) (fun _ _ _ h => h) hF18 (Or.inl ⟨by rfl, ?_⟩) ?_
  rotate_left
  focus
    intro W' hj
    obtain ⟨c0, c1, c2', c3, c4, c5, c6, c7⟩ := (HA3.out.call (Jmp.low (j2.back hF0 b2 (j4.back hF3 b4 (j7.back hF5 b7 (j9.back hF8 b9 (j14.back hF10 b14 (j15.back hF15 b15 (j17.back hF16 b17 hj))))))))).cells
    obtain ⟨p0, p1, p2, p3⟩ := HPC.out W' (Jmp.low (j2.back hF0 b2 (j4.back hF3 b4 (j7.back hF5 b7 (j9.back hF8 b9 (j14.back hF10 b14 (j15.back hF15 b15 (j17.back hF16 b17 hj))))))))
    clear hj
    go_simp
    try with_reducible rfl
  simp only [Act.put, List.setIfInBounds_toArray, List.set_cons_zero, List.set_cons_succ]
  refine wpJ_callL (i := 22) (by kernel_rfl) rfl fun v22 j22 K22 k22 => ?_
  go_wp2_with fail
  refine (wholds_val x0 fb 2 1 none 0 0 U V 1 1 7 v22 true sat4 (by decide) (by decide) (by decide) (leaf_is _ _ _ _) (HA3.out.call (Jmp.low (j2.back hF0 b2 (j4.back hF3 b4 (j7.back hF5 b7 (j9.back hF8 b9 (j14.back hF10 b14 (j15.back hF15 b15 (j17.back hF16 b17 j22))))))))).wd).mono ?_
  rintro e22 w22 ⟨rfl, b22⟩
  go_wp2_with fail
  refine k22.out _ _ b22 ?_
  clear k22
  have hF23 := grow_F (j22.grow hF18) b22.size
  refine wpJ_takeL (i := 23) (v := ?_) rfl (by kernel_rfl) (by kernel_rfl) (by kernel_rfl) (fun _ _ _ h => h) hF23 (Or.inl ⟨by rfl, ?_⟩) ?_
  rotate_left
  focus
    intro W' hj
    obtain ⟨c0, c1, c2', c3, c4, c5, c6, c7⟩ := (HA3.out.call (Jmp.low (j2.back hF0 b2 (j4.back hF3 b4 (j7.back hF5 b7 (j9.back hF8 b9 (j14.back hF10 b14 (j15.back hF15 b15 (j17.back hF16 b17 (j22.back hF18 b22 hj)))))))))).cells
    obtain ⟨p0, p1, p2, p3⟩ := HPC.out W' (Jmp.low (j2.back hF0 b2 (j4.back hF3 b4 (j7.back hF5 b7 (j9.back hF8 b9 (j14.back hF10 b14 (j15.back hF15 b15 (j17.back hF16 b17 (j22.back hF18 b22 hj)))))))))
    clear hj
    go_simp
    try with_reducible rfl
  simp only [Act.put, List.setIfInBounds_toArray, List.set_cons_zero, List.set_cons_succ]
  refine wpJ_takeL (i := 24) (v := ?_) rfl (by kernel_rfl) (by kernel_rfl) (by kernel_rfl) (fun _ _ _ h => h) hF23 (Or.inl ⟨by rfl, ?_⟩) ?_
  rotate_left
  focus
    intro W' hj
    obtain ⟨c0, c1, c2', c3, c4, c5, c6, c7⟩ := (HA3.out.call (Jmp.low (j2.back hF0 b2 (j4.back hF3 b4 (j7.back hF5 b7 (j9.back hF8 b9 (j14.back hF10 b14 (j15.back hF15 b15 (j17.back hF16 b17 (j22.back hF18 b22 hj)))))))))).cells
    obtain ⟨p0, p1, p2, p3⟩ := HPC.out W' (Jmp.low (j2.back hF0 b2 (j4.back hF3 b4 (j7.back hF5 b7 (j9.back hF8 b9 (j14.back hF10 b14 (j15.back hF15 b15 (j17.back hF16 b17 (j22.back hF18 b22 hj)))))))))
    clear hj
    go_simp
    try with_reducible rfl
  simp only [Act.put, List.setIfInBounds_toArray, List.set_cons_zero, List.set_cons_succ]
  refine wpJ_takeL (i := 25) (v := ?_) rfl (by kernel_rfl) (by kernel_rfl) (by kernel_rfl) (fun _ _ _ h => h) hF23 (Or.inl ⟨by rfl, ?_⟩) ?_
  rotate_left
  focus
    intro W' hj
    obtain ⟨c0, c1, c2', c3, c4, c5, c6, c7⟩ := (HA3.out.call (Jmp.low (j2.back hF0 b2 (j4.back hF3 b4 (j7.back hF5 b7 (j9.back hF8 b9 (j14.back hF10 b14 (j15.back hF15 b15 (j17.back hF16 b17 (j22.back hF18 b22 hj)))))))))).cells
    obtain ⟨p0, p1, p2, p3⟩ := HPC.out W' (Jmp.low (j2.back hF0 b2 (j4.back hF3 b4 (j7.back hF5 b7 (j9.back hF8 b9 (j14.back hF10 b14 (j15.back hF15 b15 (j17.back hF16 b17 (j22.back hF18 b22 hj)))))))))
    clear hj
    go_simp
    try with_reducible rfl
  simp only [Act.put, List.setIfInBounds_toArray, List.set_cons_zero, List.set_cons_succ]
  refine wpJ_takeL (i := 26) (v := ?_) rfl (by kernel_rfl) (by kernel_rfl) (by kernel_rfl) (fun _ _ _ h => h) hF23 (Or.inl ⟨by rfl, ?_⟩) ?_
  rotate_left
  focus
    intro W' hj
    obtain ⟨c0, c1, c2', c3, c4, c5, c6, c7⟩ := (HA3.out.call (Jmp.low (j2.back hF0 b2 (j4.back hF3 b4 (j7.back hF5 b7 (j9.back hF8 b9 (j14.back hF10 b14 (j15.back hF15 b15 (j17.back hF16 b17 (j22.back hF18 b22 hj)))))))))).cells
    obtain ⟨p0, p1, p2, p3⟩ := HPC.out W' (Jmp.low (j2.back hF0 b2 (j4.back hF3 b4 (j7.back hF5 b7 (j9.back hF8 b9 (j14.back hF10 b14 (j15.back hF15 b15 (j17.back hF16 b17 (j22.back hF18 b22 hj)))))))))
    clear hj
    go_simp
    try with_reducible rfl
  simp only [Act.put, List.setIfInBounds_toArray, List.set_cons_zero, List.set_cons_succ]
  refine wpJ_takeL (i := 27) (v := ?_) rfl (by kernel_rfl) (by kernel_rfl) (by kernel_rfl) (fun _ _ _ h => h) hF23 (Or.inl ⟨by rfl, ?_⟩) ?_
  rotate_left
  focus
    intro W' hj
    obtain ⟨c0, c1, c2', c3, c4, c5, c6, c7⟩ := (HA3.out.call (Jmp.low (j2.back hF0 b2 (j4.back hF3 b4 (j7.back hF5 b7 (j9.back hF8 b9 (j14.back hF10 b14 (j15.back hF15 b15 (j17.back hF16 b17 (j22.back hF18 b22 hj)))))))))).cells
    obtain ⟨p0, p1, p2, p3⟩ := HPC.out W' (Jmp.low (j2.back hF0 b2 (j4.back hF3 b4 (j7.back hF5 b7 (j9.back hF8 b9 (j14.back hF10 b14 (j15.back hF15 b15 (j17.back hF16 b17 (j22.back hF18 b22 hj)))))))))
    clear hj
    go_simp
    try with_reducible rfl
  simp only [Act.put, List.setIfInBounds_toArray, List.set_cons_zero, List.set_cons_succ]
  refine wpJ_takeL (i := 28) (v := ?_) rfl (by kernel_rfl) (by kernel_rfl) (by kernel_rfl) (fun _ _ _ h => h) hF23 (Or.inl ⟨by rfl, ?_⟩) ?_
  rotate_left
  focus
    intro W' hj
    obtain ⟨c0, c1, c2', c3, c4, c5, c6, c7⟩ := (HA3.out.call (Jmp.low (j2.back hF0 b2 (j4.back hF3 b4 (j7.back hF5 b7 (j9.back hF8 b9 (j14.back hF10 b14 (j15.back hF15 b15 (j17.back hF16 b17 (j22.back hF18 b22 hj)))))))))).cells
    obtain ⟨p0, p1, p2, p3⟩ := HPC.out W' (Jmp.low (j2.back hF0 b2 (j4.back hF3 b4 (j7.back hF5 b7 (j9.back hF8 b9 (j14.back hF10 b14 (j15.back hF15 b15 (j17.back hF16 b17 (j22.back hF18 b22 hj)))))))))
    clear hj
    go_simp
    try with_reducible rfl
  simp only [Act.put, List.setIfInBounds_toArray, List.set_cons_zero, List.set_cons_succ]
  refine wpJ_takeL (i := 29) (v := ?_) rfl (by kernel_rfl) (by kernel_rfl) (by kernel_rfl) (fun _ _ _ h => h) hF23 (Or.inl ⟨by rfl, ?_⟩) ?_
  rotate_left
  focus
    intro W' hj
    obtain ⟨c0, c1, c2', c3, c4, c5, c6, c7⟩ := (HA3.out.call (Jmp.low (j2.back hF0 b2 (j4.back hF3 b4 (j7.back hF5 b7 (j9.back hF8 b9 (j14.back hF10 b14 (j15.back hF15 b15 (j17.back hF16 b17 (j22.back hF18 b22 hj)))))))))).cells
    obtain ⟨p0, p1, p2, p3⟩ := HPC.out W' (Jmp.low (j2.back hF0 b2 (j4.back hF3 b4 (j7.back hF5 b7 (j9.back hF8 b9 (j14.back hF10 b14 (j15.back hF15 b15 (j17.back hF16 b17 (j22.back hF18 b22 hj)))))))))
    clear hj
    go_simp
    try with_reducible rfl
  simp only [Act.put, List.setIfInBounds_toArray, List.set_cons_zero, List.set_cons_succ]
  refine wpJ_takeL (i := 30) (v := ?_) rfl (by kernel_rfl) (by kernel_rfl) (by kernel_rfl) (fun _ _ _ h => h) hF23 (Or.inl ⟨by rfl, ?_⟩) ?_
  rotate_left
  focus
    intro W' hj
    obtain ⟨c0, c1, c2', c3, c4, c5, c6, c7⟩ := (HA3.out.call (Jmp.low (j2.back hF0 b2 (j4.back hF3 b4 (j7.back hF5 b7 (j9.back hF8 b9 (j14.back hF10 b14 (j15.back hF15 b15 (j17.back hF16 b17 (j22.back hF18 b22 hj)))))))))).cells
    obtain ⟨p0, p1, p2, p3⟩ := HPC.out W' (Jmp.low (j2.back hF0 b2 (j4.back hF3 b4 (j7.back hF5 b7 (j9.back hF8 b9 (j14.back hF10 b14 (j15.back hF15 b15 (j17.back hF16 b17 (j22.back hF18 b22 hj)))))))))
    clear hj
    go_simp
    try with_reducible rfl
  simp only [Act.put, List.setIfInBounds_toArray, List.set_cons_zero, List.set_cons_succ]
  refine wpJ_takeL (i := 31) (v := ?_) rfl (by kernel_rfl) (by kernel_rfl) (by kernel_rfl) (fun _ _ _ h => h) hF23 (Or.inl ⟨by rfl, ?_⟩) ?_
  rotate_left
  focus
    intro W' hj
    obtain ⟨c0, c1, c2', c3, c4, c5, c6, c7⟩ := (HA3.out.call (Jmp.low (j2.back hF0 b2 (j4.back hF3 b4 (j7.back hF5 b7 (j9.back hF8 b9 (j14.back hF10 b14 (j15.back hF15 b15 (j17.back hF16 b17 (j22.back hF18 b22 hj)))))))))).cells
    obtain ⟨p0, p1, p2, p3⟩ := HPC.out W' (Jmp.low (j2.back hF0 b2 (j4.back hF3 b4 (j7.back hF5 b7 (j9.back hF8 b9 (j14.back hF10 b14 (j15.back hF15 b15 (j17.back hF16 b17 (j22.back hF18 b22 hj)))))))))
    clear hj
    go_simp
    try with_reducible rfl
  simp only [Act.put, List.setIfInBounds_toArray, List.set_cons_zero, List.set_cons_succ]
  refine wpJ_takeL (i := 32) (v := ?_) rfl (by kernel_rfl) (by kernel_rfl) (by kernel_rfl) (fun _ _ _ h => h) hF23 (Or.inl ⟨by rfl, ?_⟩) ?_
  rotate_left
  focus
    intro W' hj
    obtain ⟨c0, c1, c2', c3, c4, c5, c6, c7⟩ := (HA3.out.call (Jmp.low (j2.back hF0 b2 (j4.back hF3 b4 (j7.back hF5 b7 (j9.back hF8 b9 (j14.back hF10 b14 (j15.back hF15 b15 (j17.back hF16 b17 (j22.back hF18 b22 hj)))))))))).cells
    obtain ⟨p0, p1, p2, p3⟩ := HPC.out W' (Jmp.low (j2.back hF0 b2 (j4.back hF3 b4 (j7.back hF5 b7 (j9.back hF8 b9 (j14.back hF10 b14 (j15.back hF15 b15 (j17.back hF16 b17 (j22.back hF18 b22 hj)))))))))
    clear hj
    go_simp
    try with_reducible rfl
  simp only [Act.put, List.setIfInBounds_toArray, List.set_cons_zero, List.set_cons_succ]
  refine wpJ_takeL (i := 33) (v := ?_) rfl (by kernel_rfl) (by kernel_rfl) (by kernel_rfl) (fun _ _ _ h => h) hF23 (Or.inl ⟨by rfl, ?_⟩) ?_
  rotate_left
  focus
    intro W' hj
    obtain ⟨c0, c1, c2', c3, c4, c5, c6, c7⟩ := (HA3.out.call (Jmp.low (j2.back hF0 b2 (j4.back hF3 b4 (j7.back hF5 b7 (j9.back hF8 b9 (j14.back hF10 b14 (j15.back hF15 b15 (j17.back hF16 b17 (j22.back hF18 b22 hj)))))))))).cells
    obtain ⟨p0, p1, p2, p3⟩ := HPC.out W' (Jmp.low (j2.back hF0 b2 (j4.back hF3 b4 (j7.back hF5 b7 (j9.back hF8 b9 (j14.back hF10 b14 (j15.back hF15 b15 (j17.back hF16 b17 (j22.back hF18 b22 hj)))))))))
    clear hj
    go_simp
    try with_reducible rfl
  simp only [Act.put, List.setIfInBounds_toArray, List.set_cons_zero, List.set_cons_succ]
  refine wpJ_takeL (i := 34) (v := ?_) rfl (by kernel_rfl) (by kernel_rfl) (by kernel_rfl) (fun _ _ _ h => h) hF23 (Or.inl ⟨by rfl, ?_⟩) ?_
  rotate_left
  focus
    intro W' hj
    obtain ⟨c0, c1, c2', c3, c4, c5, c6, c7⟩ := (HA3.out.call (Jmp.low (j2.back hF0 b2 (j4.back hF3 b4 (j7.back hF5 b7 (j9.back hF8 b9 (j14.back hF10 b14 (j15.back hF15 b15 (j17.back hF16 b17 (j22.back hF18 b22 hj)))))))))).cells
    obtain ⟨p0, p1, p2, p3⟩ := HPC.out W' (Jmp.low (j2.back hF0 b2 (j4.back hF3 b4 (j7.back hF5 b7 (j9.back hF8 b9 (j14.back hF10 b14 (j15.back hF15 b15 (j17.back hF16 b17 (j22.back hF18 b22 hj)))))))))
    clear hj
    go_simp
    try with_reducible rfl
  simp only [Act.put, List.setIfInBounds_toArray, List.set_cons_zero, List.set_cons_succ]
  refine wpJ_takeL (i := 35) (v := ?_) rfl (by kernel_rfl) (by kernel_rfl) (by kernel_rfl) (fun _ _ _ h => h) hF23 (Or.inl ⟨by rfl, ?_⟩) ?_
  rotate_left
  focus
    intro W' hj
    obtain ⟨c0, c1, c2', c3, c4, c5, c6, c7⟩ := (HA3.out.call (Jmp.low (j2.back hF0 b2 (j4.back hF3 b4 (j7.back hF5 b7 (j9.back hF8 b9 (j14.back hF10 b14 (j15.back hF15 b15 (j17.back hF16 b17 (j22.back hF18 b22 hj)))))))))).cells
    obtain ⟨p0, p1, p2, p3⟩ := HPC.out W' (Jmp.low (j2.back hF0 b2 (j4.back hF3 b4 (j7.back hF5 b7 (j9.back hF8 b9 (j14.back hF10 b14 (j15.back hF15 b15 (j17.back hF16 b17 (j22.back hF18 b22 hj)))))))))
    clear hj
    go_simp
    try with_reducible rfl
  simp only [Act.put, List.setIfInBounds_toArray, List.set_cons_zero, List.set_cons_succ]
  refine wpJ_takeL (i := 36) (v := ?_) rfl (by kernel_rfl) (by kernel_rfl) (by kernel_rfl) (fun _ _ _ h => h) hF23 (Or.inl ⟨by rfl, ?_⟩) ?_
  rotate_left
  focus
    intro W' hj
    obtain ⟨c0, c1, c2', c3, c4, c5, c6, c7⟩ := (HA3.out.call (Jmp.low (j2.back hF0 b2 (j4.back hF3 b4 (j7.back hF5 b7 (j9.back hF8 b9 (j14.back hF10 b14 (j15.back hF15 b15 (j17.back hF16 b17 (j22.back hF18 b22 hj)))))))))).cells
    obtain ⟨p0, p1, p2, p3⟩ := HPC.out W' (Jmp.low (j2.back hF0 b2 (j4.back hF3 b4 (j7.back hF5 b7 (j9.back hF8 b9 (j14.back hF10 b14 (j15.back hF15 b15 (j17.back hF16 b17 (j22.back hF18 b22 hj)))))))))
    clear hj
    go_simp
    try with_reducible rfl
  simp only [Act.put, List.setIfInBounds_toArray, List.set_cons_zero, List.set_cons_succ]
  refine wpJ_takeL (i := 37) (v := ?_) rfl (by kernel_rfl) (by kernel_rfl) (by kernel_rfl) (fun _ _ _ h => h) hF23 (Or.inl ⟨by rfl, ?_⟩) ?_
  rotate_left
  focus
    intro W' hj
    obtain ⟨c0, c1, c2', c3, c4, c5, c6, c7⟩ := (HA3.out.call (Jmp.low (j2.back hF0 b2 (j4.back hF3 b4 (j7.back hF5 b7 (j9.back hF8 b9 (j14.back hF10 b14 (j15.back hF15 b15 (j17.back hF16 b17 (j22.back hF18 b22 hj)))))))))).cells
    obtain ⟨p0, p1, p2, p3⟩ := HPC.out W' (Jmp.low (j2.back hF0 b2 (j4.back hF3 b4 (j7.back hF5 b7 (j9.back hF8 b9 (j14.back hF10 b14 (j15.back hF15 b15 (j17.back hF16 b17 (j22.back hF18 b22 hj)))))))))
    clear hj
    go_simp
    try with_reducible rfl
  simp only [Act.put, List.setIfInBounds_toArray, List.set_cons_zero, List.set_cons_succ]
  refine wpJ_takeL (i := 38) (v := ?_) rfl (by kernel_rfl) (by kernel_rfl) (by kernel_rfl) (fun _ _ _ h => h) hF23 (Or.inl ⟨by rfl, ?_⟩) ?_
  rotate_left
  focus
    intro W' hj
    obtain ⟨c0, c1, c2', c3, c4, c5, c6, c7⟩ := (HA3.out.call (Jmp.low (j2.back hF0 b2 (j4.back hF3 b4 (j7.back hF5 b7 (j9.back hF8 b9 (j14.back hF10 b14 (j15.back hF15 b15 (j17.back hF16 b17 (j22.back hF18 b22 hj)))))))))).cells
    obtain ⟨p0, p1, p2, p3⟩ := HPC.out W' (Jmp.low (j2.back hF0 b2 (j4.back hF3 b4 (j7.back hF5 b7 (j9.back hF8 b9 (j14.back hF10 b14 (j15.back hF15 b15 (j17.back hF16 b17 (j22.back hF18 b22 hj)))))))))
    clear hj
    go_simp
    try with_reducible rfl
  simp only [Act.put, List.setIfInBounds_toArray, List.set_cons_zero, List.set_cons_succ]
  refine wpJ_callL (i := 39) (by kernel_rfl) rfl fun v39 j39 K39 k39 => ?_
  go_wp2_with fail
  refine (size_val fp 12 0 (some ⟨pb, po, none⟩) 2 cp v39 4 fp_size (by decide) (lt_call HI3.out (Jmp.low (j2.back hF0 b2 (j4.back hF3 b4 (j7.back hF5 b7 (j9.back hF8 b9 (j14.back hF10 b14 (j15.back hF15 b15 (j17.back hF16 b17 (j22.back hF18 b22 j39))))))))))).mono ?_
  rintro e39 w39 ⟨rfl, b39⟩
  go_wp2_with fail
  refine k39.out _ _ b39 ?_
  clear k39
  have hF40 := grow_F (j39.grow hF23) b39.size
  refine wpJ_takeL (i := 40) (v := ?_) rfl (by kernel_rfl) (by kernel_rfl) (by kernel_rfl) (fun _ _ _ h => h) hF40 (Or.inl ⟨by rfl, ?_⟩) ?_
  rotate_left
  focus
    intro W' hj
    obtain ⟨c0, c1, c2', c3, c4, c5, c6, c7⟩ := (HA3.out.call (Jmp.low (j2.back hF0 b2 (j4.back hF3 b4 (j7.back hF5 b7 (j9.back hF8 b9 (j14.back hF10 b14 (j15.back hF15 b15 (j17.back hF16 b17 (j22.back hF18 b22 (j39.back hF23 b39 hj))))))))))).cells
    obtain ⟨p0, p1, p2, p3⟩ := HPC.out W' (Jmp.low (j2.back hF0 b2 (j4.back hF3 b4 (j7.back hF5 b7 (j9.back hF8 b9 (j14.back hF10 b14 (j15.back hF15 b15 (j17.back hF16 b17 (j22.back hF18 b22 (j39.back hF23 b39 hj))))))))))
    clear hj
    go_simp
    try with_reducible rfl
  simp only [Act.put, List.setIfInBounds_toArray, List.set_cons_zero, List.set_cons_succ]
  refine wpJ_takeL (i := 41) (v := ?_) rfl (by kernel_rfl) (by kernel_rfl) (by kernel_rfl) (fun _ _ _ h => h) hF40 (Or.inl ⟨by rfl, ?_⟩) ?_
  rotate_left
  focus
    intro W' hj
    obtain ⟨c0, c1, c2', c3, c4, c5, c6, c7⟩ := (HA3.out.call (Jmp.low (j2.back hF0 b2 (j4.back hF3 b4 (j7.back hF5 b7 (j9.back hF8 b9 (j14.back hF10 b14 (j15.back hF15 b15 (j17.back hF16 b17 (j22.back hF18 b22 (j39.back hF23 b39 hj))))))))))).cells
    obtain ⟨p0, p1, p2, p3⟩ := HPC.out W' (Jmp.low (j2.back hF0 b2 (j4.back hF3 b4 (j7.back hF5 b7 (j9.back hF8 b9 (j14.back hF10 b14 (j15.back hF15 b15 (j17.back hF16 b17 (j22.back hF18 b22 (j39.back hF23 b39 hj))))))))))
    clear hj
    go_simp
    try with_reducible rfl
  simp only [Act.put, List.setIfInBounds_toArray, List.set_cons_zero, List.set_cons_succ]
  refine wpJ_takeL (i := 42) (v := ?_) rfl (by kernel_rfl) (by kernel_rfl) (by kernel_rfl) (fun _ _ _ h => h) hF40 (Or.inl ⟨by rfl, ?_⟩) ?_
  rotate_left
  focus
    intro W' hj
    obtain ⟨c0, c1, c2', c3, c4, c5, c6, c7⟩ := (HA3.out.call (Jmp.low (j2.back hF0 b2 (j4.back hF3 b4 (j7.back hF5 b7 (j9.back hF8 b9 (j14.back hF10 b14 (j15.back hF15 b15 (j17.back hF16 b17 (j22.back hF18 b22 (j39.back hF23 b39 hj))))))))))).cells
    obtain ⟨p0, p1, p2, p3⟩ := HPC.out W' (Jmp.low (j2.back hF0 b2 (j4.back hF3 b4 (j7.back hF5 b7 (j9.back hF8 b9 (j14.back hF10 b14 (j15.back hF15 b15 (j17.back hF16 b17 (j22.back hF18 b22 (j39.back hF23 b39 hj))))))))))
    clear hj
    go_simp
    try with_reducible rfl
  simp only [Act.put, List.setIfInBounds_toArray, List.set_cons_zero, List.set_cons_succ]
  refine wpJ_takeL (i := 43) (v := ?_) rfl (by kernel_rfl) (by kernel_rfl) (by kernel_rfl) (fun _ _ _ h => h) hF40 (Or.inl ⟨by rfl, ?_⟩) ?_
  rotate_left
  focus
    intro W' hj
    obtain ⟨c0, c1, c2', c3, c4, c5, c6, c7⟩ := (HA3.out.call (Jmp.low (j2.back hF0 b2 (j4.back hF3 b4 (j7.back hF5 b7 (j9.back hF8 b9 (j14.back hF10 b14 (j15.back hF15 b15 (j17.back hF16 b17 (j22.back hF18 b22 (j39.back hF23 b39 hj))))))))))).cells
    obtain ⟨p0, p1, p2, p3⟩ := HPC.out W' (Jmp.low (j2.back hF0 b2 (j4.back hF3 b4 (j7.back hF5 b7 (j9.back hF8 b9 (j14.back hF10 b14 (j15.back hF15 b15 (j17.back hF16 b17 (j22.back hF18 b22 (j39.back hF23 b39 hj))))))))))
    clear hj
    go_simp
    try with_reducible rfl
  simp only [Act.put, List.setIfInBounds_toArray, List.set_cons_zero, List.set_cons_succ]
  refine wpJ_takeL (i := 44) (v := ?_) rfl (by kernel_rfl) (by kernel_rfl) (by kernel_rfl) (fun _ _ _ h => h) hF40 (Or.inl ⟨by rfl, ?_⟩) ?_
  rotate_left
  focus
    intro W' hj
    obtain ⟨c0, c1, c2', c3, c4, c5, c6, c7⟩ := (HA3.out.call (Jmp.low (j2.back hF0 b2 (j4.back hF3 b4 (j7.back hF5 b7 (j9.back hF8 b9 (j14.back hF10 b14 (j15.back hF15 b15 (j17.back hF16 b17 (j22.back hF18 b22 (j39.back hF23 b39 hj))))))))))).cells
    obtain ⟨p0, p1, p2, p3⟩ := HPC.out W' (Jmp.low (j2.back hF0 b2 (j4.back hF3 b4 (j7.back hF5 b7 (j9.back hF8 b9 (j14.back hF10 b14 (j15.back hF15 b15 (j17.back hF16 b17 (j22.back hF18 b22 (j39.back hF23 b39 hj))))))))))
    clear hj
    go_simp
    try with_reducible rfl
  simp only [Act.put, List.setIfInBounds_toArray, List.set_cons_zero, List.set_cons_succ]
  refine wpJ_callL (i := 45) (by kernel_rfl) rfl fun v45 j45 K45 k45 => ?_
  go_wp2_with fail
  refine (same_val fp fp 12 0 (some ⟨pb, po, none⟩) 2 cp 12 0 (some ⟨pb, po, none⟩) 2 cp v45 true fp_same (lt_call HI3.out (Jmp.low (j2.back hF0 b2 (j4.back hF3 b4 (j7.back hF5 b7 (j9.back hF8 b9 (j14.back hF10 b14 (j15.back hF15 b15 (j17.back hF16 b17 (j22.back hF18 b22 (j39.back hF23 b39 j45))))))))))) (lt_call HI3.out (Jmp.low (j2.back hF0 b2 (j4.back hF3 b4 (j7.back hF5 b7 (j9.back hF8 b9 (j14.back hF10 b14 (j15.back hF15 b15 (j17.back hF16 b17 (j22.back hF18 b22 (j39.back hF23 b39 j45)))))))))))).mono ?_
  rintro e45 w45 ⟨rfl, b45⟩
  go_wp2_with fail
  refine k45.out _ _ b45 ?_
  clear k45
  have hF46 := grow_F (j45.grow hF40) b45.size
  refine wpJ_takeL (i := 46) (v := ?_) rfl (by kernel_rfl) (by kernel_rfl) (by kernel_rfl) (fun _ _ _ h => h) hF46 (Or.inl ⟨by rfl, ?_⟩) ?_
  rotate_left
  focus
    intro W' hj
    obtain ⟨c0, c1, c2', c3, c4, c5, c6, c7⟩ := (HA3.out.call (Jmp.low (j2.back hF0 b2 (j4.back hF3 b4 (j7.back hF5 b7 (j9.back hF8 b9 (j14.back hF10 b14 (j15.back hF15 b15 (j17.back hF16 b17 (j22.back hF18 b22 (j39.back hF23 b39 (j45.back hF40 b45 hj)))))))))))).cells
    obtain ⟨p0, p1, p2, p3⟩ := HPC.out W' (Jmp.low (j2.back hF0 b2 (j4.back hF3 b4 (j7.back hF5 b7 (j9.back hF8 b9 (j14.back hF10 b14 (j15.back hF15 b15 (j17.back hF16 b17 (j22.back hF18 b22 (j39.back hF23 b39 (j45.back hF40 b45 hj)))))))))))
    clear hj
    go_simp
    try with_reducible rfl
  simp only [Act.put, List.setIfInBounds_toArray, List.set_cons_zero, List.set_cons_succ]
  refine wpJ_takeL (i := 47) (v := ?_) rfl (by kernel_rfl) (by kernel_rfl) (by kernel_rfl) (fun _ _ _ h => h) hF46 (Or.inl ⟨by rfl, ?_⟩) ?_
  rotate_left
  focus
    intro W' hj
    obtain ⟨c0, c1, c2', c3, c4, c5, c6, c7⟩ := (HA3.out.call (Jmp.low (j2.back hF0 b2 (j4.back hF3 b4 (j7.back hF5 b7 (j9.back hF8 b9 (j14.back hF10 b14 (j15.back hF15 b15 (j17.back hF16 b17 (j22.back hF18 b22 (j39.back hF23 b39 (j45.back hF40 b45 hj)))))))))))).cells
    obtain ⟨p0, p1, p2, p3⟩ := HPC.out W' (Jmp.low (j2.back hF0 b2 (j4.back hF3 b4 (j7.back hF5 b7 (j9.back hF8 b9 (j14.back hF10 b14 (j15.back hF15 b15 (j17.back hF16 b17 (j22.back hF18 b22 (j39.back hF23 b39 (j45.back hF40 b45 hj)))))))))))
    clear hj
    go_simp
    try with_reducible rfl
  simp only [Act.put, List.setIfInBounds_toArray, List.set_cons_zero, List.set_cons_succ]
  refine wpJ_takeL (i := 48) (v := ?_) rfl (by kernel_rfl) (by kernel_rfl) (by kernel_rfl) (fun _ _ _ h => h) hF46 (Or.inl ⟨by rfl, ?_⟩) ?_
  rotate_left
  focus
    intro W' hj
    obtain ⟨c0, c1, c2', c3, c4, c5, c6, c7⟩ := (HA3.out.call (Jmp.low (j2.back hF0 b2 (j4.back hF3 b4 (j7.back hF5 b7 (j9.back hF8 b9 (j14.back hF10 b14 (j15.back hF15 b15 (j17.back hF16 b17 (j22.back hF18 b22 (j39.back hF23 b39 (j45.back hF40 b45 hj)))))))))))).cells
    obtain ⟨p0, p1, p2, p3⟩ := HPC.out W' (Jmp.low (j2.back hF0 b2 (j4.back hF3 b4 (j7.back hF5 b7 (j9.back hF8 b9 (j14.back hF10 b14 (j15.back hF15 b15 (j17.back hF16 b17 (j22.back hF18 b22 (j39.back hF23 b39 (j45.back hF40 b45 hj)))))))))))
    clear hj
    go_simp
    try with_reducible rfl
  simp only [Act.put, List.setIfInBounds_toArray, List.set_cons_zero, List.set_cons_succ]
  refine wpJ_takeL (i := 49) (v := ?_) rfl (by kernel_rfl) (by kernel_rfl) (by kernel_rfl) (fun _ _ _ h => h) hF46 (Or.inl ⟨by rfl, ?_⟩) ?_
  rotate_left
  focus
    intro W' hj
    obtain ⟨c0, c1, c2', c3, c4, c5, c6, c7⟩ := (HA3.out.call (Jmp.low (j2.back hF0 b2 (j4.back hF3 b4 (j7.back hF5 b7 (j9.back hF8 b9 (j14.back hF10 b14 (j15.back hF15 b15 (j17.back hF16 b17 (j22.back hF18 b22 (j39.back hF23 b39 (j45.back hF40 b45 hj)))))))))))).cells
    obtain ⟨p0, p1, p2, p3⟩ := HPC.out W' (Jmp.low (j2.back hF0 b2 (j4.back hF3 b4 (j7.back hF5 b7 (j9.back hF8 b9 (j14.back hF10 b14 (j15.back hF15 b15 (j17.back hF16 b17 (j22.back hF18 b22 (j39.back hF23 b39 (j45.back hF40 b45 hj)))))))))))
    clear hj
    go_simp
    try with_reducible rfl
  simp only [Act.put, List.setIfInBounds_toArray, List.set_cons_zero, List.set_cons_succ]
  refine wpJ_callL (i := 50) (by kernel_rfl) rfl fun v50 j50 K50 k50 => ?_
  go_wp2_with fail
  refine (same_val fa fb 2 0 none 0 0 2 1 none 0 0 v50 false fab_same (leaf_is _ _ _ _) (leaf_is _ _ _ _)).mono ?_
  rintro e50 w50 ⟨rfl, b50⟩
  go_wp2_with fail
  refine k50.out _ _ b50 ?_
  clear k50
  have hF51 := grow_F (j50.grow hF46) b50.size
  refine wpJ_takeL (i := 51) (v := ?_) rfl (by kernel_rfl) (by kernel_rfl) (by kernel_rfl) (fun _ _ _ h => h) hF51 (Or.inl ⟨by rfl, ?_⟩) ?_
  rotate_left
  focus
    intro W' hj
    obtain ⟨c0, c1, c2', c3, c4, c5, c6, c7⟩ := (HA3.out.call (Jmp.low (j2.back hF0 b2 (j4.back hF3 b4 (j7.back hF5 b7 (j9.back hF8 b9 (j14.back hF10 b14 (j15.back hF15 b15 (j17.back hF16 b17 (j22.back hF18 b22 (j39.back hF23 b39 (j45.back hF40 b45 (j50.back hF46 b50 hj))))))))))))).cells
    obtain ⟨p0, p1, p2, p3⟩ := HPC.out W' (Jmp.low (j2.back hF0 b2 (j4.back hF3 b4 (j7.back hF5 b7 (j9.back hF8 b9 (j14.back hF10 b14 (j15.back hF15 b15 (j17.back hF16 b17 (j22.back hF18 b22 (j39.back hF23 b39 (j45.back hF40 b45 (j50.back hF46 b50 hj))))))))))))
    clear hj
    go_simp
    try with_reducible rfl
  simp only [Act.put, List.setIfInBounds_toArray, List.set_cons_zero, List.set_cons_succ]
  refine wpJ_takeL (i := 52) (v := ?_) rfl (by kernel_rfl) (by kernel_rfl) (by kernel_rfl) (fun _ _ _ h => h) hF51 (Or.inl ⟨by rfl, ?_⟩) ?_
  rotate_left
  focus
    intro W' hj
    obtain ⟨c0, c1, c2', c3, c4, c5, c6, c7⟩ := (HA3.out.call (Jmp.low (j2.back hF0 b2 (j4.back hF3 b4 (j7.back hF5 b7 (j9.back hF8 b9 (j14.back hF10 b14 (j15.back hF15 b15 (j17.back hF16 b17 (j22.back hF18 b22 (j39.back hF23 b39 (j45.back hF40 b45 (j50.back hF46 b50 hj))))))))))))).cells
    obtain ⟨p0, p1, p2, p3⟩ := HPC.out W' (Jmp.low (j2.back hF0 b2 (j4.back hF3 b4 (j7.back hF5 b7 (j9.back hF8 b9 (j14.back hF10 b14 (j15.back hF15 b15 (j17.back hF16 b17 (j22.back hF18 b22 (j39.back hF23 b39 (j45.back hF40 b45 (j50.back hF46 b50 hj))))))))))))
    clear hj
    go_simp
    try with_reducible rfl
  simp only [Act.put, List.setIfInBounds_toArray, List.set_cons_zero, List.set_cons_succ]
  refine wpJ_takeL (i := 53) (v := ?_) rfl (by kernel_rfl) (by kernel_rfl) (by kernel_rfl) (fun _ _ _ h => h) hF51 (Or.inl ⟨by rfl, ?_⟩) ?_
  rotate_left
  focus
    intro W' hj
    obtain ⟨c0, c1, c2', c3, c4, c5, c6, c7⟩ := (HA3.out.call (Jmp.low (j2.back hF0 b2 (j4.back hF3 b4 (j7.back hF5 b7 (j9.back hF8 b9 (j14.back hF10 b14 (j15.back hF15 b15 (j17.back hF16 b17 (j22.back hF18 b22 (j39.back hF23 b39 (j45.back hF40 b45 (j50.back hF46 b50 hj))))))))))))).cells
    obtain ⟨p0, p1, p2, p3⟩ := HPC.out W' (Jmp.low (j2.back hF0 b2 (j4.back hF3 b4 (j7.back hF5 b7 (j9.back hF8 b9 (j14.back hF10 b14 (j15.back hF15 b15 (j17.back hF16 b17 (j22.back hF18 b22 (j39.back hF23 b39 (j45.back hF40 b45 (j50.back hF46 b50 hj))))))))))))
    clear hj
    go_simp
    try with_reducible rfl
  simp only [Act.put, List.setIfInBounds_toArray, List.set_cons_zero, List.set_cons_succ]
  refine wpJ_takeL (i := 54) (v := ?_) rfl (by kernel_rfl) (by kernel_rfl) (by kernel_rfl) (fun _ _ _ h => h) hF51 (Or.inl ⟨by rfl, ?_⟩) ?_
  rotate_left
  focus
    intro W' hj
    obtain ⟨c0, c1, c2', c3, c4, c5, c6, c7⟩ := (HA3.out.call (Jmp.low (j2.back hF0 b2 (j4.back hF3 b4 (j7.back hF5 b7 (j9.back hF8 b9 (j14.back hF10 b14 (j15.back hF15 b15 (j17.back hF16 b17 (j22.back hF18 b22 (j39.back hF23 b39 (j45.back hF40 b45 (j50.back hF46 b50 hj))))))))))))).cells
    obtain ⟨p0, p1, p2, p3⟩ := HPC.out W' (Jmp.low (j2.back hF0 b2 (j4.back hF3 b4 (j7.back hF5 b7 (j9.back hF8 b9 (j14.back hF10 b14 (j15.back hF15 b15 (j17.back hF16 b17 (j22.back hF18 b22 (j39.back hF23 b39 (j45.back hF40 b45 (j50.back hF46 b50 hj))))))))))))
    clear hj
    go_simp
    try with_reducible rfl
  simp only [Act.put, List.setIfInBounds_toArray, List.set_cons_zero, List.set_cons_succ]
  refine wpJ_callL (i := 55) (by kernel_rfl) rfl fun v55 j55 K55 k55 => ?_
  go_wp2_with fail
  refine (shift_len v55 U V (HA3.out.call (Jmp.low (j2.back hF0 b2 (j4.back hF3 b4 (j7.back hF5 b7 (j9.back hF8 b9 (j14.back hF10 b14 (j15.back hF15 b15 (j17.back hF16 b17 (j22.back hF18 b22 (j39.back hF23 b39 (j45.back hF40 b45 (j50.back hF46 b50 j55))))))))))))).wd).mono ?_
  rintro e55 w55 ⟨A55, c55, B55, d55, rfl, b55⟩
  go_wp2_with fail
  refine k55.out _ _ b55 ?_
  clear k55
  have hF56 := grow_F (j55.grow hF51) b55.size
  refine wpJ_takeL (i := 56) (v := ?_) rfl (by kernel_rfl) (by kernel_rfl) (by kernel_rfl) (fun _ _ _ h => h) hF56 (Or.inl ⟨by rfl, ?_⟩) ?_
  rotate_left
  focus
    intro W' hj
    obtain ⟨c0, c1, c2', c3, c4, c5, c6, c7⟩ := (HA3.out.call (Jmp.low (j2.back hF0 b2 (j4.back hF3 b4 (j7.back hF5 b7 (j9.back hF8 b9 (j14.back hF10 b14 (j15.back hF15 b15 (j17.back hF16 b17 (j22.back hF18 b22 (j39.back hF23 b39 (j45.back hF40 b45 (j50.back hF46 b50 (j55.back hF51 b55 hj)))))))))))))).cells
    obtain ⟨p0, p1, p2, p3⟩ := HPC.out W' (Jmp.low (j2.back hF0 b2 (j4.back hF3 b4 (j7.back hF5 b7 (j9.back hF8 b9 (j14.back hF10 b14 (j15.back hF15 b15 (j17.back hF16 b17 (j22.back hF18 b22 (j39.back hF23 b39 (j45.back hF40 b45 (j50.back hF46 b50 (j55.back hF51 b55 hj)))))))))))))
    clear hj
    go_simp
    try with_reducible rfl
  simp only [Act.put, List.setIfInBounds_toArray, List.set_cons_zero, List.set_cons_succ]
  refine wpJ_takeL (i := 57) (v := ?_) rfl (by kernel_rfl) (by kernel_rfl) (by kernel_rfl) (fun _ _ _ h => h) hF56 (Or.inl ⟨by rfl, ?_⟩) ?_
  rotate_left
  focus
    intro W' hj
    obtain ⟨c0, c1, c2', c3, c4, c5, c6, c7⟩ := (HA3.out.call (Jmp.low (j2.back hF0 b2 (j4.back hF3 b4 (j7.back hF5 b7 (j9.back hF8 b9 (j14.back hF10 b14 (j15.back hF15 b15 (j17.back hF16 b17 (j22.back hF18 b22 (j39.back hF23 b39 (j45.back hF40 b45 (j50.back hF46 b50 (j55.back hF51 b55 hj)))))))))))))).cells
    obtain ⟨p0, p1, p2, p3⟩ := HPC.out W' (Jmp.low (j2.back hF0 b2 (j4.back hF3 b4 (j7.back hF5 b7 (j9.back hF8 b9 (j14.back hF10 b14 (j15.back hF15 b15 (j17.back hF16 b17 (j22.back hF18 b22 (j39.back hF23 b39 (j45.back hF40 b45 (j50.back hF46 b50 (j55.back hF51 b55 hj)))))))))))))
    clear hj
    go_simp
    try with_reducible rfl
  simp only [Act.put, List.setIfInBounds_toArray, List.set_cons_zero, List.set_cons_succ]
  refine wpJ_takeL (i := 58) (v := ?_) rfl (by kernel_rfl) (by kernel_rfl) (by kernel_rfl) (fun _ _ _ h => h) hF56 (Or.inl ⟨by rfl, ?_⟩) ?_
  rotate_left
  focus
    intro W' hj
    obtain ⟨c0, c1, c2', c3, c4, c5, c6, c7⟩ := (HA3.out.call (Jmp.low (j2.back hF0 b2 (j4.back hF3 b4 (j7.back hF5 b7 (j9.back hF8 b9 (j14.back hF10 b14 (j15.back hF15 b15 (j17.back hF16 b17 (j22.back hF18 b22 (j39.back hF23 b39 (j45.back hF40 b45 (j50.back hF46 b50 (j55.back hF51 b55 hj)))))))))))))).cells
    obtain ⟨p0, p1, p2, p3⟩ := HPC.out W' (Jmp.low (j2.back hF0 b2 (j4.back hF3 b4 (j7.back hF5 b7 (j9.back hF8 b9 (j14.back hF10 b14 (j15.back hF15 b15 (j17.back hF16 b17 (j22.back hF18 b22 (j39.back hF23 b39 (j45.back hF40 b45 (j50.back hF46 b50 (j55.back hF51 b55 hj)))))))))))))
    clear hj
    go_simp
    try with_reducible rfl
  simp only [Act.put, List.setIfInBounds_toArray, List.set_cons_zero, List.set_cons_succ]
  refine wpJ_takeL (i := 59) (v := ?_) rfl (by kernel_rfl) (by kernel_rfl) (by kernel_rfl) (fun _ _ _ h => h) hF56 (Or.inl ⟨by rfl, ?_⟩) ?_
  rotate_left
  focus
    intro W' hj
    obtain ⟨c0, c1, c2', c3, c4, c5, c6, c7⟩ := (HA3.out.call (Jmp.low (j2.back hF0 b2 (j4.back hF3 b4 (j7.back hF5 b7 (j9.back hF8 b9 (j14.back hF10 b14 (j15.back hF15 b15 (j17.back hF16 b17 (j22.back hF18 b22 (j39.back hF23 b39 (j45.back hF40 b45 (j50.back hF46 b50 (j55.back hF51 b55 hj)))))))))))))).cells
    obtain ⟨p0, p1, p2, p3⟩ := HPC.out W' (Jmp.low (j2.back hF0 b2 (j4.back hF3 b4 (j7.back hF5 b7 (j9.back hF8 b9 (j14.back hF10 b14 (j15.back hF15 b15 (j17.back hF16 b17 (j22.back hF18 b22 (j39.back hF23 b39 (j45.back hF40 b45 (j50.back hF46 b50 (j55.back hF51 b55 hj)))))))))))))
    clear hj
    go_simp
    try with_reducible rfl
  simp only [Act.put, List.setIfInBounds_toArray, List.set_cons_zero, List.set_cons_succ]
  refine wpJ_takeL (i := 60) (v := ?_) rfl (by kernel_rfl) (by kernel_rfl) (by kernel_rfl) (fun _ _ _ h => h) hF56 (Or.inl ⟨by rfl, ?_⟩) ?_
  rotate_left
  focus
    intro W' hj
    obtain ⟨c0, c1, c2', c3, c4, c5, c6, c7⟩ := (HA3.out.call (Jmp.low (j2.back hF0 b2 (j4.back hF3 b4 (j7.back hF5 b7 (j9.back hF8 b9 (j14.back hF10 b14 (j15.back hF15 b15 (j17.back hF16 b17 (j22.back hF18 b22 (j39.back hF23 b39 (j45.back hF40 b45 (j50.back hF46 b50 (j55.back hF51 b55 hj)))))))))))))).cells
    obtain ⟨p0, p1, p2, p3⟩ := HPC.out W' (Jmp.low (j2.back hF0 b2 (j4.back hF3 b4 (j7.back hF5 b7 (j9.back hF8 b9 (j14.back hF10 b14 (j15.back hF15 b15 (j17.back hF16 b17 (j22.back hF18 b22 (j39.back hF23 b39 (j45.back hF40 b45 (j50.back hF46 b50 (j55.back hF51 b55 hj)))))))))))))
    clear hj
    go_simp
    try with_reducible rfl
  simp only [Act.put, List.setIfInBounds_toArray, List.set_cons_zero, List.set_cons_succ]
  refine wpJ_takeL (i := 61) (v := ?_) rfl (by kernel_rfl) (by kernel_rfl) (by kernel_rfl) (fun _ _ _ h => h) hF56 (Or.inl ⟨by rfl, ?_⟩) ?_
  rotate_left
  focus
    intro W' hj
    obtain ⟨c0, c1, c2', c3, c4, c5, c6, c7⟩ := (HA3.out.call (Jmp.low (j2.back hF0 b2 (j4.back hF3 b4 (j7.back hF5 b7 (j9.back hF8 b9 (j14.back hF10 b14 (j15.back hF15 b15 (j17.back hF16 b17 (j22.back hF18 b22 (j39.back hF23 b39 (j45.back hF40 b45 (j50.back hF46 b50 (j55.back hF51 b55 hj)))))))))))))).cells
    obtain ⟨p0, p1, p2, p3⟩ := HPC.out W' (Jmp.low (j2.back hF0 b2 (j4.back hF3 b4 (j7.back hF5 b7 (j9.back hF8 b9 (j14.back hF10 b14 (j15.back hF15 b15 (j17.back hF16 b17 (j22.back hF18 b22 (j39.back hF23 b39 (j45.back hF40 b45 (j50.back hF46 b50 (j55.back hF51 b55 hj)))))))))))))
    clear hj
    go_simp
    try with_reducible rfl
  simp only [Act.put, List.setIfInBounds_toArray, List.set_cons_zero, List.set_cons_succ]
  refine wpJ_callL (i := 62) (by kernel_rfl) rfl fun v62 j62 K62 k62 => ?_
  go_wp2_with fail
  refine (unroll_len v62 U V (HA3.out.call (Jmp.low (j2.back hF0 b2 (j4.back hF3 b4 (j7.back hF5 b7 (j9.back hF8 b9 (j14.back hF10 b14 (j15.back hF15 b15 (j17.back hF16 b17 (j22.back hF18 b22 (j39.back hF23 b39 (j45.back hF40 b45 (j50.back hF46 b50 (j55.back hF51 b55 j62)))))))))))))).wd).mono ?_
  rintro e62 w62 ⟨A62, c62, B62, d62, rfl, b62⟩
  go_wp2_with fail
  refine k62.out _ _ b62 ?_
  clear k62
  have hF63 := grow_F (j62.grow hF56) b62.size
  refine wpJ_takeL (i := 63) (v := ?_) rfl (by kernel_rfl) (by kernel_rfl) (by kernel_rfl) (fun _ _ _ h => h) hF63 (Or.inl ⟨by rfl, ?_⟩) ?_
  rotate_left
  focus
    intro W' hj
    obtain ⟨c0, c1, c2', c3, c4, c5, c6, c7⟩ := (HA3.out.call (Jmp.low (j2.back hF0 b2 (j4.back hF3 b4 (j7.back hF5 b7 (j9.back hF8 b9 (j14.back hF10 b14 (j15.back hF15 b15 (j17.back hF16 b17 (j22.back hF18 b22 (j39.back hF23 b39 (j45.back hF40 b45 (j50.back hF46 b50 (j55.back hF51 b55 (j62.back hF56 b62 hj))))))))))))))).cells
    obtain ⟨p0, p1, p2, p3⟩ := HPC.out W' (Jmp.low (j2.back hF0 b2 (j4.back hF3 b4 (j7.back hF5 b7 (j9.back hF8 b9 (j14.back hF10 b14 (j15.back hF15 b15 (j17.back hF16 b17 (j22.back hF18 b22 (j39.back hF23 b39 (j45.back hF40 b45 (j50.back hF46 b50 (j55.back hF51 b55 (j62.back hF56 b62 hj))))))))))))))
    clear hj
    go_simp
    try with_reducible rfl
  simp only [Act.put, List.setIfInBounds_toArray, List.set_cons_zero, List.set_cons_succ]
  refine wpJ_takeL (i := 64) (v := ?_) rfl (by kernel_rfl) (by kernel_rfl) (by kernel_rfl) (fun _ _ _ h => h) hF63 (Or.inl ⟨by rfl, ?_⟩) ?_
  rotate_left
  focus
    intro W' hj
    obtain ⟨c0, c1, c2', c3, c4, c5, c6, c7⟩ := (HA3.out.call (Jmp.low (j2.back hF0 b2 (j4.back hF3 b4 (j7.back hF5 b7 (j9.back hF8 b9 (j14.back hF10 b14 (j15.back hF15 b15 (j17.back hF16 b17 (j22.back hF18 b22 (j39.back hF23 b39 (j45.back hF40 b45 (j50.back hF46 b50 (j55.back hF51 b55 (j62.back hF56 b62 hj))))))))))))))).cells
    obtain ⟨p0, p1, p2, p3⟩ := HPC.out W' (Jmp.low (j2.back hF0 b2 (j4.back hF3 b4 (j7.back hF5 b7 (j9.back hF8 b9 (j14.back hF10 b14 (j15.back hF15 b15 (j17.back hF16 b17 (j22.back hF18 b22 (j39.back hF23 b39 (j45.back hF40 b45 (j50.back hF46 b50 (j55.back hF51 b55 (j62.back hF56 b62 hj))))))))))))))
    clear hj
    go_simp
    try with_reducible rfl
  simp only [Act.put, List.setIfInBounds_toArray, List.set_cons_zero, List.set_cons_succ]
  refine wpJ_takeL (i := 65) (v := ?_) rfl (by kernel_rfl) (by kernel_rfl) (by kernel_rfl) (fun _ _ _ h => h) hF63 (Or.inl ⟨by rfl, ?_⟩) ?_
  rotate_left
  focus
    intro W' hj
    obtain ⟨c0, c1, c2', c3, c4, c5, c6, c7⟩ := (HA3.out.call (Jmp.low (j2.back hF0 b2 (j4.back hF3 b4 (j7.back hF5 b7 (j9.back hF8 b9 (j14.back hF10 b14 (j15.back hF15 b15 (j17.back hF16 b17 (j22.back hF18 b22 (j39.back hF23 b39 (j45.back hF40 b45 (j50.back hF46 b50 (j55.back hF51 b55 (j62.back hF56 b62 hj))))))))))))))).cells
    obtain ⟨p0, p1, p2, p3⟩ := HPC.out W' (Jmp.low (j2.back hF0 b2 (j4.back hF3 b4 (j7.back hF5 b7 (j9.back hF8 b9 (j14.back hF10 b14 (j15.back hF15 b15 (j17.back hF16 b17 (j22.back hF18 b22 (j39.back hF23 b39 (j45.back hF40 b45 (j50.back hF46 b50 (j55.back hF51 b55 (j62.back hF56 b62 hj))))))))))))))
    clear hj
    go_simp
    try with_reducible rfl
  simp only [Act.put, List.setIfInBounds_toArray, List.set_cons_zero, List.set_cons_succ]
  refine wpJ_takeL (i := 66) (v := ?_) rfl (by kernel_rfl) (by kernel_rfl) (by kernel_rfl) (fun _ _ _ h => h) hF63 (Or.inl ⟨by rfl, ?_⟩) ?_
  rotate_left
  focus
    intro W' hj
    obtain ⟨c0, c1, c2', c3, c4, c5, c6, c7⟩ := (HA3.out.call (Jmp.low (j2.back hF0 b2 (j4.back hF3 b4 (j7.back hF5 b7 (j9.back hF8 b9 (j14.back hF10 b14 (j15.back hF15 b15 (j17.back hF16 b17 (j22.back hF18 b22 (j39.back hF23 b39 (j45.back hF40 b45 (j50.back hF46 b50 (j55.back hF51 b55 (j62.back hF56 b62 hj))))))))))))))).cells
    obtain ⟨p0, p1, p2, p3⟩ := HPC.out W' (Jmp.low (j2.back hF0 b2 (j4.back hF3 b4 (j7.back hF5 b7 (j9.back hF8 b9 (j14.back hF10 b14 (j15.back hF15 b15 (j17.back hF16 b17 (j22.back hF18 b22 (j39.back hF23 b39 (j45.back hF40 b45 (j50.back hF46 b50 (j55.back hF51 b55 (j62.back hF56 b62 hj))))))))))))))
    clear hj
    go_simp
    try with_reducible rfl
  simp only [Act.put, List.setIfInBounds_toArray, List.set_cons_zero, List.set_cons_succ]
  refine wpJ_end (by kernel_rfl) (fun wz jz => ?_) _
  have hz := below_call HA3.out.below (Jmp.low (j2.back hF0 b2 (j4.back hF3 b4 (j7.back hF5 b7 (j9.back hF8 b9 (j14.back hF10 b14 (j15.back hF15 b15 (j17.back hF16 b17 (j22.back hF18 b22 (j39.back hF23 b39 (j45.back hF40 b45 (j50.back hF46 b50 (j55.back hF51 b55 (j62.back hF56 b62 jz))))))))))))))
  refine ⟨by kernel_rfl, ?_⟩
  go_wp2
  go_ret
  exact ⟨rfl, hz⟩

end Go.Proofs.Ytedbjkjncfinnaa
