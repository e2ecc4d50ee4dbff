/-
  Layer 15: settle: the walk.
-/
import Derived.Test.YtedbjkjncfinnaaBack
import Derived.Test.YtedbjkjncfinnaaSettle
import Derived.ScopeJumps
import Derived.WalkMore
namespace Go.Proofs.Ytedbjkjncfinnaa
open Go.RowKit Go.Shelf
attribute [local go_sem] Oper.semAt_some

theorem backward_any (A : Option Addr) (n c : Nat) (w : World) :
    Calls Try.prog 94 #[.slice A n c] w fun e w' => e = .returned (.func (.func 99) #[] #[.pointer (some ⟨w.heap.size, 0, none⟩)]) ∧ w' = w.alloc (.cells #[.slice A n c] 58) := by
  go_enter Try.func94, Try.ntmps94
  go_wp2
  go_ret
  exact ⟨rfl, rfl⟩

theorem wp_scope_label {P : Program} {a : Act} {w : World} {Q : Exit → Act → World → Prop} {X : Code} (l : Nat) (J : Act → World → Prop) (μ : Act → World → Nat) (h : J a w)
    (pass : ∀ a w, J a w → X.wp P (Exit.jump l (fun a' w' => J a' w' ∧ μ a' w' < μ a w) Q) a w) : (Code.scope ((Code.label l).seq X)).wp P Q a w :=
  wp_scope_jumps l J μ (rest := Code.skip.seq X) (by simp [findLabel]) (wp_seq (wp_label (wp_mono (pass a w h) (by intro e a w h; cases e <;> first | exact h | exact ⟨h.1, h.2.1⟩)))) (fun a w hJ => wp_seq (wp_skip (pass a w hJ)))

def mark (D : Nat) : Deferred := { target := .collected D, args := #[] }
def bitAt (W : World) (b j : Nat) : Bool := match W.cell? ⟨b, j, none⟩ with | some (.bool v) => v | _ => false

theorem leaves_marks {F : Fence} {n : Nat} {P : Program} {fn : Func} {tmps : Array Value} {R : Ending → World → Prop} : ∀ (Ds : List Nat) (V : World), Ds.Nodup → (∀ D ∈ Ds, V.heap[D]? = some (.deferred (some []))) →
    (∀ V', (∀ q, q ∉ Ds → V'.heap[q]? = V.heap[q]?) → (∀ B, (∀ D ∈ Ds, B ≤ D) → Below B V V') → LeavesIn F n P fn tmps R [] .returning V') → LeavesInM F n P fn tmps R (Ds.map mark) .returning V
  | [], V, _, _, h => h V (fun _ _ => rfl) fun _ _ => Below.refl _ _
  | D :: Ds, V, hn, hd, h => by
    have hD := hd D (by simp)
    have hlt := (Array.getElem?_eq_some_iff.1 hD).1
    rw [List.nodup_cons] at hn
    refine ⟨by simp, .inl ⟨D, _, rfl, run_takeDeferred hD, leaves_marks Ds _ hn.2 (fun E hE => ?_) fun V' h1 h2 => h V' (fun q hq => ?_) fun B hB => ?_⟩⟩
    · have hne : E ≠ D := fun e => hn.1 (e ▸ hE)
      exact (World.putObj_heap_other hne).trans (hd E (by simp [hE]))
    · have hne : q ≠ D := fun e => hq (by simp [e])
      exact (h1 q (fun h => hq (by simp [h]))).trans (World.putObj_heap_other hne)
    · refine Below.trans ?_ (h2 B fun E hE => hB E (by simp [hE]))
      by_cases hB' : B ≤ V.heap.size
      · exact (Below.refl B V).grown (grownBy_putObj' V D _) hB' (fun k e => by cases e; exact hB D (by simp))
      · exact absurd (hB D (by simp)) (by omega)

/-- What settle's world holds between two steps. -/
structure Set_ (x : Wd) (A B : Option Addr) (c d : Nat) (f : Value) (base : Nat) (w0 : World) (b cap k : Nat) (o : Nat → Bool) (W : World) : Prop where
  bw : Blk W k 27 #[.slice A x.stem.length c, .slice B x.cycle.length d]
  bo : Blk W (k + 1) 58 #[.slice (some ⟨b, 0, none⟩) x.size cap]
  bi : Blk W (k + 1 + 1) 100 #[f]
  row : ∃ cur, Blk W b 4 cur ∧ cur.size = cap ∧ ∀ j, j < x.size → cur[j]? = some (.bool (o j))
  below : Below base w0 W
  lt : b < k

theorem Wd.next_lt (x : Wd) {i : Nat} (h0 : 0 < x.cycle.length) (hi : i < x.size) : x.next i < x.size := by
  unfold Wd.next
  unfold Wd.size at *
  split <;> omega
theorem wnext_nat (x : Wd) (A B : Option Addr) (c d : Nat) (i : Nat) (w : World) (hx : x.size ≤ 1000000000) (hi : i < x.size) :
    Calls Try.prog 64 #[.agg #[.slice A x.stem.length c, .slice B x.cycle.length d], .int .i64 (i : Int)] w fun e w' => e = .returned (.int .i64 (x.next i)) ∧ Below w.heap.size w w' :=
  wnext_any x A B c d (i : Int) w hx (by omega) (by omega)
theorem Blk.kept {V V' : World} {q B : Nat} {t : TypeId} {cs : Array Value} {row : Option Nat} (h : Blk V q t cs) (hg : V.grownBy V' row) (hr : ∀ r, row = some r → B ≤ r) (hq : q < B) : Blk V' q t cs := by
  obtain ⟨_, _, _, _, hb⟩ := hg
  exact (hb q h.lt (fun e => by have := hr q e.symm; omega)).trans h
theorem Set_.kept {x : Wd} {A B : Option Addr} {c d : Nat} {f : Value} {base : Nat} {w0 : World} {b cap k : Nat} {o : Nat → Bool} {V V' : World} {row : Option Nat} {E : Nat}
    (h : Set_ x A B c d f base w0 b cap k o V) (hg : V.grownBy V' row) (hr : ∀ r, row = some r → E ≤ r) (hE : k + 3 ≤ E) (hb : base ≤ b) : Set_ x A B c d f base w0 b cap k o V' := by
  have hl := h.lt
  have hk := h.bw.lt
  obtain ⟨cur, h1, h2, h3⟩ := h.row
  exact ⟨h.bw.kept hg hr (by omega), h.bo.kept hg hr (by omega), h.bi.kept hg hr (by omega), ⟨cur, h1.kept hg hr (by omega), h2, h3⟩, h.below.grown hg (by omega) (fun r e => by have := hr r e; omega), hl⟩
theorem Set_.call {x : Wd} {A B : Option Addr} {c d : Nat} {f : Value} {base : Nat} {w0 : World} {b cap k : Nat} {o : Nat → Bool} {V V' : World}
    (h : Set_ x A B c d f base w0 b cap k o V) (hV : Below V.heap.size V V') (hb : base ≤ b) : Set_ x A B c d f base w0 b cap k o V' := by
  have hk := h.bi.lt
  exact h.kept (row := none) (grown_of_below hV) (E := k + 3) (fun r e => by cases e) (by omega) hb
theorem Set_.far {x : Wd} {A B : Option Addr} {c d : Nat} {f : Value} {base : Nat} {w0 : World} {b cap k : Nat} {o : Nat → Bool} {V : World} {q i : Nat}
    (h : Set_ x A B c d f base w0 b cap k o V) (hq : k + 3 ≤ q) (hb : base ≤ b) (u : Value) : Set_ x A B c d f base w0 b cap k o (V.setCell ⟨q, i, none⟩ u) := by
  have hl := h.lt
  obtain ⟨cur, h1, h2, h3⟩ := h.row
  exact ⟨h.bw.far (p := ⟨q, i, none⟩) (by show k ≠ q; omega) u, h.bo.far (p := ⟨q, i, none⟩) (by show k + 1 ≠ q; omega) u, h.bi.far (p := ⟨q, i, none⟩) (by show k + 2 ≠ q; omega) u, ⟨cur, h1.far (p := ⟨q, i, none⟩) (by show b ≠ q; omega) u, h2, h3⟩, h.below.setCell (p := ⟨q, i, none⟩) (by show base ≤ q; omega) u, hl⟩
theorem Set_.put {x : Wd} {A B : Option Addr} {c d : Nat} {f : Value} {base : Nat} {w0 : World} {b cap k : Nat} {o : Nat → Bool} {V : World} {i : Nat}
    (h : Set_ x A B c d f base w0 b cap k o V) (hi : i < x.size) (hb : base ≤ b) (v : Bool) : Set_ x A B c d f base w0 b cap k (upd o i v) (V.setCell ⟨b, i, none⟩ (.bool v)) := by
  have hl := h.lt
  obtain ⟨cur, h1, h2, h3⟩ := h.row
  refine ⟨h.bw.far (p := ⟨b, i, none⟩) (by show k ≠ b; omega) _, h.bo.far (p := ⟨b, i, none⟩) (by show k + 1 ≠ b; omega) _, h.bi.far (p := ⟨b, i, none⟩) (by show k + 2 ≠ b; omega) _, ⟨_, h1.set_ i (.bool v), by simpa using h2, fun j hj => ?_⟩, h.below.setCell (p := ⟨b, i, none⟩) hb _, hl⟩
  rw [Array.getElem?_setIfInBounds]
  by_cases e : i = j
  · subst e
    have hs : i < cur.size := by
      have := h3 i hi
      exact (Array.getElem?_eq_some_iff.1 this).1
    rw [if_pos rfl, if_pos hs, upd_same]
  · rw [if_neg e, h3 j hj, upd_other _ _ (fun h => e h.symm)]
theorem Set_.at_ {x : Wd} {A B : Option Addr} {c d : Nat} {f : Value} {base : Nat} {w0 : World} {b cap k : Nat} {o : Nat → Bool} {V : World} {i : Nat}
    (h : Set_ x A B c d f base w0 b cap k o V) (hi : i < x.size) : V.cell? ⟨b, i, none⟩ = some (.bool (o i)) := by
  obtain ⟨cur, h1, h2, h3⟩ := h.row
  rw [h1.cell, h3 i hi]
theorem Set_.bits {x : Wd} {A B : Option Addr} {c d : Nat} {f : Value} {base : Nat} {w0 : World} {b cap k : Nat} {o : Nat → Bool} {V : World} (dd : Bool)
    (h : Set_ x A B c d f base w0 b cap k o V) : low dd (bitAt V b) x.size = low dd o x.size :=
  low_congr dd _ _ _ fun i hi => by unfold bitAt; rw [h.at_ hi]

def SetJ (x : Wd) (A B : Option Addr) (c d b cap k base : Nat) (g : FuncId) (capt : Array Value) (w : World) (P : Nat → Bool → Bool) (dd : Bool) : Act → World → Prop :=
  fun a W => ∃ (Ds : List Nat) (o : Nat → Bool) (u7 u8 u9 u10 u11 u12 u13 u14 u15 u16 u17 u18 u19 u20 u21 u22 u23 u24 u25 u26 u27 u28 u29 u30 u31 u32 u33 u34 : Value), a = { tmps := #[.agg #[.slice A x.stem.length c, .slice B x.cycle.length d], .slice (some ⟨b, 0, none⟩) x.size cap, .func (.func g) #[] capt, .pointer (some ⟨k, 0, none⟩), .pointer (some ⟨k + 1, 0, none⟩), .pointer (some ⟨k + 1 + 1, 0, none⟩), .slice none 0 0, u7, u8, u9, u10, u11, u12, u13, u14, u15, u16, u17, u18, u19, u20, u21, u22, u23, u24, u25, u26, u27, u28, u29, u30, u31, u32, u33, u34], defers := Ds.map mark } ∧
      Set_ x A B c d (.func (.func g) #[] capt) base w b cap k o W ∧ Rising dd x.size x.next P o ∧ Ds.Nodup ∧ ∀ D ∈ Ds, k ≤ D ∧ W.heap[D]? = some (.deferred (some []))

set_option maxRecDepth 100000 in
set_option maxHeartbeats 4000000 in
theorem settle_any (x : Wd) (A B : Option Addr) (c d b cap base : Nat) (g : FuncId) (capt : Array Value) (w : World) (o : Nat → Bool) (P : Nat → Bool → Bool) (dd : Bool)
    (hx : x.size ≤ 1000000000) (h0 : 0 < x.cycle.length) (hg : Enters Try.prog g)
    (hcl : ∀ wx, Below base w wx → ∀ i : Nat, i < x.size → ∀ v : Bool, Calls Try.prog g (#[.int .i64 i, .bool v] ++ capt) wx fun e w' => e = .returned (.bool (P i v)) ∧ Below wx.heap.size wx w')
    (hbase : base ≤ b) (hrow : ∃ cur, Blk w b 4 cur ∧ cur.size = cap ∧ ∀ j, j < x.size → cur[j]? = some (.bool (o j))) (hm : Mono dd x.size P) (hr : Rising dd x.size x.next P o) :
    Calls Try.prog 83 #[.agg #[.slice A x.stem.length c, .slice B x.cycle.length d], .slice (some ⟨b, 0, none⟩) x.size cap, .func (.func g) #[] capt] w fun e w' =>
      ∃ o', e = .returned (.slice (some ⟨b, 0, none⟩) x.size cap) ∧ Settled dd x.size x.next P o' ∧ (∃ cur, Blk w' b 4 cur ∧ cur.size = cap ∧ ∀ j, j < x.size → cur[j]? = some (.bool (o' j))) ∧ Below base w w' := by
  have hb : b < w.heap.size := by obtain ⟨cur, h, _⟩ := hrow; exact h.lt
  refine (callsIn_wide (n := 5)).1 ?_
  refine callsIn_of_wp_marks Try.func83 rfl trivial ?_ rfl
  simp only [Try.ntmps83, List.size_toArray, List.length_cons, List.length_nil, Nat.reduceAdd, Nat.reduceSub, Array.replicate_succ, Array.replicate_zero, List.push_toArray, List.append_toArray, List.nil_append, List.cons_append]
  refine wpIn_wide.2 ?_
  generalize hN : w.heap.size = k at *
  have HCL := Lib.hid hcl
  clear hcl
  unfold Try.f83
  go_wp2
  refine wp_scope_label 0 (SetJ x A B c d b cap k base g capt w P dd) (fun _ W => low dd (bitAt W b) x.size) ?first ?pass
  case first =>
    refine ⟨[], o, undef, undef, undef, undef, undef, undef, undef, undef, undef, undef, undef, undef, undef, undef, undef, undef, undef, undef, undef, undef, undef, undef, undef, undef, undef, undef, undef, undef, rfl, ?_, hr, List.nodup_nil, by simp⟩
    subst hN
    obtain ⟨cur, hr1, hr2, hr3⟩ := hrow
    refine ⟨((Blk.new w _ _).alloc _).alloc _, ?_, ?_, ⟨cur, ((hr1.alloc _).alloc _).alloc _, hr2, hr3⟩, ((((Below.refl base w).alloc (by omega) _).alloc (by simp; omega) _).alloc (by simp; omega) _), hb⟩
    · have := (Blk.new (w.alloc (.cells #[.slice A x.stem.length c, .slice B x.cycle.length d] 27)) 58 #[.slice (some ⟨b, 0, none⟩) x.size cap]).alloc (.cells #[.func (.func g) #[] capt] 100)
      rwa [World.size_alloc] at this
    · have := Blk.new ((w.alloc (.cells #[.slice A x.stem.length c, .slice B x.cycle.length d] 27)).alloc (.cells #[.slice (some ⟨b, 0, none⟩) x.size cap] 58)) 100 #[.func (.func g) #[] capt]
      rwa [World.size_alloc, World.size_alloc] at this
  case pass =>
    rintro a W ⟨Ds, o, u7, u8, u9, u10, u11, u12, u13, u14, u15, u16, u17, u18, u19, u20, u21, u22, u23, u24, u25, u26, u27, u28, u29, u30, u31, u32, u33, u34, rfl, hS, hR, hD, hDs⟩
    have hcw := hS.bw.cell 0
    have hcw1 := hS.bw.cell 1
    have hco := hS.bo.cell 0
    have hci := hS.bi.cell 0
    simp only [List.getElem?_toArray, List.getElem?_cons_zero, List.getElem?_cons_succ] at hcw hcw1 hco hci
    have hS' := Lib.hid hS
    have hlo := hS.bo.lt
    clear hS
    go_wp2_with (go_at_call 94; refine (backward_any _ _ _ _).mono ?_; rintro e w' ⟨rfl, rfl⟩)
    refine (wpIn_wide (n := 5)).1 ?_
    obtain ⟨W2, hW2⟩ : ∃ W2, (W.alloc (.cells #[.bool false] 4)).alloc (.cells #[.slice (some ⟨b, 0, none⟩) x.size cap] 58) = W2 := ⟨_, rfl⟩
    have hsz : W2.heap.size = W.heap.size + 2 := by rw [← hW2]; simp
    have hbW : Below W.heap.size W W2 := by rw [← hW2]; exact below_alloc (below_one _ _)
    have hS2 := hS'.out.call hbW hbase
    have hch : Blk W2 W.heap.size 4 #[.bool false] := by rw [← hW2]; exact (Blk.new W 4 _).alloc _
    have hsb : Blk W2 (W.heap.size + 1) 58 #[.slice (some ⟨b, 0, none⟩) x.size cap] := by rw [← hW2]; have := Blk.new (W.alloc (.cells #[.bool false] 4)) 58 #[.slice (some ⟨b, 0, none⟩) x.size cap]; rwa [World.size_alloc] at this
    rw [hW2]
    clear hW2
    have hb2 := hS2.lt
    have hk2 := hS'.out.bi.lt
    refine wpIn_rangeFunc_ownF rfl (by omega) (gf := 99) (lb := #[.pointer (some ⟨W.heap.size + 1, 0, none⟩)]) rfl trivial (enters_of Try.func99 (by kernel_rfl) rfl)
      (back_stops _ (W.heap.size + 1) b 0 x.size cap W2 hx (by omega) (by omega) (hsb.cell 0) (fun j hj => ⟨o j, by rw [Nat.zero_add]; exact hS2.at_ hj⟩)) keepRow_t (keepRow_b (by omega) (by omega)) (Below.refl _ _) (fun _ => rfl)
      (fun pre V => ∃ (o' : Nat → Bool) (ch : Bool), Set_ x A B c d (.func (.func g) #[] capt) base w b cap k o' V ∧ (Blk V W.heap.size 4 #[.bool ch] ∧ Blk V (W.heap.size + 1) 58 #[.slice (some ⟨b, 0, none⟩) x.size cap]) ∧ Rising dd x.size x.next P o' ∧ (∀ D ∈ Ds, V.heap[D]? = some (.deferred (some []))) ∧
        (ch = false → o' = o ∧ ∀ y ∈ pre, P y.1.val (o (x.next y.1.val)) = o y.1.val) ∧ (ch = true → low dd o' x.size < low dd o x.size) ∧ low dd o' x.size ≤ low dd o x.size)
      (fun _ _ _ => False) ?own (fun _ _ _ _ _ hs _ _ => hs) ?start
      (fun y => { tmps := #[.agg #[.slice A x.stem.length c, .slice B x.cycle.length d], .slice (some ⟨b, 0, none⟩) x.size cap, .func (.func g) #[] capt, .pointer (some ⟨k, 0, none⟩), .pointer (some ⟨k + 1, 0, none⟩), .pointer (some ⟨k + 1 + 1, 0, none⟩), .slice none 0 0, .pointer (some ⟨W.heap.size, 0, none⟩), .int .i64 ((y.1.val : Nat) : Int), u9, .slice (some ⟨b, 0, none⟩) x.size cap, .func (.func 99) #[] #[.pointer (some ⟨W.heap.size + 1, 0, none⟩)], .int .i64 ((y.1.val : Nat) : Int), .bool y.2, u14, u15, u16, u17, u18, u19, u20, u21, u22, u23, u24, u25, u26, u27, u28, u29, u30, u31, u32, u33, u34], defers := [] })
      ?assign ?body ?done ?stop
    case own =>
      rintro pre V V' row ⟨o', ch, h1, h2, h3, h4, h5⟩ hg hr
      have hr' : ∀ r, row = some r → W2.heap.size ≤ r := fun r e => (hr r e).1
      refine ⟨o', ch, h1.kept hg hr' (by omega) hbase, ⟨h2.1.kept hg hr' (by omega), h2.2.kept hg hr' (by omega)⟩, h3, fun D hD => ?_, h5⟩
      obtain ⟨_, _, _, _, hb⟩ := hg
      have h6 := h4 D hD
      have h7 := (Array.getElem?_eq_some_iff.1 (hDs D hD).2).1
      exact (hb D (Array.getElem?_eq_some_iff.1 h6).1 (fun e => by have := hr' D e.symm; omega)).trans h6
    case start =>
      exact ⟨o, false, hS2, ⟨hch, hsb⟩, hR, fun D hD => (hbW.block D (Array.getElem?_eq_some_iff.1 (hDs D hD).2).1).trans (hDs D hD).2, fun _ => ⟨rfl, fun y hy => by cases hy⟩, (fun h => by cases h), Nat.le_refl _⟩
    case assign =>
      intro l y V K hK
      unfold turnArgs
      gi_wp2
      exact hK
    case body =>
      rintro l pre y V ⟨o', ch, h1, h2, h3, h4, h5, h6, h7⟩ hlen
      have hg2 := HCL.out
      have HE := hg
      unfold Enters at HE
      have h1' := Lib.hid h1
      have hcw := h1.bw.cell 0
      have hcw1 := h1.bw.cell 1
      have hco := h1.bo.cell 0
      have hci := h1.bi.cell 0
      have hnx := x.next_lt h0 y.1.isLt
      have hat := h1.at_ hnx
      have hat1 := h1.at_ y.1.isLt
      have hlk := h1.bw.lt
      have hlo := h1.bo.lt
      have hli := h1.bi.lt
      have hlb : b < V.heap.size := by have := h1.lt; omega
      simp only [List.getElem?_toArray, List.getElem?_cons_zero, List.getElem?_cons_succ] at hcw hcw1 hco hci
      refine wpIn_block (wpIn_seq ?_)
      refine wpIn_region_later (by rintro ⟨_, _, h⟩; exact h) (by kernel_rfl) (by kernel_rfl) (by kernel_rfl) ?_
      have hbl : ∀ z, Below base w (later V z) := fun z => h1.below.trans ((below_later _ z).mono (by omega))
      have HB := Lib.hid hbl
      have HM := Lib.hid hm
      have H3 := Lib.hid h3
      clear h1 hbl hrow hm hr hR h3
      dsimp only
      repeat (go_big_quiet_step ((first
        | (exact later_call (wnext_nat x A B c d _ _ hx y.1.isLt))
        | (exact later_call (HCL.out _ (HB.out _) y.1.val y.1.isLt _)))))
      refine wpQuiet_nil ?_
      rintro _ ⟨z, rfl⟩
      have hV := below_later V z
      generalize later V z = V' at hV ⊢
      have hkey := h1'.out.call hV hbase
      have hchn := h2.1.call hV
      have hsbn := h2.2.call hV
      have H2 := Lib.hid h2
      have hco' := hkey.bo.cell 0
      have hat1' := hkey.at_ y.1.isLt
      simp only [List.getElem?_toArray, List.getElem?_cons_zero] at hco'
      have hKO : KeepsOthers V V' := KeepsOthers.of_grownBy (row := none) (grown_of_below hV) (fun j o e => by cases e)
      have hfr1 : V'.frozen? ⟨b, y.1.val, none⟩ = false := by obtain ⟨cur, h, _⟩ := hkey.row; exact h.frozen _
      have hchc := hchn.cell 0
      have hchf := hchn.frozen 0
      have hK1 := Lib.hid hkey
      have hC1 := Lib.hid hchn
      have hB1 := Lib.hid hsbn
      clear hkey hchn hsbn
      clear h2
      have hne : W.heap.size ≠ b := by omega
      have hyl := y.1.isLt
      gi_wp2
      · rename_i hne2
        have hne3 : P y.1.val (o' (x.next y.1.val)) ≠ o' y.1.val := by
          intro e; rw [e] at hne2; simp at hne2
        have hfin := (hK1.out.put hyl hbase (P y.1.val (o' (x.next y.1.val)))).far (q := W.heap.size) (i := 0) (by omega) hbase (.bool true)
        have hlow := H3.out.low hyl hne3
        have hbf := (hC1.out.far (p := ⟨b, y.1.val, none⟩) hne (.bool (P y.1.val (o' (x.next y.1.val))))).set_ 0 (.bool true)
        have hsf := (hB1.out.far (p := ⟨b, y.1.val, none⟩) (by show W.heap.size + 1 ≠ b; omega) (.bool (P y.1.val (o' (x.next y.1.val))))).far (p := ⟨W.heap.size, 0, none⟩) (by show W.heap.size + 1 ≠ W.heap.size; omega) (.bool true)
        have hkk := hKO.trans ((KeepsOthers.setCell V' ⟨b, y.1.val, none⟩ (.bool (P y.1.val (o' (x.next y.1.val))))).trans (KeepsOthers.setCell _ ⟨W.heap.size, 0, none⟩ (.bool true)))
        refine ⟨hkk, ⟨(hsf.cell 0).trans (H2.out.2.cell 0).symm, fun j hj _ => ⟨_, by rw [Nat.zero_add]; exact hfin.at_ hj⟩⟩, _, true, hfin, ⟨by simpa using hbf, hsf⟩, H3.out.at_ HM.out (fun i hi => x.next_lt h0 hi) hyl, fun D hD => hkk.same D _ (h4 D hD) rfl, (fun h => by cases h), fun _ => by omega, by omega⟩
      · rename_i hne2
        have heq : P y.1.val (o' (x.next y.1.val)) = o' y.1.val := by
          revert hne2; cases P y.1.val (o' (x.next y.1.val)) <;> cases o' y.1.val <;> simp
        refine ⟨hKO, ⟨(hB1.out.cell 0).trans (H2.out.2.cell 0).symm, fun j hj _ => ⟨_, by rw [Nat.zero_add]; exact hK1.out.at_ hj⟩⟩, o', ch, hK1.out, ⟨hC1.out, hB1.out⟩, H3.out, fun D hD => hKO.same D _ (h4 D hD) rfl, fun hc => ?_, h6, h7⟩
        obtain ⟨e, h8⟩ := h5 hc
        refine ⟨e, fun y' hy' => ?_⟩
        rcases List.mem_append.1 hy' with hy' | hy'
        · exact h8 y' hy'
        · rw [List.mem_singleton.1 hy', ← e]; exact heq
    case done =>
      rintro D ys V hDlt hys ⟨o', ch, h1, h2, h3, h4, h5, h6, h7⟩ hK
      have hcc := h2.1.cell 0
      have hcf := h2.1.frozen 0
      have hco' := h1.bo.cell 0
      simp only [List.getElem?_toArray, List.getElem?_cons_zero] at hcc hco'
      have hnd : (D :: Ds).Nodup := by
        rw [List.nodup_cons]
        refine ⟨fun h => ?_, hD⟩
        have := (Array.getElem?_eq_some_iff.1 (hDs D h).2).1
        omega
      have hall : ∀ E ∈ D :: Ds, k ≤ E ∧ V.heap[E]? = some (.deferred (some [])) := by
        intro E hE
        rcases List.mem_cons.1 hE with rfl | hE
        · exact ⟨by omega, hK⟩
        · exact ⟨(hDs E hE).1, h4 E hE⟩
      have H1 := Lib.hid h1
      have H2 := Lib.hid h2
      have hkb := h1.lt
      cases ch with
      | true =>
        clear h1 h2
        go_wp2
        go_step3
        go_wp2
        refine ⟨rfl, ⟨D :: Ds, o', _, _, _, _, _, _, _, _, _, _, _, _, _, _, _, _, _, _, _, _, _, _, _, _, _, _, _, _, rfl, H1.out, h3, hnd, hall⟩, ?_⟩
        rw [H1.out.bits dd, hS'.out.bits dd]
        exact (by first | exact h6 rfl | exact h6 trivial)
      | false =>
        clear h1 h2
        go_wp2
        dsimp only [Exit.jump]
        refine leaves_marks (D :: Ds) V hnd (fun E hE => (hall E hE).2) fun V' hq hB => ?_
        refine ⟨_, results_tmp rfl _ _ _, ?_⟩
        obtain ⟨cur, hr1, hr2, hr3⟩ := H1.out.row
        refine ⟨o', rfl, ?_, ⟨cur, (hq b fun h => by have := (hall b h).1; omega).trans hr1, hr2, hr3⟩, H1.out.below.trans (hB base fun E hE => by have := (hall E hE).1; omega)⟩
        obtain ⟨e, h8⟩ := (by first | exact h5 rfl | exact h5 trivial : o' = o ∧ ∀ y ∈ ys, P y.1.val (o (x.next y.1.val)) = o y.1.val)
        refine h3.settled fun i hi => ?_
        obtain ⟨y, hy, rfl⟩ := hys i (by omega) hi
        rw [e]
        exact h8 y hy
    case stop =>
      intro D c' pre V _ _ h
      exact h.elim
end Go.Proofs.Ytedbjkjncfinnaa
