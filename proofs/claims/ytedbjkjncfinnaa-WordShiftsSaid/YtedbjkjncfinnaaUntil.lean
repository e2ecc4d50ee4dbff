/-
  Layer 15: until, free.
-/
import Derived.Test.YtedbjkjncfinnaaSettleW
import Derived.Test.YtedbjkjncfinnaaWordE
import Derived.Deep.RegionHeld3
namespace Go.Proofs.Ytedbjkjncfinnaa
open Go.RowKit

/-- Box B of w holds a row of n bools. -/
def BoxRow (w : World) (B n : Nat) (f : Nat → Bool) : Prop := ∃ b o c, w.cell? ⟨B, 0, none⟩ = some (.slice (some ⟨b, o, none⟩) n c) ∧ ∀ i, i < n → w.cell? ⟨b, o + i, none⟩ = some (.bool (f i))

set_option maxRecDepth 100000 in
theorem until1_any (Bq Bp n i : Nat) (v : Bool) (f g : Nat → Bool) (w : World) (hq : BoxRow w Bq n g) (hp : BoxRow w Bp n f) (hi : i < n) :
    Calls Try.prog 85 #[.int .i64 i, .bool v, .pointer (some ⟨Bq, 0, none⟩), .pointer (some ⟨Bp, 0, none⟩)] w fun e w' => e = .returned (.bool (g i || (f i && v))) ∧ Below w.heap.size w w' := by
  obtain ⟨bq, oq, cq, h1, h2⟩ := hq
  obtain ⟨bp, op, cp, h3, h4⟩ := hp
  have h2' := h2 i hi
  have h4' := h4 i hi
  clear h2 h4
  go_enter Try.func85, Try.ntmps85
  cases hgi : g i <;> cases hfi : f i <;> rw [hgi] at h2' <;> rw [hfi] at h4' <;> (go_wp2; go_ret; exact ⟨by simp, Below.refl _ _⟩)
set_option maxRecDepth 100000 in
theorem free2_any (Bq Bp n i : Nat) (v : Bool) (f g : Nat → Bool) (w : World) (hq : BoxRow w Bq n g) (hp : BoxRow w Bp n f) (hi : i < n) :
    Calls Try.prog 84 #[.int .i64 i, .bool v, .pointer (some ⟨Bq, 0, none⟩), .pointer (some ⟨Bp, 0, none⟩)] w fun e w' => e = .returned (.bool (g i && (f i || v))) ∧ Below w.heap.size w w' := by
  obtain ⟨bq, oq, cq, h1, h2⟩ := hq
  obtain ⟨bp, op, cp, h3, h4⟩ := hp
  have h2' := h2 i hi
  have h4' := h4 i hi
  clear h2 h4
  go_enter Try.func84, Try.ntmps84
  cases hgi : g i <;> cases hfi : f i <;> rw [hgi] at h2' <;> rw [hfi] at h4' <;> (go_wp2; go_ret; exact ⟨by simp, Below.refl _ _⟩)
theorem until1_enters : Enters Try.prog 85 := enters_of Try.func85 (by kernel_rfl) rfl
theorem free2_enters : Enters Try.prog 84 := enters_of Try.func84 (by kernel_rfl) rfl
theorem row_of_own {w : World} {base e n : Nat} {v : Value} {o : Nat → Bool} (h : w.ownsRow base e 1 v n ((List.range n).map fun i => .bool (o i))) (hn : 0 < n) :
    ∃ b cap, v = .slice (some ⟨b, 0, none⟩) n cap ∧ base ≤ b ∧ n ≤ cap ∧ cap ≤ maxLen ∧ ∃ cur, Blk w b e cur ∧ cur.size = cap ∧ ∀ j, j < n → cur[j]? = some (.bool (o j)) := by
  rcases h.2 with ⟨_, h0⟩ | ⟨g, cap, cur, h1, h2, h3, h4, h5, h6, h7⟩
  · omega
  · refine ⟨g, cap, h1, h2, h4, h5, cur, h3, by omega, fun j hj => ?_⟩
    have := congrArg (fun l => l[j]?) h7
    simp only [Nat.mul_one, List.getElem?_take, if_pos hj, List.getElem?_map, List.getElem?_range hj, Option.map_some] at this
    rwa [Array.getElem?_toList] at this
theorem own_of_row {w : World} {base e n b cap : Nat} {o : Nat → Bool} (hb : base ≤ b) (h1 : n ≤ cap) (h2 : cap ≤ maxLen) {cur : Array Value} (h3 : Blk w b e cur) (h4 : cur.size = cap) (h5 : ∀ j, j < n → cur[j]? = some (.bool (o j))) :
    w.ownsRow base e 1 (.slice (some ⟨b, 0, none⟩) n cap) n ((List.range n).map fun i => .bool (o i)) := by
  refine ⟨by simp, .inr ⟨b, cap, cur, rfl, hb, h3, h1, h2, by omega, ?_⟩⟩
  apply List.ext_getElem?
  intro j
  rw [Nat.mul_one, List.getElem?_take]
  split
  · rename_i hj
    rw [Array.getElem?_toList, h5 j hj, List.getElem?_map, List.getElem?_range hj]; rfl
  · rename_i hj
    rw [List.getElem?_eq_none (by simp; omega)]
/-- A slice value's row of n bools. -/
def RowAt (w : World) (b o n : Nat) (f : Nat → Bool) : Prop := b < w.heap.size ∧ ∀ i, i < n → w.cell? ⟨b, o + i, none⟩ = some (.bool (f i))
theorem RowAt.below {w w' : World} {b o n : Nat} {f : Nat → Bool} (h : RowAt w b o n f) (hb : Below w.heap.size w w') : RowAt w' b o n f :=
  ⟨Nat.lt_of_lt_of_le h.1 hb.size, fun i hi => (hb.cell (p := ⟨b, o + i, none⟩) h.1).trans (h.2 i hi)⟩
theorem BoxRow.below {w w' : World} {B b o n c : Nat} {f : Nat → Bool} {t : TypeId} (h1 : Blk w B t #[.slice (some ⟨b, o, none⟩) n c]) (h : RowAt w b o n f) (hb : Below w.heap.size w w') : BoxRow w' B n f :=
  ⟨b, o, c, (hb.cell (p := ⟨B, 0, none⟩) h1.lt).trans (h1.cell 0), (h.below hb).2⟩

theorem boxes3 (w : World) (t1 t2 t3 : TypeId) (c1 c2 c3 : Array Value) :
    Blk (((w.alloc (.cells c1 t1)).alloc (.cells c2 t2)).alloc (.cells c3 t3)) w.heap.size t1 c1 ∧ Blk (((w.alloc (.cells c1 t1)).alloc (.cells c2 t2)).alloc (.cells c3 t3)) (w.heap.size + 1) t2 c2 ∧
    Blk (((w.alloc (.cells c1 t1)).alloc (.cells c2 t2)).alloc (.cells c3 t3)) (w.heap.size + 1 + 1) t3 c3 ∧ Below w.heap.size w (((w.alloc (.cells c1 t1)).alloc (.cells c2 t2)).alloc (.cells c3 t3)) ∧ (((w.alloc (.cells c1 t1)).alloc (.cells c2 t2)).alloc (.cells c3 t3)).heap.size = w.heap.size + 3 := by
  refine ⟨((Blk.new w t1 c1).alloc _).alloc _, ?_, ?_, below_alloc (below_alloc (below_one _ _)), by simp⟩
  · have := (Blk.new (w.alloc (.cells c1 t1)) t2 c2).alloc (.cells c3 t3)
    rwa [World.size_alloc] at this
  · have := Blk.new ((w.alloc (.cells c1 t1)).alloc (.cells c2 t2)) t3 c3
    rwa [World.size_alloc, World.size_alloc] at this
theorem free_closure (n bp op cp bq oq cq : Nat) (f g : Nat → Bool) (W : World) (Bq Bp : Nat) (t : TypeId) (k2 : Blk W Bp t #[.slice (some ⟨bp, op, none⟩) n cp]) (k3 : Blk W Bq t #[.slice (some ⟨bq, oq, none⟩) n cq]) (hp : RowAt W bp op n f) (hq : RowAt W bq oq n g) :
    ∀ wx, Below W.heap.size W wx → ∀ i : Nat, i < n → ∀ v : Bool, Calls Try.prog 84 (#[.int .i64 i, .bool v] ++ #[.pointer (some ⟨Bq, 0, none⟩), .pointer (some ⟨Bp, 0, none⟩)]) wx fun e w' => e = .returned (.bool (g i && (f i || v))) ∧ Below wx.heap.size wx w' :=
  fun wx h i hi v => free2_any Bq Bp n i v f g wx (BoxRow.below k3 hq h) (BoxRow.below k2 hp h) hi
theorem until_closure (n bp op cp bq oq cq : Nat) (f g : Nat → Bool) (W : World) (Bq Bp : Nat) (t : TypeId) (k2 : Blk W Bp t #[.slice (some ⟨bp, op, none⟩) n cp]) (k3 : Blk W Bq t #[.slice (some ⟨bq, oq, none⟩) n cq]) (hp : RowAt W bp op n f) (hq : RowAt W bq oq n g) :
    ∀ wx, Below W.heap.size W wx → ∀ i : Nat, i < n → ∀ v : Bool, Calls Try.prog 85 (#[.int .i64 i, .bool v] ++ #[.pointer (some ⟨Bq, 0, none⟩), .pointer (some ⟨Bp, 0, none⟩)]) wx fun e w' => e = .returned (.bool (g i || (f i && v))) ∧ Below wx.heap.size wx w' :=
  fun wx h i hi v => until1_any Bq Bp n i v f g wx (BoxRow.below k3 hq h) (BoxRow.below k2 hp h) hi
theorem free1_any (i : Nat) (w : World) : Calls Try.prog 82 (#[.int .i64 i] ++ #[]) w fun e w' => e = .returned (.bool true) ∧ Below w.heap.size w w' := by
  go_enter Try.func82, Try.ntmps82
  go_wp2
  go_ret
  exact ⟨rfl, Below.refl _ _⟩
theorem free1_enters : Enters Try.prog 82 := enters_of Try.func82 (by kernel_rfl) rfl

set_option maxRecDepth 100000 in
set_option maxHeartbeats 1000000 in
theorem free_any (x : Wd) (A B : Option Addr) (c d bp op cp bq oq cq : Nat) (f g : Nat → Bool) (w : World) (hx : x.size ≤ 1000000000) (h0 : 0 < x.cycle.length) (hp : RowAt w bp op x.size f) (hq : RowAt w bq oq x.size g) :
    Calls Try.prog 65 #[.agg #[.slice A x.stem.length c, .slice B x.cycle.length d], .slice (some ⟨bp, op, none⟩) x.size cp, .slice (some ⟨bq, oq, none⟩) x.size cq] w fun e w' =>
      ∃ v o, e = .returned v ∧ w'.ownsRow w.heap.size 4 1 v x.size ((List.range x.size).map fun i => .bool (o i)) ∧ Settled true x.size x.next (fun i b => g i && (f i || b)) o ∧ Below w.heap.size w w' := by
  have hs0 : 0 < x.size := by unfold Wd.size; omega
  obtain ⟨k1, k2, k3, kb, ks⟩ := boxes3 w 27 58 58 #[.slice A x.stem.length c, .slice B x.cycle.length d] #[.slice (some ⟨bp, op, none⟩) x.size cp] #[.slice (some ⟨bq, oq, none⟩) x.size cq]
  have hcl := Lib.hid (free_closure x.size bp op cp bq oq cq f g _ (w.heap.size + 1 + 1) (w.heap.size + 1) 58 k2 k3 (hp.below kb) (hq.below kb))
  have H1 := Lib.hid k1
  have HKB := Lib.hid kb
  have HKS := Lib.hid ks
  clear k1 k2 k3 kb ks hp hq
  go_enter Try.func65, Try.ntmps65
  go_wp2_with fail
  generalize (((w.alloc (.cells #[.slice A x.stem.length c, .slice B x.cycle.length d] 27)).alloc (.cells #[.slice (some ⟨bp, op, none⟩) x.size cp] 58)).alloc (.cells #[.slice (some ⟨bq, oq, none⟩) x.size cq] 58)) = W0 at *
  refine (each_any x A B c d _ #[] W0 (fun _ => true) hx free1_enters (fun wx _ i _ => free1_any i wx)).mono ?_
  rintro e w1 ⟨v1, rfl, hown1, hb1⟩
  obtain ⟨b1, cap1, rfl, hbb, hle, hmx, hrow⟩ := row_of_own hown1 hs0
  have HB1 := Lib.hid hb1
  have c1 := (H1.out.call hb1).cell 0
  have c2 := (H1.out.call hb1).cell 1
  simp only [List.getElem?_toArray, List.getElem?_cons_zero, List.getElem?_cons_succ] at c1 c2
  have HR := Lib.hid hrow
  have HBB := Lib.hid hbb
  have H2 := Lib.hid hle
  have H3 := Lib.hid hmx
  clear hown1 hb1 hrow hbb hle hmx
  go_wp2_with fail
  refine (settle_any x A B c d b1 cap1 W0.heap.size 84 #[.pointer (some ⟨w.heap.size + 1 + 1, 0, none⟩), .pointer (some ⟨w.heap.size + 1, 0, none⟩)] w1 (fun _ => true) (fun i b => g i && (f i || b)) true hx h0 free2_enters (fun wx hbx => hcl.out wx (HB1.out.trans hbx)) HBB.out HR.out (mono_fr f g _) (Rising.start _ _ _ _)).mono ?_
  rintro e w2 ⟨o', rfl, hset, ⟨cur, hr1, hr2, hr3⟩, hb2⟩
  have HS := Lib.hid hset
  clear hset
  go_wp2
  go_ret
  exact ⟨_, o', rfl, own_of_row (by have := HKB.out.size; have := HBB.out; omega) H2.out H3.out hr1 hr2 hr3, HS.out, HKB.out.trans ((HB1.out.trans hb2).mono HKB.out.size)⟩

/-- n cells, all false. -/
def falses (n : Nat) : Array Value := Array.replicate n (.bool false)
theorem falses_at {n j : Nat} (h : j < n) : (falses n)[j]? = some (.bool false) := by simp [falses, h]
theorem falses_size (n : Nat) : (falses n).size = n := by simp [falses]
theorem run_falses (n : Nat) (hn : n ≤ 1000000000) (W : World) :
    (Instr.makeSlice 58 (.int .i64 (n : Int)) (.int .i64 (n : Int))).run Try.prog W = .ok (.slice (some ⟨W.heap.size, 0, none⟩) n n) (W.alloc (.cells (falses n) 4)) := by
  obtain ⟨i0, hi0, hz0, hz1, hz2⟩ := info_parts bool_info
  have h := run_make (P := Try.prog) (w := W) 58 4 i0 (.bool false) Try.underlying58 hi0 hz0 .i64 .i64 (n : Int) (n : Int) (by omega) (Int.le_refl _) (by rw [hz2]; omega) (by omega)
  rw [hz1] at h
  simp only [Int.toNat_natCast, Nat.mul_one] at h
  have e : madeCells (Value.bool false).cells n = falses n := Array.toList_inj.1 ((toList_madeCells_one (.bool false) n).trans (by simp [falses]))
  rw [h, e]

set_option maxRecDepth 100000 in
set_option maxHeartbeats 1000000 in
theorem until_any (x : Wd) (A B : Option Addr) (c d bp op cp bq oq cq : Nat) (f g : Nat → Bool) (w : World) (hx : x.size ≤ 1000000000) (h0 : 0 < x.cycle.length) (hp : RowAt w bp op x.size f) (hq : RowAt w bq oq x.size g) :
    Calls Try.prog 67 #[.agg #[.slice A x.stem.length c, .slice B x.cycle.length d], .slice (some ⟨bp, op, none⟩) x.size cp, .slice (some ⟨bq, oq, none⟩) x.size cq] w fun e w' =>
      ∃ v o, e = .returned v ∧ w'.ownsRow w.heap.size 4 1 v x.size ((List.range x.size).map fun i => .bool (o i)) ∧ Settled false x.size x.next (fun i b => g i || (f i && b)) o ∧ Below w.heap.size w w' := by
  have hs0 : 0 < x.size := by unfold Wd.size; omega
  obtain ⟨k1, k2, k3, kb, ks⟩ := boxes3 w 27 58 58 #[.slice A x.stem.length c, .slice B x.cycle.length d] #[.slice (some ⟨bp, op, none⟩) x.size cp] #[.slice (some ⟨bq, oq, none⟩) x.size cq]
  have hcl := Lib.hid (until_closure x.size bp op cp bq oq cq f g _ (w.heap.size + 1 + 1) (w.heap.size + 1) 58 k2 k3 (hp.below kb) (hq.below kb))
  have H1 := Lib.hid k1
  have HKB := Lib.hid kb
  have HKS := Lib.hid ks
  clear k1 k2 k3 kb ks hp hq
  go_enter Try.func67, Try.ntmps67
  go_wp2_with fail
  generalize (((w.alloc (.cells #[.slice A x.stem.length c, .slice B x.cycle.length d] 27)).alloc (.cells #[.slice (some ⟨bp, op, none⟩) x.size cp] 58)).alloc (.cells #[.slice (some ⟨bq, oq, none⟩) x.size cq] 58)) = W0 at *
  have c0 := H1.out.cell 0
  have c1 := H1.out.cell 1
  simp only [List.getElem?_toArray, List.getElem?_cons_zero, List.getElem?_cons_succ] at c0 c1
  have l0 := H1.out.lt
  have K1 : ∀ W', Below W0.heap.size W0 W' → W'.cell? ⟨w.heap.size, 0, none⟩ = some (.slice A x.stem.length c) ∧ W'.cell? ⟨w.heap.size, 1, none⟩ = some (.slice B x.cycle.length d) := fun W' h =>
    ⟨(h.cell (p := ⟨w.heap.size, 0, none⟩) l0).trans c0, (h.cell (p := ⟨w.heap.size, 1, none⟩) l0).trans c1⟩
  have hx1 : (0 : Int) ≤ (x.size : Int) := by omega
  have hx2 : (x.size : Int) ≤ 1000000000 := by omega
  have HK := Lib.hid K1
  clear K1
  have hmk := run_falses x.size hx
  go_region_held3 (fun W' => W'.cell? ⟨w.heap.size, 0, none⟩ = some (.slice A x.stem.length c) ∧ W'.cell? ⟨w.heap.size, 1, none⟩ = some (.slice B x.cycle.length d))
    (first | (with_reducible exact ⟨c0, c1⟩) | (with_reducible exact HK.out _ (below_drew (Below.refl _ _))) | (with_reducible exact HK.out _ (below_undrew hb1)) | (with_reducible exact HK.out _ ((below_alloc (below_undrew hb1)).trans hb2)) | (with_reducible exact HK.out _ (below_alloc (below_undrew hb1))))
    (first
      | (go_at_call 66; refine (wsize_any _ _ _ _ _ _ _ hx).mono ?_; rintro e w1 ⟨rfl, hb1⟩; have hsz : ((x.stem.length + x.cycle.length : Nat) : Int) = (x.size : Int) := rfl; rw [hsz]; clear hsz)
      | (go_at_call 83; refine (settle_any x A B c d w1.heap.size x.size W0.heap.size 85 #[.pointer (some ⟨w.heap.size + 1 + 1, 0, none⟩), .pointer (some ⟨w.heap.size + 1, 0, none⟩)] (w1.alloc (.cells (falses x.size) 4)) (fun _ => false) (fun i b => g i || (f i && b)) false hx h0 until1_enters (fun wx hbx => hcl.out wx ((below_alloc (below_undrew hb1)).trans hbx)) (below_undrew hb1).size ⟨falses x.size, Blk.new _ _ _, falses_size _, fun j hj => falses_at hj⟩ (mono_un f g _) (Rising.start _ _ _ _)).mono ?_; rintro e w2 ⟨o', rfl, hset, ⟨cur, hr1, hr2, hr3⟩, hb2⟩; have HS := Lib.hid hset; clear hset))
  all_goals
    go_wp2
    go_ret
    have hb3 := (below_alloc (o := .cells (falses x.size) 4) (below_undrew hb1)).trans hb2
    exact ⟨_, o', rfl, own_of_row (by have := HKB.out.size; have := (below_undrew hb1).size; omega) (Nat.le_refl _) (by unfold maxLen; omega) hr1 hr2 hr3, HS.out, HKB.out.trans (hb3.mono HKB.out.size)⟩
end Go.Proofs.Ytedbjkjncfinnaa
