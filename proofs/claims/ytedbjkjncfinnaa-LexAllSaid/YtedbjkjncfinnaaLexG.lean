/-
  Layer 10: All: a text's tokens.
-/
import Derived.Test.YtedbjkjncfinnaaLexF
import Derived.Test.YtedbjkjncfinnaaMem
namespace Go.Proofs.Ytedbjkjncfinnaa
open Go.RowKit

def LexR.pre (ts : List Tk) : LexR → LexR
  | .ok us => .ok (ts ++ us)
  | .err e ln co => .err e ln co
theorem LexR.pre_nil (r : LexR) : r.pre [] = r := by cases r <;> rfl
theorem LexR.pre_more (ts : List Tk) (t : Tk) (r : LexR) : (r.more t).pre ts = r.pre (ts ++ [t]) := by cases r <;> simp [LexR.more, LexR.pre]
def lexAt (s : ByteArray) (i : Nat) (p : Nat × Nat) : LexR := lexL (s.data.toList.drop i) p
theorem lexAt_eq (s : ByteArray) (i : Nat) (p : Nat × Nat) : lexAt s i p = match tok1 (s.data.toList.drop (i + gapAt false s i)) with
    | .fin => .ok [⟨5, [], (posAt s i p (gapAt false s i)).1, (posAt s i p (gapAt false s i)).2⟩]
    | .err e => .err e (posAt s i p (gapAt false s i)).1 (posAt s i p (gapAt false s i)).2
    | .tok kind n => (lexAt s (i + gapAt false s i + n) (posAt s (i + gapAt false s i) (posAt s i p (gapAt false s i)) n)).more ⟨kind, cut s (i + gapAt false s i) n, (posAt s i p (gapAt false s i)).1, (posAt s i p (gapAt false s i)).2⟩ := by
  unfold lexAt gapAt
  rw [lexL_eq, List.drop_drop]
  unfold posAt cut
  simp only [List.drop_drop, Nat.add_assoc]
  generalize tok1 _ = T
  cases T <;> rfl

/-- The cells of a token. -/
def tkCells (t : Tk) : List Value := [.int .i64 t.kind, .string ⟨t.text.toArray⟩, .int .i64 t.ln, .int .i64 t.co]
def tksCells (ts : List Tk) : List Value := (ts.map tkCells).flatten
theorem tks_len (ts : List Tk) : (tksCells ts).length = ts.length * 4 := by
  induction ts with
  | nil => rfl
  | cons t ts ih =>
    unfold tksCells at *
    rw [List.map_cons, List.flatten_cons, List.length_append, ih, List.length_cons]
    simp [tkCells]
    omega
theorem tks_snoc (ts : List Tk) (t : Tk) : tksCells (ts ++ [t]) = tksCells ts ++ tkCells t := by simp [tksCells]
/-- A row of one's own that holds tokens. -/
def OwnTks (w : World) (base : Nat) (v : Value) (ts : List Tk) : Prop := w.ownsRow base 68 4 v ts.length (tksCells ts)
theorem token_info : (Try.prog.info? 68).map (fun i => (i.zero, i.size, i.bytes)) = some (some (.agg #[.int .i64 0, .string ⟨#[]⟩, .int .i64 0, .int .i64 0]), 4, 40) := by kernel_rfl
/-- What All hands back. -/
def AllRet (r : LexR) (w : World) (e : Ending) (w' : World) : Prop := match r with
  | .ok ts => ∃ v, e = .returned (.tuple #[v, .agg #[.int .i64 0, .int .i64 0], .int .i64 0]) ∧ OwnTks w' w.heap.size v ts ∧ Below w.heap.size w w'
  | .err c ln co => e = .returned (.tuple #[.slice none 0 0, .agg #[.int .i64 ln, .int .i64 co], .int .i64 c]) ∧ Below w.heap.size w w'
theorem blk_set2' {w : World} {g : Nat} {t : TypeId} {x y : Value} (h : Blk w g t #[x, y]) (a b : Value) : Blk ((w.setCell ⟨g, 0, none⟩ a).setCell ⟨g, 1, none⟩ b) g t #[a, b] := by
  simpa using (h.set_ 0 a).set_ 1 b
theorem cells2' {W : World} {g : Nat} {t : TypeId} {a b : Value} (h : Blk W g t #[a, b]) : W.cell? ⟨g, 0, none⟩ = some a ∧ W.cell? ⟨g, 1, none⟩ = some b := by
  rw [h.cell, h.cell]
  exact ⟨rfl, rfl⟩
/-- The state of All's loop: result box Q, the row of one's own behind the reader's box Q + 1. -/
structure AC (w : World) (v : Value) (ts : List Tk) (W : World) : Prop where
  q : Blk W w.heap.size 49 #[.int .i64 0, .int .i64 0]
  own : W.ownsRow (w.heap.size + 2) 68 4 v ts.length (tksCells ts)
  lo : w.heap.size + 2 ≤ W.heap.size
  below : Below w.heap.size w W
section
variable {w W W' : World} {s : ByteArray} {i j : Nat} {p q : Nat × Nat} {v v' : Value} {ts : List Tk}
theorem AC.call (h : AC w v ts W) (hb : Below W.heap.size W W') : AC w v ts W' := ⟨h.q.call hb, own_call h.own hb, Nat.le_trans h.lo hb.size, below_call h.below hb⟩
theorem AC.turn (h : AC w v ts W) (hg : W.grownBy W' (some (w.heap.size + 1))) : AC w v ts W' := by
  refine ⟨?_, h.own.kept hg ?_, Nat.le_trans h.lo hg.size, below_grown h.below hg fun k e => by have := Option.some.inj e; omega⟩
  · exact (hg.block w.heap.size h.q.lt (fun e => by have := Option.some.inj e; omega)).trans h.q
  · rcases hv : v.ownBlock with _ | k
    · exact .inl rfl
    · right
      have := own_ge h.own (Nat.le_refl _) k hv
      intro e
      have := Option.some.inj e
      omega
/-- Behind an append: what other blocks hold stays. -/
theorem AC.far (_h : AC w v ts W) (hg : W.grownBy W' v.ownBlock) {b : Nat} (hb : b < W.heap.size) (hne : v.ownBlock ≠ some b) : W'.heap[b]? = W.heap[b]? := hg.block b hb fun e => hne e.symm
theorem AC.low (h : AC w v ts W) {b : Nat} (hb : b < w.heap.size + 2) : v.ownBlock ≠ some b := fun e => by have := own_ge h.own (Nat.le_refl _) b e; omega
theorem AC.app (h : AC w v ts W) (t : Tk) (hown : W'.ownsRow (w.heap.size + 2) 68 4 v' (ts.length + 1) (tksCells ts ++ tkCells t)) (hg : W.grownBy W' v.ownBlock) : AC w v' (ts ++ [t]) W' :=
  ⟨(h.far hg h.q.lt (h.low (by omega))).trans h.q, by rw [tks_snoc]; simpa using hown, Nat.le_trans h.lo hg.size, below_grown h.below hg fun k e => by have := own_ge h.own (Nat.le_refl _) k e; omega⟩
end
structure AB (w : World) (s : ByteArray) (i : Nat) (p : Nat × Nat) (v : Value) (ts : List Tk) (W : World) : Prop where
  rd : Rd W (w.heap.size + 1) s i p
  ac : AC w v ts W
section
variable {w W W' : World} {s : ByteArray} {i j : Nat} {p q : Nat × Nat} {v v' : Value} {ts : List Tk}
theorem AB.call (h : AB w s i p v ts W) (hb : Below W.heap.size W W') : AB w s i p v ts W' := ⟨Blk.call h.rd hb, h.ac.call hb⟩
theorem AB.turn (h : AB w s i p v ts W) (hr : Rd W' (w.heap.size + 1) s j q) (hg : W.grownBy W' (some (w.heap.size + 1))) : AB w s j q v ts W' := ⟨hr, h.ac.turn hg⟩
theorem AB.app (h : AB w s i p v ts W) (t : Tk) (hown : W'.ownsRow (w.heap.size + 2) 68 4 v' (ts.length + 1) (tksCells ts ++ tkCells t)) (hg : W.grownBy W' v.ownBlock) : AB w s i p v' (ts ++ [t]) W' :=
  ⟨(h.ac.far hg (Blk.lt h.rd) (h.ac.low (by omega))).trans h.rd, h.ac.app t hown hg⟩
end
theorem tok1_kind {l : List UInt8} {k n : Nat} (h : tok1 l = .tok k n) : k ≤ 4 := by
  cases l with
  | nil => simp [tok1] at h
  | cons c l =>
    rw [tok1_cons] at h
    repeat' split at h
    all_goals simp at h <;> omega
theorem tok1_err {l : List UInt8} {c : Nat} (h : tok1 l = .err c) : c ≠ 0 := by
  cases l with
  | nil => simp [tok1] at h
  | cons b l =>
    rw [tok1_cons] at h
    repeat' split at h
    all_goals simp at h <;> omega
theorem AC.done {w W : World} {v : Value} {ts : List Tk} (h : AC w v ts W) (a b : Value) : OwnTks ((W.setCell ⟨w.heap.size, 0, none⟩ a).setCell ⟨w.heap.size, 1, none⟩ b) w.heap.size v ts := by
  have hg : W.grownBy ((W.setCell ⟨w.heap.size, 0, none⟩ a).setCell ⟨w.heap.size, 1, none⟩ b) (some w.heap.size) := grown_set (grown_set (grown_of_call (Below.refl _ _)) 0 a) 1 b
  refine own_base (h.own.kept hg ?_) (by omega)
  rcases hv : v.ownBlock with _ | k
  · exact .inl rfl
  · right
    have := own_ge h.own (Nat.le_refl _) k hv
    intro e
    have := Option.some.inj e
    omega
theorem own_shape4 {w : World} {base e n : Nat} {v : Value} {xs : List Value} (h : w.ownsRow base e 4 v n xs) : ∃ A c, v = .slice A n c := by
  rcases h.2 with ⟨rfl, rfl⟩ | ⟨g, cap, cur, rfl, _⟩
  · exact ⟨_, _, rfl⟩
  · exact ⟨_, _, rfl⟩
set_option maxRecDepth 100000 in
set_option maxHeartbeats 8000000 in
theorem all_any (s : ByteArray) (w : World) (hs : s.size ≤ 9223372036854775807) : Calls Try.prog 29 #[.string s] w (AllRet (lexAll s.data.toList) w) := by
  obtain ⟨i0, hi0, hz0, hz1, hz2⟩ := info_parts token_info
  unfold lexAll
  rw [len_of]
  by_cases hbig : 16384 < s.size
  · rw [if_pos hbig]
    have q : (16384 : Int) < (s.size : Int) := by omega
    go_enter Try.func29, Try.ntmps29
    go_wp2_with fail
    have hp := pos_any (1, 1) (w.alloc (.cells #[.int .i64 0, .int .i64 0] 49)) ⟨by decide, by decide, by decide, by decide⟩
    unfold plc at hp
    simp only [enc_one] at hp
    refine hp.mono ?_
    clear hp
    rintro e w1 ⟨rfl, hb⟩
    have hk := (Blk.new w 49 #[.int .i64 0, .int .i64 0]).call hb
    have HB := Lib.hid (below_call (below_one w _) hb)
    have HK := Lib.hid hk
    obtain ⟨c0, c1⟩ := cells2' hk
    have f0 := hk.frozen 0
    have f1 := hk.frozen 1
    clear hk hb
    go_wp2
    obtain ⟨e0, e1⟩ := cells2' (blk_set2' HK.out (.int .i64 1) (.int .i64 1))
    exact bodyPost_ret (v := .tuple #[.slice none 0 0, .agg #[.int .i64 1, .int .i64 1], .int .i64 2]) (by simp [results, Try.results29, go_sem, e0, e1]) rfl ⟨rfl, below_set (below_set HB.out (Nat.le_refl _)) (Nat.le_refl _)⟩
  · rw [if_neg hbig]
    have q : ¬ (16384 : Int) < (s.size : Int) := by omega
    have hsz : s.size ≤ 16384 := by omega
    generalize hR : lexL s.data.toList (1, 1) = R
    have HR := Lib.hid hR
    clear hR
    go_enter Try.func29, Try.ntmps29
    go_wp2_with fail
    have hst : AB w s 0 (1, 1) (.slice none 0 0) [] ((w.alloc (.cells #[.int .i64 0, .int .i64 0] 49)).alloc (.cells #[.string s, .int .i64 0, .complex .f64 4607182418800017408 4607182418800017408] 75)) := by
      obtain ⟨k1, k2, k3⟩ := boxes2 w 49 75 #[.int .i64 0, .int .i64 0] #[.string s, .int .i64 0, .complex .f64 4607182418800017408 4607182418800017408]
      refine ⟨?_, ⟨k1, World.ownsRow_nil _ _ _ _, by simp, k3⟩⟩
      unfold Rd plc
      rw [show enc (1, 1).1 = 4607182418800017408 from enc_one]
      exact k2
    have HST := Lib.hid hst
    clear hst
    generalize ((w.alloc (.cells #[.int .i64 0, .int .i64 0] 49)).alloc (.cells #[.string s, .int .i64 0, .complex .f64 4607182418800017408 4607182418800017408] 75)) = W0 at *
    go_loopw [6] (fun v wr => ∃ (i : Nat) (p : Nat × Nat) (ts : List Tk), i ≤ s.size ∧ ts.length ≤ i ∧ Near p i ∧ AB w s i p v ts wr ∧ (lexAt s i p).pre ts = R) (fun _ wr => s.size - readTo (w.heap.size + 1) wr)
    case atStart => exact ⟨0, (1, 1), [], Nat.zero_le _, Nat.le_refl _, ⟨by decide, by decide, by decide, by decide⟩, HST.out, by rw [LexR.pre_nil]; exact HR.out⟩
    case round =>
      obtain ⟨i, p, ts, hi, hlen, hp, hab, hres⟩ := hrel
      have HRT := Lib.hid (readTo_rd hab.rd)
      have HAB := Lib.hid hab
      have HP := Lib.hid hp
      have HRES := Lib.hid hres
      obtain ⟨A5, c5, rfl⟩ := own_shape4 hab.ac.own
      clear hab hp hres
      go_wp2_with fail
      refine (skip_any s (w.heap.size + 1) i p wr (by omega) hi HP.out HAB.out.rd).mono ?_
      rintro e w1 ⟨rfl, hrd, hgr⟩
      have HAB1 := Lib.hid (HAB.out.turn hrd hgr)
      have hk : i + gapAt false s i ≤ s.size := by
        have := gap_le false (s.data.toList.drop i)
        rw [List.length_drop, len_of] at this
        show i + gap false (s.data.toList.drop i) ≤ s.size
        omega
      have HN1 := Lib.hid (posAt_near s i (gapAt false s i) p HP.out hk)
      have HEQ := Lib.hid (lexAt_eq s i p)
      clear hrd hgr HAB
      generalize gapAt false s i = k at *
      generalize posAt s i p k = q1 at *
      generalize hj : i + k = j at *
      have HIJ := Lib.hid hj
      have hij : i ≤ j := by omega
      clear hj
      obtain ⟨c0, c1, c2⟩ := HAB1.out.rd.cells
      have l0 : w.heap.size + 1 < w1.heap.size := lt_size c0
      go_wp2_with fail
      refine (pos_any q1 w1 (HN1.out.small (by omega))).mono ?_
      rintro e w2 ⟨rfl, hb2⟩
      have HAB2 := Lib.hid (HAB1.out.call hb2)
      clear hb2 c0 c1 c2 l0 HAB1
      go_wp2_with fail
      have hb3 := below_one w2 (.cells #[.int .i64 q1.1, .int .i64 q1.2] 49)
      have hk3 := Blk.new w2 49 #[.int .i64 q1.1, .int .i64 q1.2]
      have HAB3 := Lib.hid (HAB2.out.call hb3)
      have HK3 := Lib.hid hk3
      have hP3 : w.heap.size + 2 ≤ w2.heap.size := HAB2.out.ac.lo
      clear hb3 hk3 HAB2
      generalize (w2.alloc (.cells #[.int .i64 q1.1, .int .i64 q1.2] 49)) = w3 at *
      generalize w2.heap.size = P at *
      refine (token_any s (w.heap.size + 1) j q1 w3 (by omega) hk HN1.out HAB3.out.rd).mono ?_
      rcases htk : tok1 (s.data.toList.drop j) with _ | c | ⟨kd, n⟩
      · have HTK := Lib.hid htk
        clear htk
        simp only [TokRet, tokV]
        rintro e w4 ⟨rfl, hgr⟩
        have HC4 := Lib.hid (HAB3.out.ac.turn hgr)
        clear hgr
        obtain ⟨k4, k5, k6⟩ := boxes2 w4 68 68 #[.int .i64 5, .string ⟨#[]⟩, .int .i64 q1.1, .int .i64 q1.2] #[.int .i64 5, .string ⟨#[]⟩, .int .i64 q1.1, .int .i64 q1.2]
        have HK4 := Lib.hid k4
        have HK6 := Lib.hid k5
        have HB6 := Lib.hid k6
        clear k4 k5 k6
        have HC6 := Lib.hid (HC4.out.call HB6.out)
        have HO := Lib.hid HC6.out.own
        have HLT := Lib.hid HC4.out.own.lt
        go_wp2_with (at_builtin; refine wpList_append_own_at _ rfl _ _ 47 rfl (w.heap.size + 2) 68 i0 (.agg #[.int .i64 0, .string ⟨#[]⟩, .int .i64 0, .int .i64 0]) 4 40 Try.underlying47 hi0 hz0 hz1 hz2 rfl (by decide) _ _ _ rfl HO.out ⟨w4.heap.size + 1, 0, none⟩ 1 1 [.int .i64 5, .string ⟨#[]⟩, .int .i64 q1.1, .int .i64 q1.2] rfl rfl ?c1 ?c2 ?c3 ?c4 ?c5 ?_)
        case c1 =>
          intro m u hu
          have := HK6.out.cell m
          rw [add_none, Nat.zero_add, this]
          simpa using hu
        case c2 => intro u hu; simp at hu; rcases hu with rfl | rfl | rfl | rfl <;> rfl
        case c3 => unfold maxLen; omega
        case c4 => omega
        case c5 => exact HC6.out.lo
        intro v' w7 hown7 hgrow _ hloc
        have hc7 := HC6.out.app ⟨5, [], q1.1, q1.2⟩ hown7 hgrow
        have hk7 : Blk w7 w4.heap.size 68 #[.int .i64 5, .string ⟨#[]⟩, .int .i64 q1.1, .int .i64 q1.2] := (hgrow.block _ HK4.out.lt (fun e => by have := (HLT.out _ e.symm).2; omega)).trans HK4.out
        obtain ⟨A7, c7, rfl⟩ := own_shape4 hown7
        have t0 := hk7.cell 0
        simp only [List.getElem?_toArray, List.getElem?_cons_zero] at t0
        have HC7 := Lib.hid hc7
        obtain ⟨q0c, q1c⟩ := cells2' hc7.q
        have qf0 := hc7.q.frozen 0
        have qf1 := hc7.q.frozen 1
        have hRR : R = .ok (ts ++ [⟨5, [], q1.1, q1.2⟩]) := by rw [← HRES.out, HEQ.out, HTK.out]; rfl
        have HRR := Lib.hid hRR
        clear hc7 hown7 hgrow hloc hk7 hRR
        go_wp2
        obtain ⟨e0, e1⟩ := cells2' (blk_set2' HC7.out.q (.int .i64 0) (.int .i64 0))
        refine bodyPost_ret (v := .tuple #[.slice A7 (ts.length + 1) c7, .agg #[.int .i64 0, .int .i64 0], .int .i64 0]) (by simp [results, Try.results29, go_sem, e0, e1]) rfl ?_
        rw [HRR.out]
        exact ⟨_, rfl, HC7.out.done _ _, below_set (below_set HC7.out.below (Nat.le_refl _)) (Nat.le_refl _)⟩
      · have HTK := Lib.hid htk
        clear htk
        simp only [TokRet, tokZ]
        rintro e w4 ⟨rfl, hgr⟩
        have HC4 := Lib.hid (HAB3.out.ac.turn hgr)
        have hkp : Blk w4 P 49 #[.int .i64 q1.1, .int .i64 q1.2] := (hgr.block P HK3.out.lt (fun e => by have := Option.some.inj e; omega)).trans HK3.out
        have hb5 := below_one w4 (.cells #[.int .i64 0, .string ⟨#[]⟩, .int .i64 0, .int .i64 0] 68)
        have HC5 := Lib.hid (HC4.out.call hb5)
        obtain ⟨p0, p1⟩ := cells2' hkp
        obtain ⟨q0c, q1c⟩ := cells2' HC4.out.q
        have qf0 := HC4.out.q.frozen 0
        have qf1 := HC4.out.q.frozen 1
        have l3 : P < w4.heap.size := lt_size p0
        have l4 : w.heap.size < w4.heap.size := lt_size q0c
        have hce := tok1_err HTK.out
        have hne0 : ((c : Int) != 0) = true := by rw [bne_iff_ne]; omega
        have hRR : R = .err c q1.1 q1.2 := by rw [← HRES.out, HEQ.out, HTK.out]; rfl
        have HRR := Lib.hid hRR
        clear hgr hkp hb5 hRR hce
        go_wp2_with fail
        go_region
        all_goals
          go_wp2
          have hbw := below_set (u := .int .i64 q1.2) (p := ⟨w.heap.size, 1, none⟩) (below_set (u := .int .i64 q1.1) (p := ⟨w.heap.size, 0, none⟩) HC4.out.below (Nat.le_refl _)) (Nat.le_refl _)
          obtain ⟨e0, e1⟩ := cells2' (blk_set2' HC4.out.q (.int .i64 q1.1) (.int .i64 q1.2))
          clear p0 p1 q0c q1c qf0 qf1 l3 l4
          generalize ((w4.setCell ⟨w.heap.size, 0, none⟩ (.int .i64 q1.1)).setCell ⟨w.heap.size, 1, none⟩ (.int .i64 q1.2)) = W9 at *
          have hbo := below_drew (below_one W9 (.cells #[.int .i64 0, .string ⟨#[]⟩, .int .i64 0, .int .i64 0] 68))
          generalize (W9.alloc (.cells #[.int .i64 0, .string ⟨#[]⟩, .int .i64 0, .int .i64 0] 68)).drew = W10 at *
          have g0 := (hbo.cell (p := ⟨w.heap.size, 0, none⟩) (lt_size e0)).trans e0
          have g1 := (hbo.cell (p := ⟨w.heap.size, 1, none⟩) (lt_size e0)).trans e1
          refine bodyPost_ret (v := .tuple #[.slice none 0 0, .agg #[.int .i64 q1.1, .int .i64 q1.2], .int .i64 c]) (by simp [results, Try.results29, go_sem, g0, g1]) rfl ?_
          rw [HRR.out]
          exact ⟨rfl, below_call hbw hbo⟩
      · have HTK := Lib.hid htk
        clear htk
        simp only [TokRet, tokV]
        rintro e w4 ⟨t, rfl, htl, hrd, hgr⟩
        have HAB4 := Lib.hid (HAB3.out.turn hrd hgr)
        have HC4 := Lib.hid HAB4.out.ac
        have HTL := Lib.hid htl
        clear hgr hrd htl
        obtain ⟨k4, k5, k6⟩ := boxes2 w4 68 68 #[.int .i64 kd, .string t, .int .i64 q1.1, .int .i64 q1.2] #[.int .i64 kd, .string t, .int .i64 q1.1, .int .i64 q1.2]
        have HK4 := Lib.hid k4
        have HK6 := Lib.hid k5
        have HB6 := Lib.hid k6
        clear k4 k5 k6
        have HAB6 := Lib.hid (HAB4.out.call HB6.out)
        have HC6 := Lib.hid HAB6.out.ac
        have HO := Lib.hid HC6.out.own
        have HLT := Lib.hid HC4.out.own.lt
        have hkd := tok1_kind HTK.out
        have hkd5 : ((kd : Int) == 5) = false := by rw [beq_eq_false_iff_ne]; omega
        have hn := tok1_len HTK.out
        rw [List.length_drop, len_of] at hn
        clear hkd
        go_wp2_with (at_builtin; refine wpList_append_own_at _ rfl _ _ 47 rfl (w.heap.size + 2) 68 i0 (.agg #[.int .i64 0, .string ⟨#[]⟩, .int .i64 0, .int .i64 0]) 4 40 Try.underlying47 hi0 hz0 hz1 hz2 rfl (by decide) _ _ _ rfl HO.out ⟨w4.heap.size + 1, 0, none⟩ 1 1 [.int .i64 kd, .string t, .int .i64 q1.1, .int .i64 q1.2] rfl rfl ?c1 ?c2 ?c3 ?c4 ?c5 ?_)
        case c1 =>
          intro m u hu
          have := HK6.out.cell m
          rw [add_none, Nat.zero_add, this]
          simpa using hu
        case c2 => intro u hu; simp at hu; rcases hu with rfl | rfl | rfl | rfl <;> rfl
        case c3 => unfold maxLen; omega
        case c4 => omega
        case c5 => exact HC6.out.lo
        intro v' w7 hown7 hgrow _ hloc
        have hab7 := HAB6.out.app ⟨kd, t.data.toList, q1.1, q1.2⟩ hown7 hgrow
        have hk7 : Blk w7 w4.heap.size 68 #[.int .i64 kd, .string t, .int .i64 q1.1, .int .i64 q1.2] := (hgrow.block _ HK4.out.lt (fun e => by have := (HLT.out _ e.symm).2; omega)).trans HK4.out
        obtain ⟨A7, c7, rfl⟩ := own_shape4 hown7
        have t0 := hk7.cell 0
        simp only [List.getElem?_toArray, List.getElem?_cons_zero] at t0
        have HAB7 := Lib.hid hab7
        clear hab7 hown7 hgrow hloc hk7
        go_wp2_with fail
        go_roundw
        case rel =>
          refine ⟨j + n, posAt s j q1 n, ts ++ [⟨kd, t.data.toList, q1.1, q1.2⟩], by omega, by simp; omega, posAt_near s j n q1 HN1.out (by omega), by simpa using HAB7.out, ?_⟩
          rw [← HRES.out, HEQ.out, HTK.out, HTL.out, ← LexR.pre_more]
        case measure =>
          rw [HRT.out, readTo_rd HAB7.out.rd]
          omega
end Go.Proofs.Ytedbjkjncfinnaa
