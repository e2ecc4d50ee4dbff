/-
  Layer 15: truth.
-/
import Derived.Test.YtedbjkjncfinnaaTruthC
import Derived.Test.YtedbjkjncfinnaaJump
import Derived.Test.YtedbjkjncfinnaaWordA
import Derived.Deep.DeepCutAuto
namespace Go.Proofs.Ytedbjkjncfinnaa
open Go.RowKit

theorem rowAt_of_own {w : World} {base n : Nat} {v : Value} {o : Nat → Bool} (h : w.ownsRow base 4 1 v n ((List.range n).map fun i => .bool (o i))) (hn : 0 < n) :
    ∃ b cap, v = .slice (some ⟨b, 0, none⟩) n cap ∧ base ≤ b ∧ RowAt w b 0 n o := by
  obtain ⟨b, cap, h1, h5, _, _, cur, h2, _, h3⟩ := row_of_own h hn
  exact ⟨b, cap, h1, h5, h2.lt, fun i hi => by rw [Nat.zero_add, h2.cell, h3 i hi]⟩
theorem RowAt.congr {w : World} {b o n : Nat} {f g : Nat → Bool} (h : RowAt w b o n f) (he : ∀ i, i < n → f i = g i) : RowAt w b o n g := ⟨h.1, fun i hi => by rw [h.2 i hi, he i hi]⟩

/-- A row of bools comes back. -/
def RetRow (w : World) (n : Nat) (f : Nat → Bool) (e : Ending) (w' : World) : Prop :=
  ∃ b o cap, e = .returned (.slice (some ⟨b, o, none⟩) n cap) ∧ RowAt w' b o n f ∧ Below w.heap.size w w' ∧ w.heap.size ≤ b

/-- What truth says of a property, and hands on for smaller ones. -/
def TruthIs (x : Wd) (A B : Option Addr) (c d : Nat) (t : T) : Prop :=
  ∀ (f : Ltl) (k p : Int) (K : Option Addr) (n e : Nat) (S : Nat → Prop) (w : World), Bd S w → f.norm = t → Ltl.Is w S f [.int .i64 k, .int .i64 p, .slice K n e] → WdIs w S x (.slice A x.stem.length c) (.slice B x.cycle.length d) →
    Calls Try.prog 33 #[.agg #[.slice A x.stem.length c, .slice B x.cycle.length d], .agg #[.int .i64 k, .int .i64 p, .slice K n e]] w (RetRow w x.size (t.sat x))

theorem boxes2 (w : World) (t : TypeId) (c1 c2 : Array Value) : Blk ((w.alloc (.cells c1 t)).alloc (.cells c2 t)) w.heap.size t c1 ∧ Blk ((w.alloc (.cells c1 t)).alloc (.cells c2 t)) (w.heap.size + 1) t c2 ∧ Below w.heap.size w ((w.alloc (.cells c1 t)).alloc (.cells c2 t)) := by
  refine ⟨(Blk.new w t c1).alloc _, ?_, below_alloc (below_one _ _)⟩
  have := Blk.new (w.alloc (.cells c1 t)) t c2
  rwa [World.size_alloc] at this
theorem is_mk {w : World} {S : Nat → Prop} {f : Ltl} {k p : Int} {v : Value} (h : Ltl.Is w S f [.int .i64 k, .int .i64 p, v]) : ∃ r, f = .mk k p r := by
  obtain ⟨k', p', r⟩ := f
  obtain ⟨A', n', c', hcs, _⟩ := h.form
  simp only [List.cons.injEq, Value.int.injEq, and_true, true_and] at hcs
  obtain ⟨rfl, rfl, _⟩ := hcs
  exact ⟨r, rfl⟩

/-- A value that is a row of n bools, elsewhere than in block q. -/
def RowV (wr : World) (q n : Nat) (g : Nat → Bool) (v : Value) : Prop := ∃ b o cap, v = .slice (some ⟨b, o, none⟩) n cap ∧ RowAt wr b o n g ∧ b ≠ q
/-- What truth's world holds between two rounds: its boxes, and the kids' truths so far. -/
structure TrW (x : Wd) (A B : Option Addr) (c d : Nat) (k p : Int) (K : Option Addr) (n e : Nat) (t : T) (w : World) (j : Nat) (wr : World) : Prop where
  below : Below w.heap.size w wr
  bw : Blk wr w.heap.size 27 #[.slice A x.stem.length c, .slice B x.cycle.length d]
  bf : Blk wr (w.heap.size + 1) 24 #[.int .i64 k, .int .i64 p, .slice K n e]
  kids : ∃ v0 v1, Blk wr (w.heap.size + 1 + 1) 81 #[v0, v1] ∧ (∃ A n c, v0 = .slice A n c) ∧ (∃ A n c, v1 = .slice A n c) ∧ (0 < j → RowV wr (w.heap.size + 1 + 1) x.size (fun i => (t.kidAt 0).sat x i) v0) ∧ (1 < j → RowV wr (w.heap.size + 1 + 1) x.size (fun i => (t.kidAt 1).sat x i) v1)
section
variable {x : Wd} {A B : Option Addr} {c d : Nat} {k p : Int} {K : Option Addr} {n e : Nat} {t : T} {w wr w1 w2 : World} {j : Nat}
theorem RowV.below {q n : Nat} {g : Nat → Bool} {v : Value} (h : RowV wr q n g v) (hb : Below wr.heap.size wr w1) : RowV w1 q n g v := by
  obtain ⟨b, o, cap, h1, h2, h3⟩ := h
  exact ⟨b, o, cap, h1, h2.below hb, h3⟩
theorem RowV.far {q n i : Nat} {g : Nat → Bool} {v : Value} (h : RowV wr q n g v) (u : Value) : RowV (wr.setCell ⟨q, i, none⟩ u) q n g v := by
  obtain ⟨b, o, cap, h1, h2, h3⟩ := h
  refine ⟨b, o, cap, h1, ⟨by simpa using h2.1, fun i hi => ?_⟩, h3⟩
  rw [World.cell?_setCell_far _ _ _ _ (by exact Ne.symm h3)]
  exact h2.2 i hi
theorem TrW.call (h : TrW x A B c d k p K n e t w j wr) (hb : Below wr.heap.size wr w1) : TrW x A B c d k p K n e t w j w1 := by
  obtain ⟨h1, h2, h3, v0, v1, h4, h5, h6, h7, h8⟩ := h
  exact ⟨below_call h1 hb, h2.call hb, h3.call hb, v0, v1, h4.call hb, h5, h6, fun h => (h7 h).below hb, fun h => (h8 h).below hb⟩
theorem TrW.put (h : TrW x A B c d k p K n e t w j w1) (hj : j < 2) {b o cap : Nat} (hs : 0 < x.size) (hr : RowAt w1 b o x.size (fun i => (t.kidAt j).sat x i)) :
    TrW x A B c d k p K n e t w (j + 1) (w1.setCell ⟨w.heap.size + 1 + 1, j, none⟩ (.slice (some ⟨b, o, none⟩) x.size cap)) := by
  obtain ⟨h1, h2, h3, v0, v1, h4, ⟨A0, n0, c0, h5⟩, ⟨A1, n1, c1, h6⟩, h7, h8⟩ := h
  have hne : b ≠ w.heap.size + 1 + 1 := by
    rintro rfl
    have e1 := hr.2 0 hs
    rw [h4.cell] at e1
    rcases o with _ | _ | o
    · simp [h5] at e1
    · simp [h6] at e1
    · simp at e1
  have hv : RowV w1 (w.heap.size + 1 + 1) x.size (fun i => (t.kidAt j).sat x i) (.slice (some ⟨b, o, none⟩) x.size cap) := ⟨b, o, cap, rfl, hr, hne⟩
  refine ⟨below_set h1 (by show w.heap.size ≤ w.heap.size + 1 + 1; omega), h2.far (p := ⟨w.heap.size + 1 + 1, j, none⟩) (by show w.heap.size ≠ w.heap.size + 1 + 1; omega) _, h3.far (p := ⟨w.heap.size + 1 + 1, j, none⟩) (by show w.heap.size + 1 ≠ w.heap.size + 1 + 1; omega) _, ?_⟩
  rcases (show j = 0 ∨ j = 1 by omega) with rfl | rfl
  · exact ⟨_, v1, by simpa using h4.set_ 0 (.slice (some ⟨b, o, none⟩) x.size cap), ⟨_, _, _, rfl⟩, ⟨A1, n1, c1, h6⟩, fun _ => hv.far _, fun h => by omega⟩
  · exact ⟨v0, _, by simpa using h4.set_ 1 (.slice (some ⟨b, o, none⟩) x.size cap), ⟨A0, n0, c0, h5⟩, ⟨_, _, _, rfl⟩, fun h => (h7 (by omega)).far _, fun _ => hv.far _⟩
theorem TrW.cell_ {i : Nat} (h : TrW x A B c d k p K n e t w j wr) (hi : (i : Int) < 2) : (∃ v, wr.cell? ⟨w.heap.size + 1 + 1, i, none⟩ = some v) ∧ wr.frozen? ⟨w.heap.size + 1 + 1, i, none⟩ = false := by
  obtain ⟨h1, h2, h3, v0, v1, h4, h5, h6, h7, h8⟩ := h
  refine ⟨?_, h4.frozen i⟩
  rw [h4.cell]
  rcases (show i = 0 ∨ i = 1 by omega) with rfl | rfl
  · exact ⟨v0, rfl⟩
  · exact ⟨v1, rfl⟩
theorem TrW.cells (h : TrW x A B c d k p K n e t w j wr) : wr.cell? ⟨w.heap.size, 0, none⟩ = some (.slice A x.stem.length c) ∧ wr.cell? ⟨w.heap.size, 1, none⟩ = some (.slice B x.cycle.length d) ∧ wr.cell? ⟨w.heap.size + 1, 0, none⟩ = some (.int .i64 k) ∧ wr.cell? ⟨w.heap.size + 1, 1, none⟩ = some (.int .i64 p) ∧ wr.cell? ⟨w.heap.size + 1, 2, none⟩ = some (.slice K n e) := by
  rw [h.bw.cell, h.bw.cell, h.bf.cell, h.bf.cell, h.bf.cell]
  exact ⟨rfl, rfl, rfl, rfl, rfl⟩
end

set_option maxRecDepth 100000 in
set_option maxHeartbeats 8000000 in
theorem truth_any (x : Wd) (A B : Option Addr) (c d : Nat) (hx : x.size ≤ 1000000000) (h0 : 0 < x.cycle.length) : ∀ (m : Nat) (t : T), t.size ≤ m → TruthIs x A B c d t := by
  intro m
  induction m with
  | zero => intro t ht; have := t.size_pos; omega
  | succ m ih =>
    intro t ht f k p K n e S w hS hn hf hw
    have hs0 : 0 < x.size := by unfold Wd.size; omega
    obtain ⟨k1, k2, k3, kb, ks⟩ := boxes3 w 27 24 81 #[.slice A x.stem.length c, .slice B x.cycle.length d] #[.int .i64 k, .int .i64 p, .slice K n e] #[.slice none 0 0, .slice none 0 0]
    have HT0 := Lib.hid (show TrW x A B c d k p K n e t w 0 _ from ⟨kb, k1, k2, _, _, k3, ⟨_, _, _, rfl⟩, ⟨_, _, _, rfl⟩, fun h => by omega, fun h => by omega⟩)
    have HF := Lib.hid hf
    have HW := Lib.hid hw
    have HS := Lib.hid hS
    have c0 := k1.cell 0
    have c1 := k1.cell 1
    have c2 := k2.cell 0
    have c3 := k2.cell 1
    have c4 := k2.cell 2
    simp only [List.getElem?_toArray, List.getElem?_cons_zero, List.getElem?_cons_succ] at c0 c1 c2 c3 c4
    have har : arity k = t.ar ∧ t.ar ≤ 2 := by
      obtain ⟨r, rfl⟩ := is_mk hf
      rw [← hn]
      exact ⟨ar_of k p r, T.ar_le _⟩
    have HAR := Lib.hid har
    have IH := Lib.hid ih
    have HN := Lib.hid hn
    have HKS := Lib.hid ks
    clear ih hf hw hS k1 k2 k3 kb har hn ks
    go_enter Try.func33, Try.ntmps33
    go_wp2_with fail
    generalize (((w.alloc (.cells #[.slice A x.stem.length c, .slice B x.cycle.length d] 27)).alloc (.cells #[.int .i64 k, .int .i64 p, .slice K n e] 24)).alloc (.cells #[.slice none 0 0, .slice none 0 0] 81)) = W0 at *
    refine (arity_any k W0).mono ?_
    rintro e' w1 ⟨rfl, rfl⟩
    have h1 := HAR.out.1
    have h2 := HAR.out.2
    rw [h1]
    clear h1

    obtain ⟨r, hr⟩ : ∃ r, t.ar = r := ⟨_, rfl⟩
    have HR := Lib.hid hr
    rw [hr] at h2 ⊢
    clear hr
    go_wp2_with fail
    go_loopw [13] (fun v wr => ∃ j : Nat, j ≤ r ∧ v = .int .i64 j ∧ TrW x A B c d k p K n e t w j wr) (fun v _ => r - (intOf v).toNat)
    case atStart => exact ⟨0, Nat.zero_le _, rfl, HT0.out⟩
    case round =>
      obtain ⟨j, hj, rfl, htr⟩ := hrel
      by_cases hlt : j < r
      · have e0 := htr.bw.cell 0
        have e1 := htr.bw.cell 1
        have e2 := htr.bf.cell 0
        have e3 := htr.bf.cell 1
        have e4 := htr.bf.cell 2
        simp only [List.getElem?_toArray, List.getElem?_cons_zero, List.getElem?_cons_succ] at e0 e1 e2 e3 e4
        have HTR := Lib.hid htr
        have g0 : (0 : Int) ≤ (j : Int) := by omega
        have g1 : (j : Int) < 2 := by omega
        have HL := Lib.hid hlt
        obtain ⟨D, md, dd, hkid, hkc⟩ := kid_exact f k p K n e j w S HF.out
        have HKI := Lib.hid hkid
        have HKC := Lib.hid hkc
        have hbw := htr.below
        have hbl : ∀ W', Below wr.heap.size wr W' → _ := fun W' h => (htr.call h).cells
        have HBL := Lib.hid hbl
        have HBW := Lib.hid hbw
        have hrec : ∀ W', Below wr.heap.size wr W' → Calls Try.prog 33 #[.agg #[.slice A x.stem.length c, .slice B x.cycle.length d], .agg #[.int .i64 (f.kid j).kind, .int .i64 (f.kid j).prop, .slice D md dd]] W' (RetRow W' x.size ((t.kidAt j).sat x)) := fun W' h =>
          IH.out (t.kidAt j) (by have := t.kid_size j (by rw [HR.out]; exact hlt); omega) (f.kid j) _ _ D md dd S W' (HS.out.call (below_call hbw h).size) (by rw [← HN.out]; exact kid_of f j (by rw [HN.out, HR.out]; exact hlt)) (HKI.out.call HS.out (below_call hbw h)) (HW.out.call HS.out (below_call hbw h))
        have HREC := Lib.hid hrec
        clear hlt hkid hkc hbl hbw hrec htr
        go_wp2_with fail
        go_region_held3 (fun W' => W'.cell? ⟨w.heap.size, 0, none⟩ = some (.slice A x.stem.length c) ∧ W'.cell? ⟨w.heap.size, 1, none⟩ = some (.slice B x.cycle.length d) ∧ W'.cell? ⟨w.heap.size + 1, 0, none⟩ = some (.int .i64 k) ∧ W'.cell? ⟨w.heap.size + 1, 1, none⟩ = some (.int .i64 p) ∧ W'.cell? ⟨w.heap.size + 1, 2, none⟩ = some (.slice K n e))
          (first | (with_reducible exact HBL.out _ (below_drew (Below.refl _ _))) | (with_reducible exact HBL.out _ (below_undrew hb1)) | (with_reducible exact HTR2.out.cells) | (with_reducible exact HTR3.out.cells))
          (first
            | (go_at_call 42; refine (HKC.out _ _ rfl (below_drew HBW.out)).mono ?_; rintro e' w1 ⟨rfl, hb1⟩)
            | (go_at_call 33; refine (HREC.out _ (below_undrew hb1)).mono ?_; rintro e' w2 ⟨b2, o2, cap2, rfl, hrow, hb2, _⟩; have hb3 := below_call (below_undrew hb1) hb2; have HTR2 := Lib.hid (HTR.out.call hb3); have HROW := Lib.hid hrow; clear hrow; obtain ⟨⟨vj, hcj⟩, hfj⟩ := HTR2.out.cell_ g1; have HTR3 := Lib.hid (HTR2.out.put (cap := cap2) (by omega) hs0 HROW.out)))
        go_wp2_with fail
        go_roundw
        case rel => exact ⟨j + 1, by have := HL.out; omega, by go_num, HTR3.out⟩
        case measure => simp [intOf]; have := HL.out; omega
      · obtain rfl : j = r := by omega
        go_wp2_with fail
        obtain ⟨v0, v1, hk3, ⟨A0, n0, c0', rfl⟩, ⟨A1, n1, c1', rfl⟩, hr0, hr1⟩ := htr.kids
        have HR0 := Lib.hid hr0
        have HR1 := Lib.hid hr1
        have HTR := Lib.hid htr
        have e5 := hk3.cell 0
        have e6 := hk3.cell 1
        simp only [List.getElem?_toArray, List.getElem?_cons_zero, List.getElem?_cons_succ] at e5 e6
        have HK3 := Lib.hid hk3
        clear hr0 hr1 htr hk3
        go_cut [7, 8] from 24 to 27 (fun vp vq W => ∃ gp gq, vp = .pointer (some ⟨gp, 0, none⟩) ∧ vq = .pointer (some ⟨gq, 0, none⟩) ∧ Blk W gp 58 #[.slice A0 n0 c0'] ∧ Blk W gq 58 #[.slice A1 n1 c1'] ∧ Below wr.heap.size wr W)
        case first =>
          go_region_held3 (fun W' => W'.cell? ⟨w.heap.size + 1 + 1, 0, none⟩ = some (.slice A0 n0 c0') ∧ W'.cell? ⟨w.heap.size + 1 + 1, 1, none⟩ = some (.slice A1 n1 c1'))
            (first | (with_reducible exact ⟨e5, e6⟩) | go_keep) (fail)
          · go_wp2_with fail
            go_meet
            case rel => obtain ⟨q1, q2, q3⟩ := boxes2 wr 58 #[.slice A0 n0 c0'] #[.slice A1 n1 c1']; exact ⟨_, _, rfl, rfl, q1, q2, below_drew q3⟩
          · go_wp2_with fail
            go_meet
            case rel => obtain ⟨q1, q2, q3⟩ := boxes2 wr 58 #[.slice A1 n1 c1'] #[.slice A0 n0 c0']; exact ⟨_, _, rfl, rfl, q2, q1, below_drew q3⟩
        case rest =>
          obtain ⟨gp, gq, rfl, rfl, hbp, hbq, hbc⟩ := hcut
          have htr2 := HTR.out.call hbc
          obtain ⟨e0, e1, e2, e3, e4⟩ := htr2.cells
          have HTR2 := Lib.hid htr2
          have HBP := Lib.hid hbp
          have HBQ := Lib.hid hbq
          have HBC := Lib.hid hbc
          clear htr2 hbp hbq hbc e5 e6
          go_wp2_with fail
          refine (each_any x A B c d _ #[] wc (fun _ => true) hx truth1_enters (fun wx _ i _ => truth1_any i wx)).mono ?_
          rintro e' wa ⟨va, rfl, howna, hba⟩
          obtain ⟨ba, capa, rfl, hloa, hrowa⟩ := rowAt_of_own howna hs0
          have HBA := Lib.hid hba
          have HRA := Lib.hid hrowa
          obtain ⟨e0, e1, e2, e3, e4⟩ := (HTR2.out.call hba).cells
          have hkd : KindOf k p (f.kid 0) (f.kid 1) t := by
            obtain ⟨r, rfl⟩ := is_mk HF.out
            rw [← HN.out]
            exact kind_of k p r
          have HK := Lib.hid hkd
          have hsz : ((x.stem.length + x.cycle.length : Nat) : Int) = (x.size : Int) := rfl
          have hmk := run_falses x.size hx
          have hx1 : (0 : Int) ≤ (x.size : Int) := by omega
          have hx2 : (x.size : Int) ≤ 1000000000 := by omega
          clear hba hrowa howna hkd
          cases t with
          | tt =>
            obtain rfl : k = 0 := HK.out
            clear HK
            go_wp2
            go_ret
            exact ⟨ba, 0, capa, rfl, HRA.out.congr fun i hi => rfl, below_call HTR2.out.below HBA.out, Nat.le_trans HTR2.out.below.size hloa⟩
          | ff =>
            obtain ⟨q0, q2, q3, q4, q5, q7, q8, q9, q10, q11, q12⟩ : _ ∧ _ := HK.out
            have r0 : (k == 0) = false := by simpa using q0
            have r2 : (k == 2) = false := by simpa using q2
            have r3 : (k == 3) = false := by simpa using q3
            have r4 : (k == 4) = false := by simpa using q4
            have r5 : (k == 5) = false := by simpa using q5
            have r7 : (k == 7) = false := by simpa using q7
            have r8 : (k == 8) = false := by simpa using q8
            have r9 : (k == 9) = false := by simpa using q9
            have r10 : (k == 10) = false := by simpa using q10
            have r11 : (k == 11) = false := by simpa using q11
            have r12 : (k == 12) = false := by simpa using q12
            clear q0 q2 q3 q4 q5 q7 q8 q9 q10 q11 q12 HK
            go_wp2_with fail
            refine (wsize_any _ _ _ _ _ _ _ hx).mono ?_
            rintro e' w3 ⟨rfl, hb3⟩
            rw [hsz]
            go_wp2
            go_ret
            exact ⟨w3.heap.size, 0, x.size, rfl, ⟨by simp, fun i hi => by rw [Nat.zero_add, (Blk.new w3 4 (falses x.size)).cell, falses_at hi]; rfl⟩, below_alloc (below_call (below_call HTR2.out.below HBA.out) hb3), (below_call (below_call HTR2.out.below HBA.out) hb3).size⟩
          | atom a =>
            obtain ⟨rfl, rfl⟩ : k = 2 ∧ _ := HK.out
            clear HK
            go_wp2_with fail
            refine (each_any x A B c d _ #[.pointer (some ⟨w.heap.size, 0, none⟩), .pointer (some ⟨w.heap.size + 1, 0, none⟩)] wa (fun i => hasAt (x.letter i) p) hx truth2_enters (fun wx hbx i hi => ?_)).mono ?_
            · have hb := below_call (below_call HTR2.out.below HBA.out) hbx
              obtain ⟨q0, q1, _, q3, _⟩ := ((HTR2.out.call HBA.out).call hbx).cells
              exact truth2_any x A B c d (w.heap.size + 1) w.heap.size i p wx S hx hi (HW.out.call HS.out hb) (HS.out.call hb.size) q0 q1 q3
            rintro e' w3 ⟨v3, rfl, hown3, hb3⟩
            obtain ⟨b3, cap3, rfl, hlo3, hrow3⟩ := rowAt_of_own hown3 hs0
            have HRW3 := Lib.hid hrow3
            clear hown3 hrow3
            go_wp2
            go_ret
            exact ⟨b3, 0, cap3, rfl, HRW3.out.congr fun i hi => by simp only [T.sat, Wd.far, x.place_id i hi], below_call (below_call HTR2.out.below HBA.out) hb3, Nat.le_trans (below_call HTR2.out.below HBA.out).size hlo3⟩
          | not a =>
            obtain ⟨rfl, _⟩ : k = 3 ∧ _ := HK.out
            obtain rfl : j = 1 := HR.out.symm
            clear HK
            obtain ⟨bp, op, cp, he, hrowp, _⟩ := HR0.out (by omega)
            simp only [Value.slice.injEq] at he
            obtain ⟨rfl, rfl, rfl⟩ := he
            have hrp := (hrowp.below HBC.out).below HBA.out
            have HRWp := Lib.hid hrp
            have HBXp := Lib.hid ((HBP.out).call HBA.out)
            clear hrowp hrp
            go_wp2_with fail
            refine (each_any x A B c d _ #[.pointer (some ⟨gp, 0, none⟩)] wa (fun i => !(a.sat x i)) hx truth3_enters (fun wx hbx i hi => truth3_any gp x.size i (a.sat x) wx (BoxRow.below HBXp.out HRWp.out hbx) hi)).mono ?_
            rintro e' w3 ⟨v3, rfl, hown3, hb3⟩
            obtain ⟨b3, cap3, rfl, hlo3, hrow3⟩ := rowAt_of_own hown3 hs0
            have HRW3 := Lib.hid hrow3
            clear hown3 hrow3
            go_wp2
            go_ret
            exact ⟨b3, 0, cap3, rfl, HRW3.out.congr fun i hi => rfl, below_call (below_call HTR2.out.below HBA.out) hb3, Nat.le_trans (below_call HTR2.out.below HBA.out).size hlo3⟩
          | and a b =>
            obtain ⟨rfl, _, _⟩ : k = 4 ∧ _ := HK.out
            obtain rfl : j = 2 := HR.out.symm
            clear HK
            obtain ⟨bp, op, cp, he, hrowp, _⟩ := HR0.out (by omega)
            simp only [Value.slice.injEq] at he
            obtain ⟨rfl, rfl, rfl⟩ := he
            have hrp := (hrowp.below HBC.out).below HBA.out
            have HRWp := Lib.hid hrp
            have HBXp := Lib.hid ((HBP.out).call HBA.out)
            clear hrowp hrp
            obtain ⟨bq, oq, cq, he, hrowq, _⟩ := HR1.out (by omega)
            simp only [Value.slice.injEq] at he
            obtain ⟨rfl, rfl, rfl⟩ := he
            have hrq := (hrowq.below HBC.out).below HBA.out
            have HRWq := Lib.hid hrq
            have HBXq := Lib.hid ((HBQ.out).call HBA.out)
            clear hrowq hrq
            go_wp2_with fail
            refine (each_any x A B c d _ #[.pointer (some ⟨gp, 0, none⟩), .pointer (some ⟨gq, 0, none⟩)] wa (fun i => a.sat x i && b.sat x i) hx truth4_enters (fun wx hbx i hi => truth4_any gp gq x.size i (a.sat x) (b.sat x) wx (BoxRow.below HBXp.out HRWp.out hbx) (BoxRow.below HBXq.out HRWq.out hbx) hi)).mono ?_
            rintro e' w3 ⟨v3, rfl, hown3, hb3⟩
            obtain ⟨b3, cap3, rfl, hlo3, hrow3⟩ := rowAt_of_own hown3 hs0
            have HRW3 := Lib.hid hrow3
            clear hown3 hrow3
            go_wp2
            go_ret
            exact ⟨b3, 0, cap3, rfl, HRW3.out.congr fun i hi => rfl, below_call (below_call HTR2.out.below HBA.out) hb3, Nat.le_trans (below_call HTR2.out.below HBA.out).size hlo3⟩
          | or a b =>
            obtain ⟨rfl, _, _⟩ : k = 5 ∧ _ := HK.out
            obtain rfl : j = 2 := HR.out.symm
            clear HK
            obtain ⟨bp, op, cp, he, hrowp, _⟩ := HR0.out (by omega)
            simp only [Value.slice.injEq] at he
            obtain ⟨rfl, rfl, rfl⟩ := he
            have hrp := (hrowp.below HBC.out).below HBA.out
            have HRWp := Lib.hid hrp
            have HBXp := Lib.hid ((HBP.out).call HBA.out)
            clear hrowp hrp
            obtain ⟨bq, oq, cq, he, hrowq, _⟩ := HR1.out (by omega)
            simp only [Value.slice.injEq] at he
            obtain ⟨rfl, rfl, rfl⟩ := he
            have hrq := (hrowq.below HBC.out).below HBA.out
            have HRWq := Lib.hid hrq
            have HBXq := Lib.hid ((HBQ.out).call HBA.out)
            clear hrowq hrq
            go_wp2_with fail
            refine (each_any x A B c d _ #[.pointer (some ⟨gp, 0, none⟩), .pointer (some ⟨gq, 0, none⟩)] wa (fun i => a.sat x i || b.sat x i) hx truth5_enters (fun wx hbx i hi => truth5_any gp gq x.size i (a.sat x) (b.sat x) wx (BoxRow.below HBXp.out HRWp.out hbx) (BoxRow.below HBXq.out HRWq.out hbx) hi)).mono ?_
            rintro e' w3 ⟨v3, rfl, hown3, hb3⟩
            obtain ⟨b3, cap3, rfl, hlo3, hrow3⟩ := rowAt_of_own hown3 hs0
            have HRW3 := Lib.hid hrow3
            clear hown3 hrow3
            go_wp2
            go_ret
            exact ⟨b3, 0, cap3, rfl, HRW3.out.congr fun i hi => rfl, below_call (below_call HTR2.out.below HBA.out) hb3, Nat.le_trans (below_call HTR2.out.below HBA.out).size hlo3⟩
          | imp a b =>
            obtain ⟨rfl, _, _⟩ : k = 7 ∧ _ := HK.out
            obtain rfl : j = 2 := HR.out.symm
            clear HK
            obtain ⟨bp, op, cp, he, hrowp, _⟩ := HR0.out (by omega)
            simp only [Value.slice.injEq] at he
            obtain ⟨rfl, rfl, rfl⟩ := he
            have hrp := (hrowp.below HBC.out).below HBA.out
            have HRWp := Lib.hid hrp
            have HBXp := Lib.hid ((HBP.out).call HBA.out)
            clear hrowp hrp
            obtain ⟨bq, oq, cq, he, hrowq, _⟩ := HR1.out (by omega)
            simp only [Value.slice.injEq] at he
            obtain ⟨rfl, rfl, rfl⟩ := he
            have hrq := (hrowq.below HBC.out).below HBA.out
            have HRWq := Lib.hid hrq
            have HBXq := Lib.hid ((HBQ.out).call HBA.out)
            clear hrowq hrq
            go_wp2_with fail
            refine (each_any x A B c d _ #[.pointer (some ⟨gp, 0, none⟩), .pointer (some ⟨gq, 0, none⟩)] wa (fun i => !(a.sat x i) || b.sat x i) hx truth6_enters (fun wx hbx i hi => truth6_any gp gq x.size i (a.sat x) (b.sat x) wx (BoxRow.below HBXp.out HRWp.out hbx) (BoxRow.below HBXq.out HRWq.out hbx) hi)).mono ?_
            rintro e' w3 ⟨v3, rfl, hown3, hb3⟩
            obtain ⟨b3, cap3, rfl, hlo3, hrow3⟩ := rowAt_of_own hown3 hs0
            have HRW3 := Lib.hid hrow3
            clear hown3 hrow3
            go_wp2
            go_ret
            exact ⟨b3, 0, cap3, rfl, HRW3.out.congr fun i hi => rfl, below_call (below_call HTR2.out.below HBA.out) hb3, Nat.le_trans (below_call HTR2.out.below HBA.out).size hlo3⟩
          | next a =>
            obtain ⟨rfl, _⟩ : k = 8 ∧ _ := HK.out
            obtain rfl : j = 1 := HR.out.symm
            clear HK
            obtain ⟨bp, op, cp, he, hrowp, _⟩ := HR0.out (by omega)
            simp only [Value.slice.injEq] at he
            obtain ⟨rfl, rfl, rfl⟩ := he
            have hrp := (hrowp.below HBC.out).below HBA.out
            have HRWp := Lib.hid hrp
            have HBXp := Lib.hid ((HBP.out).call HBA.out)
            clear hrowp hrp
            go_wp2_with fail
            refine (each_any x A B c d _ #[.pointer (some ⟨gp, 0, none⟩), .pointer (some ⟨w.heap.size, 0, none⟩)] wa (fun i => a.sat x (x.next i)) hx truth7_enters (fun wx hbx i hi => ?_)).mono ?_
            · obtain ⟨q0, q1, _, _, _⟩ := ((HTR2.out.call HBA.out).call hbx).cells
              exact truth7_any x A B c d gp w.heap.size i (a.sat x) wx hx h0 (BoxRow.below HBXp.out HRWp.out hbx) hi q0 q1
            rintro e' w3 ⟨v3, rfl, hown3, hb3⟩
            obtain ⟨b3, cap3, rfl, hlo3, hrow3⟩ := rowAt_of_own hown3 hs0
            have HRW3 := Lib.hid hrow3
            clear hown3 hrow3
            go_wp2
            go_ret
            exact ⟨b3, 0, cap3, rfl, HRW3.out.congr fun i hi => by simp only [T.sat]; rw [a.sat_round x (i + 1), x.place_next i hi], below_call (below_call HTR2.out.below HBA.out) hb3, Nat.le_trans (below_call HTR2.out.below HBA.out).size hlo3⟩
          | some_ a =>
            obtain ⟨rfl, _⟩ : k = 10 ∧ _ := HK.out
            obtain rfl : j = 1 := HR.out.symm
            clear HK
            obtain ⟨bp, op, cp, he, hrowp, _⟩ := HR0.out (by omega)
            simp only [Value.slice.injEq] at he
            obtain ⟨rfl, rfl, rfl⟩ := he
            have hrp := (hrowp.below HBC.out).below HBA.out
            have HRWp := Lib.hid hrp
            have HBXp := Lib.hid ((HBP.out).call HBA.out)
            clear hrowp hrp
            have d0 := HBXp.out.cell 0
            simp only [List.getElem?_toArray, List.getElem?_cons_zero] at d0
            go_wp2_with fail
            refine (until_any x A B c d ba 0 capa bp op _ (fun _ => true) (a.sat x) wa hx h0 HRA.out HRWp.out).mono ?_
            rintro e' w3 ⟨v3, o3, rfl, hown3, hset, hb3⟩
            obtain ⟨b3, cap3, rfl, hlo3, hrow3⟩ := rowAt_of_own hown3 hs0
            have HRW3 := Lib.hid hrow3
            have HSET := Lib.hid hset
            clear hown3 hrow3 hset
            go_wp2
            go_ret
            exact ⟨b3, 0, cap3, rfl, HRW3.out.congr fun i hi => by simp only [T.sat]; exact un_settled h0 (fun _ => rfl) (a.sat_round x) HSET.out i hi, below_call (below_call HTR2.out.below HBA.out) hb3, Nat.le_trans (below_call HTR2.out.below HBA.out).size hlo3⟩
          | until_ a b =>
            obtain ⟨rfl, _, _⟩ : k = 11 ∧ _ := HK.out
            obtain rfl : j = 2 := HR.out.symm
            clear HK
            obtain ⟨bp, op, cp, he, hrowp, _⟩ := HR0.out (by omega)
            simp only [Value.slice.injEq] at he
            obtain ⟨rfl, rfl, rfl⟩ := he
            have hrp := (hrowp.below HBC.out).below HBA.out
            have HRWp := Lib.hid hrp
            have HBXp := Lib.hid ((HBP.out).call HBA.out)
            clear hrowp hrp
            obtain ⟨bq, oq, cq, he, hrowq, _⟩ := HR1.out (by omega)
            simp only [Value.slice.injEq] at he
            obtain ⟨rfl, rfl, rfl⟩ := he
            have hrq := (hrowq.below HBC.out).below HBA.out
            have HRWq := Lib.hid hrq
            have HBXq := Lib.hid ((HBQ.out).call HBA.out)
            clear hrowq hrq
            have d0 := HBXp.out.cell 0
            simp only [List.getElem?_toArray, List.getElem?_cons_zero] at d0
            have d1 := HBXq.out.cell 0
            simp only [List.getElem?_toArray, List.getElem?_cons_zero] at d1
            go_wp2_with fail
            refine (until_any x A B c d bp op _ bq oq _ (a.sat x) (b.sat x) wa hx h0 HRWp.out HRWq.out).mono ?_
            rintro e' w3 ⟨v3, o3, rfl, hown3, hset, hb3⟩
            obtain ⟨b3, cap3, rfl, hlo3, hrow3⟩ := rowAt_of_own hown3 hs0
            have HRW3 := Lib.hid hrow3
            have HSET := Lib.hid hset
            clear hown3 hrow3 hset
            go_wp2
            go_ret
            exact ⟨b3, 0, cap3, rfl, HRW3.out.congr fun i hi => by simp only [T.sat]; exact un_settled h0 (a.sat_round x) (b.sat_round x) HSET.out i hi, below_call (below_call HTR2.out.below HBA.out) hb3, Nat.le_trans (below_call HTR2.out.below HBA.out).size hlo3⟩
          | free a b =>
            obtain ⟨rfl, _, _⟩ : k = 12 ∧ _ := HK.out
            obtain rfl : j = 2 := HR.out.symm
            clear HK
            obtain ⟨bp, op, cp, he, hrowp, _⟩ := HR0.out (by omega)
            simp only [Value.slice.injEq] at he
            obtain ⟨rfl, rfl, rfl⟩ := he
            have hrp := (hrowp.below HBC.out).below HBA.out
            have HRWp := Lib.hid hrp
            have HBXp := Lib.hid ((HBP.out).call HBA.out)
            clear hrowp hrp
            obtain ⟨bq, oq, cq, he, hrowq, _⟩ := HR1.out (by omega)
            simp only [Value.slice.injEq] at he
            obtain ⟨rfl, rfl, rfl⟩ := he
            have hrq := (hrowq.below HBC.out).below HBA.out
            have HRWq := Lib.hid hrq
            have HBXq := Lib.hid ((HBQ.out).call HBA.out)
            clear hrowq hrq
            have d0 := HBXp.out.cell 0
            simp only [List.getElem?_toArray, List.getElem?_cons_zero] at d0
            have d1 := HBXq.out.cell 0
            simp only [List.getElem?_toArray, List.getElem?_cons_zero] at d1
            go_wp2_with fail
            refine (free_any x A B c d bp op _ bq oq _ (a.sat x) (b.sat x) wa hx h0 HRWp.out HRWq.out).mono ?_
            rintro e' w3 ⟨v3, o3, rfl, hown3, hset, hb3⟩
            obtain ⟨b3, cap3, rfl, hlo3, hrow3⟩ := rowAt_of_own hown3 hs0
            have HRW3 := Lib.hid hrow3
            have HSET := Lib.hid hset
            clear hown3 hrow3 hset
            go_wp2
            go_ret
            exact ⟨b3, 0, cap3, rfl, HRW3.out.congr fun i hi => by simp only [T.sat]; exact fr_settled h0 (a.sat_round x) (b.sat_round x) HSET.out i hi, below_call (below_call HTR2.out.below HBA.out) hb3, Nat.le_trans (below_call HTR2.out.below HBA.out).size hlo3⟩
          | all a =>
            obtain ⟨rfl, _⟩ : k = 9 ∧ _ := HK.out
            obtain rfl : j = 1 := HR.out.symm
            clear HK
            obtain ⟨bp, op, cp, he, hrowp, _⟩ := HR0.out (by omega)
            simp only [Value.slice.injEq] at he
            obtain ⟨rfl, rfl, rfl⟩ := he
            have hrp := (hrowp.below HBC.out).below HBA.out
            have HRWp := Lib.hid hrp
            have HBXp := Lib.hid ((HBP.out).call HBA.out)
            clear hrowp hrp
            have d0 := HBXp.out.cell 0
            simp only [List.getElem?_toArray, List.getElem?_cons_zero] at d0
            have l0 := HBXp.out.lt
            have hbl : ∀ W', Below wa.heap.size wa W' → W'.cell? ⟨w.heap.size, 0, none⟩ = some (.slice A x.stem.length c) ∧ W'.cell? ⟨w.heap.size, 1, none⟩ = some (.slice B x.cycle.length d) ∧ W'.cell? ⟨gp, 0, none⟩ = some (.slice (some ⟨bp, op, none⟩) x.size c0') := fun W' h =>
              ⟨((HTR2.out.call HBA.out).call h).cells.1, ((HTR2.out.call HBA.out).call h).cells.2.1, (h.cell (p := ⟨gp, 0, none⟩) l0).trans d0⟩
            have HBL := Lib.hid hbl
            clear hbl
            go_wp2_with fail
            go_region_held3 (fun W' => W'.cell? ⟨w.heap.size, 0, none⟩ = some (.slice A x.stem.length c) ∧ W'.cell? ⟨w.heap.size, 1, none⟩ = some (.slice B x.cycle.length d) ∧ W'.cell? ⟨gp, 0, none⟩ = some (.slice (some ⟨bp, op, none⟩) x.size c0'))
              (first | (with_reducible exact HBL.out _ (below_drew (Below.refl _ _))) | (with_reducible exact HBL.out _ (below_undrew hb2)) | (with_reducible exact HBL.out _ hb4) | (with_reducible exact HBL.out _ (below_alloc (below_undrew hb2))))
              (first
                | (go_at_call 66; refine (wsize_any _ _ _ _ _ _ _ hx).mono ?_; rintro e' w2 ⟨rfl, hb2⟩; rw [hsz])
                | (go_at_call 65; refine (free_any x A B c d w2.heap.size 0 x.size bp op _ (fun _ => false) (a.sat x) (w2.alloc (.cells (falses x.size) 4)) hx h0 ⟨by simp, fun i hi => by rw [Nat.zero_add, (Blk.new w2 4 (falses x.size)).cell, falses_at hi]⟩ (HRWp.out.below (below_alloc (below_undrew hb2)))).mono ?_; rintro e' w3 ⟨v3, o3, rfl, hown3, hset, hb3⟩; have hb4 := below_call (below_alloc (o := .cells (falses x.size) 4) (below_undrew hb2)) hb3; obtain ⟨b3, cap3, rfl, hlo3, hrow3⟩ := rowAt_of_own hown3 hs0; have HRW3 := Lib.hid hrow3; have HSET := Lib.hid hset; clear hown3 hrow3 hset))
            all_goals
              go_wp2
              go_ret
              exact ⟨b3, 0, cap3, rfl, HRW3.out.congr fun i hi => by simp only [T.sat]; exact fr_settled h0 (fun _ => rfl) (a.sat_round x) HSET.out i hi, below_call (below_call HTR2.out.below HBA.out) hb4, Nat.le_trans (below_call (below_call HTR2.out.below HBA.out) (below_alloc (o := .cells (falses x.size) 4) (below_undrew hb2))).size hlo3⟩
end Go.Proofs.Ytedbjkjncfinnaa
