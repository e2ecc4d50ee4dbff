/-
  The text of a right tree, as tokens. No program in sight.
  The tokens of a right tree are parsed as it. No program in sight.
  A right tree's tokens are parsed as it: conditions. No program in sight.
  What is parsed is right, and not much longer as text. No program in sight.
  What is parsed is right: conditions. No program in sight.
  What expr's texts of trees come to.
  Functions of the program as trees: what a call comes to.
  ExprParses' law: what the program parses, the reference parses.
  ExprTwice's law.
  ExprBack's law.
-/
import Derived.Test.YtlmhajfbpplpoaaGreatWBI
import Derived.Test.YtlmhajfbpplpoaaGreatWBJ
import Derived.Test.YtlmhajfbpplpoaaGreatWBE
import Derived.Test.YtlmhajfbpplpoaaGreatWBG
import Derived.Test.YtlmhajfbpplpoaaGreatWBB
import Derived.Test.YtlmhajfbpplpoaaGreatWAS
set_option linter.unusedSectionVars false
set_option linter.unusedSimpArgs false
set_option linter.unusedVariables false
namespace Go.Proofs.YtlmhajfbpplpoaaGreat
open Go.RowKit

def ktR : LexR → Option (List KT)
 | .ok ts => some (ts.map kt)
 | .err .. => none
theorem ktR_more (t : Tk) (r : LexR) : ktR (r.more t) = (ktR r).map (kt t :: ·) := by cases r <;> rfl
theorem ktR_any : ∀ (n : Nat) (l : List UInt8) (p q : Nat × Nat), l.length ≤ n → ktR (lexL l p) = ktR (lexL l q) := by
 intro n
 induction n with
 | zero =>
  intro l p q h
  obtain rfl : l = [] := List.length_eq_zero_iff.1 (by omega)
  rw [lexL_eq, lexL_eq]
  rfl
 | succ n ih =>
  intro l p q h
  rw [lexL_eq, lexL_eq]
  cases ht : tok1 (l.drop (gap false l)) with
  | fin => rfl
  | err e => rfl
  | tok k m =>
   have h1 := tok1_len ht
   rw [List.length_drop] at h1
   simp only [ktR_more]
   rw [ih _ _ (adv (adv q (l.take (gap false l))) ((l.drop (gap false l)).take m)) (by rw [List.length_drop]; omega)]
   rfl
def lexKT (l : List UInt8) : Option (List KT) := ktR (lexL l (1, 1))
theorem ktR_lexKT (l : List UInt8) (p : Nat × Nat) : ktR (lexL l p) = lexKT l := ktR_any _ l p (1, 1) (Nat.le_refl _)
theorem lexKT_nil : lexKT [] = some [(5, [])] := by
 unfold lexKT
 rw [lexL_eq]
 rfl
theorem lexKT_tok {l : List UInt8} {k n : Nat} (hg : gap false l = 0) (h : tok1 l = .tok k n) : lexKT l = (lexKT (l.drop n)).map ((k, l.take n) :: ·) := by
 unfold lexKT
 rw [lexL_eq, hg]
 simp only [List.drop_zero, h, ktR_more, Nat.zero_add]
 rw [ktR_lexKT]
 rfl
theorem gap_sp (l : List UInt8) : gap false (32 :: l) = gap false l + 1 := by
 show (if _ then _ else _) = _
 rw [if_neg (by decide), if_neg (by decide), if_neg (by decide), if_pos (by decide)]
theorem lexKT_sp (l : List UInt8) : lexKT (32 :: l) = lexKT l := by
 show ktR (lexL _ _) = ktR (lexL _ _)
 rw [lexL_eq (32 :: l), lexL_eq l, gap_sp, List.drop_succ_cons]
 cases ht : tok1 (l.drop (gap false l)) with
 | fin => rfl
 | err e => rfl
 | tok k m =>
  simp only [ktR_more, ktR_lexKT]
  rw [show gap false l + 1 + m = (gap false l + m) + 1 by omega, List.drop_succ_cons]
  rfl
def StopB (rest : List UInt8) : Prop := rest = [] ∨ ∃ c r, rest = c :: r ∧ (c = 32 ∨ c = 41)
def StopN (rest : List UInt8) : Prop := rest = [] ∨ ∃ c r, rest = c :: r ∧ (c = 32 ∨ c = 41 ∨ c = 42)
theorem StopB.n {rest : List UInt8} (h : StopB rest) : StopN rest := by
 rcases h with h | ⟨c, r, h, h2⟩
 ·exact .inl h
 ·exact .inr ⟨c, r, h, by rcases h2 with h2 | h2 <;> simp [h2]⟩
theorem bk_span (q : UInt8 → Bool) (rest : List UInt8) (hr : rest = [] ∨ ∃ c r, rest = c :: r ∧ q c = false) : ∀ l : List UInt8, l.all q = true → span q (l ++ rest) = l.length
 | [], _ => by
  rcases hr with rfl | ⟨c, r, rfl, h⟩
  ·rfl
  ·show span q (c :: r) = 0
   unfold span
   rw [h]
   rfl
 | c :: l, h => by
  rw [List.all_cons, Bool.and_eq_true] at h
  rw [List.cons_append]
  unfold span
  rw [if_pos h.1, bk_span q rest hr l h.2]
  rfl
theorem stop_q {rest : List UInt8} (h : StopN rest) (q : UInt8 → Bool) (h1 : q 32 = false) (h2 : q 41 = false) (h3 : q 42 = false) : rest = [] ∨ ∃ c r, rest = c :: r ∧ q c = false := by
 rcases h with h | ⟨c, r, h, h5⟩
 ·exact .inl h
 ·exact .inr ⟨c, r, h, by rcases h5 with rfl | rfl | rfl <;> assumption⟩
theorem bk_take (l rest : List UInt8) : (l ++ rest).take l.length = l := by simp
theorem bk_drop (l rest : List UInt8) : (l ++ rest).drop l.length = rest := by simp
theorem lexKT_num {l rest : List UInt8} (h : numB l = true) (hr : StopN rest) : lexKT (l ++ rest) = (lexKT rest).map ((3, l) :: ·) := by
 unfold numB at h
 simp only [Bool.and_eq_true, Bool.not_eq_true', decide_eq_true_eq] at h
 obtain ⟨⟨⟨h1, h2⟩, h3⟩, h4⟩ := h
 cases l with
 | nil => simp at h1
 | cons c l =>
  have hd : digB c = true := by
   rw [List.all_cons, Bool.and_eq_true] at h4
   exact h4.1
  have hs := bk_span digB rest (stop_q hr digB (by decide) (by decide) (by decide)) (c :: l) h4
  have ht : tok1 ((c :: l) ++ rest) = .tok 3 (c :: l).length := by
   rw [List.cons_append, tok1_cons, if_neg, if_pos hd]
   ·rw [List.cons_append] at hs
    rw [hs, if_neg (by omega), if_neg]
    rintro ⟨h5, h6⟩
    simp [h5, h6] at h3
    simp at h5
    exact absurd h5 (by simpa using h3)
   ·unfold digB at hd
    unfold lowB
    simp only [Bool.and_eq_true, decide_eq_true_eq] at hd ⊢
    omega
  have hg : gap false ((c :: l) ++ rest) = 0 := gap_stop _ (dig_gap hd)
  rw [lexKT_tok hg ht, bk_take, bk_drop]
theorem lexKT_word {l rest : List UInt8} (h : wordB l = true) (hr : StopN rest) : lexKT (l ++ rest) = (lexKT rest).map ((1, l) :: ·) := by
 unfold wordB at h
 simp only [Bool.and_eq_true, Bool.not_eq_true', decide_eq_true_eq] at h
 obtain ⟨⟨⟨h1, h2⟩, h3⟩, h4⟩ := h
 cases l with
 | nil => simp at h1
 | cons c l =>
  have hd : lowB c = true := h3
  have hs := bk_span innB rest (stop_q hr innB (by decide) (by decide) (by decide)) (c :: l) h4
  have ht : tok1 ((c :: l) ++ rest) = .tok 1 (c :: l).length := by
   rw [List.cons_append, tok1_cons, if_pos hd]
   rw [List.cons_append] at hs
   rw [hs, if_neg (by omega)]
  have hg : gap false ((c :: l) ++ rest) = 0 := gap_stop _ (low_gap hd)
  rw [lexKT_tok hg ht, bk_take, bk_drop]
theorem one_kind {c : UInt8} (h : oneB c = true) : lowB c = false ∧ digB c = false ∧ bigB c = false := by
 unfold oneB at h
 unfold lowB digB bigB
 simp only [List.contains_cons, List.contains_nil, Bool.or_eq_true, beq_iff_eq, Bool.or_false] at h
 simp only [Bool.and_eq_false_iff, decide_eq_false_iff_not, List.contains_cons, List.contains_nil, Bool.or_eq_false_iff, beq_eq_false_iff_ne, Bool.or_false]
 omega
theorem lexKT_sgn {c : UInt8} {rest : List UInt8} (h1 : oneB c = true) (h2 : rest = [] ∨ ∃ d r, rest = d :: r ∧ twoB c d = false) : lexKT (c :: rest) = (lexKT rest).map ((2, [c]) :: ·) := by
 obtain ⟨k1, k2, k3⟩ := one_kind h1
 have hs : sgnLen (c :: rest) = 1 := by
  rcases h2 with rfl | ⟨d, r, rfl, h2⟩
  ·rw [sgn_single, if_pos h1]
  ·rw [sgn_two, h2, if_neg (by simp), if_pos h1]
 have ht : tok1 (c :: rest) = .tok 2 1 := by
  rw [tok1_cons, k1, k2, k3, hs]
  rfl
 rw [lexKT_tok (gap_stop _ (one_gap h1)) ht]
 rfl
theorem lexKT_sgn2 {c d : UInt8} {rest : List UInt8} (h2 : twoB c d = true) : lexKT (c :: d :: rest) = (lexKT rest).map ((2, [c, d]) :: ·) := by
 have h1 := two_one h2
 obtain ⟨k1, k2, k3⟩ := one_kind h1
 have hs : sgnLen (c :: d :: rest) = 2 := by rw [sgn_two, if_pos h2]
 have ht : tok1 (c :: d :: rest) = .tok 2 2 := by
  rw [tok1_cons, k1, k2, k3, hs]
  rfl
 rw [lexKT_tok (gap_stop _ (one_gap h1)) ht]
 rfl
theorem two_not {c : UInt8} (h1 : c ≠ 45) (h2 : c ≠ 58) (h3 : c ≠ 33) (h4 : c ≠ 60) (h5 : c ≠ 62) (h6 : c ≠ 46) (d : UInt8) : twoB c d = false := by
 unfold twoB sgnN
 have e : ∀ n : UInt8, c ≠ n → c.toNat ≠ n.toNat := fun n h h' => h (UInt8.toNat_inj.1 h')
 have e1 := e _ h1
 have e2 := e _ h2
 have e3 := e _ h3
 have e4 := e _ h4
 have e5 := e _ h5
 have e6 := e _ h6
 simp only [show (45 : UInt8).toNat = 45 from rfl, show (58 : UInt8).toNat = 58 from rfl, show (33 : UInt8).toNat = 33 from rfl, show (60 : UInt8).toNat = 60 from rfl, show (62 : UInt8).toNat = 62 from rfl, show (46 : UInt8).toNat = 46 from rfl] at e1 e2 e3 e4 e5 e6
 rw [if_neg (fun h => e1 h.1), if_neg (fun h => e2 h.1), if_neg (fun h => e3 h.1), if_neg (fun h => e4 h.1), if_neg (fun h => e5 h.1), if_neg (fun h => e6 h.1)]
 split <;> rfl
def HdB (s : List UInt8) : Prop := ∃ d r, s = d :: r ∧ (lowB d = true ∨ digB d = true ∨ d = 45 ∨ d = 40 ∨ d = 33)
theorem two_hd {c d : UInt8} (hd : lowB d = true ∨ digB d = true ∨ d = 45 ∨ d = 40 ∨ d = 33) : twoB c d = false := by
 have : d.toNat ≠ 62 ∧ d.toNat ≠ 61 ∧ d.toNat ≠ 46 := by
  unfold lowB digB at hd
  simp only [Bool.and_eq_true, decide_eq_true_eq] at hd
  rcases hd with h | h | rfl | rfl | rfl
  ·omega
  ·omega
  ·decide
  ·decide
  ·decide
 unfold twoB sgnN
 rw [if_neg (fun h => this.1 h.2), if_neg (fun h => this.2.1 h.2), if_neg (fun h => this.2.1 h.2), if_neg (fun h => this.2.1 h.2), if_neg (fun h => this.2.1 h.2), if_neg (fun h => this.2.2 h.2)]
 split <;> rfl
def Lx (s : List UInt8) (ks : List KT) : Prop := ∀ rest, StopB rest → lexKT (s ++ rest) = (lexKT rest).map (ks ++ ·)
theorem map_app (a b : List KT) (o : Option (List KT)) : (o.map (b ++ ·)).map (a ++ ·) = o.map ((a ++ b) ++ ·) := by cases o <;> simp
theorem map_one (a : KT) (o : Option (List KT)) : o.map (a :: ·) = o.map ([a] ++ ·) := rfl
theorem bk_bstr (b : ByteArray) : bstr b.data.toList = b := rfl
theorem ne_bstr {b : ByteArray} (h : b = bstr []) : b.data.toList = [] := by rw [h]; rfl
theorem name_word {l : List UInt8} (h : nameB l = true) : wordB l = true := by
 unfold nameB at h
 rw [Bool.and_eq_true] at h
 exact h.1
theorem word_hd {l : List UInt8} (h : wordB l = true) (r : List UInt8) : HdB (l ++ r) := by
 unfold wordB at h
 simp only [Bool.and_eq_true, Bool.not_eq_true', decide_eq_true_eq] at h
 cases l with
 | nil => simp at h
 | cons c l => exact ⟨c, l ++ r, rfl, .inl h.1.2⟩
theorem num_hd {l : List UInt8} (h : numB l = true) (r : List UInt8) : HdB (l ++ r) := by
 unfold numB at h
 simp only [Bool.and_eq_true, Bool.not_eq_true', decide_eq_true_eq, List.all_eq_true] at h
 cases l with
 | nil => simp at h
 | cons c l => exact ⟨c, l ++ r, rfl, .inr (.inl (h.2 c (List.mem_cons_self ..)))⟩
theorem HdB.app {s : List UInt8} (h : HdB s) (r : List UInt8) : HdB (s ++ r) := by
 obtain ⟨d, r', rfl, h⟩ := h
 exact ⟨d, r' ++ r, rfl, h⟩
theorem HdB.two {s : List UInt8} (h : HdB s) (c : UInt8) : s = [] ∨ ∃ d r, s = d :: r ∧ twoB c d = false := by
 obtain ⟨d, r, rfl, h⟩ := h
 exact .inr ⟨d, r, rfl, two_hd h⟩
theorem mo_parts {m : Mo} (h : rightMoB m = true) : (m.num ≠ bstr [] → numB m.num.data.toList = true) ∧ (m.var ≠ bstr [] → nameB m.var.data.toList = true) ∧ (m.num = bstr [] → m.var ≠ bstr []) := by
 unfold rightMoB at h
 simp only [Bool.and_eq_true, Bool.or_eq_true, decide_eq_true_eq] at h
 obtain ⟨⟨h1, h2⟩, h3⟩ := h
 refine ⟨fun e => h2.resolve_left e, fun e => h3.resolve_left e, fun e => h1.resolve_left fun h => h e⟩
theorem mo_hd {m : Mo} (h : rightMoB m = true) : HdB (moText m) := by
 obtain ⟨h1, h2, h3⟩ := mo_parts h
 unfold moText
 split
 ·rename_i e
  rw [List.append_assoc]
  exact num_hd (h1 e.1) _
 ·rename_i e
  by_cases hn : m.num = bstr []
  ·rw [ne_bstr hn, List.nil_append]
   have := word_hd (name_word (h2 (h3 hn))) []
   rwa [List.append_nil] at this
  ·exact num_hd (h1 hn) _
theorem mo_lx {m : Mo} (h : rightMoB m = true) : Lx (moText m) (moK m) := by
 intro rest hr
 obtain ⟨h1, h2, h3⟩ := mo_parts h
 unfold moText moK
 by_cases hn : m.num = bstr []
 ·rw [if_neg (fun e => e.1 hn), if_neg (fun e => e hn), ne_bstr hn, List.nil_append, lexKT_word (name_word (h2 (h3 hn))) hr.n]
  rfl
 ·rw [if_pos hn]
  by_cases hv : m.var = bstr []
  ·rw [if_neg (fun e => e.2 hv), if_neg (fun e => e hv), ne_bstr hv, List.append_nil, lexKT_num (h1 hn) hr.n]
   rfl
  ·rw [if_pos ⟨hn, hv⟩, if_pos hv]
   rw [List.append_assoc, List.append_assoc, List.singleton_append, lexKT_num (h1 hn) (.inr ⟨42, _, rfl, .inr (.inr rfl)⟩), lexKT_sgn (by decide) ((word_hd (name_word (h2 hv)) rest).two 42), lexKT_word (name_word (h2 hv)) hr.n]
   simp only [map_one, map_app]
   rfl
theorem tail_stop (m : Mo) (i : Nat) (r rest : List UInt8) : StopB ((sepT (i + 1) m ++ r) ++ rest) := by
 unfold sepT
 rw [if_neg (Nat.succ_ne_zero i), if_neg (Nat.succ_ne_zero i)]
 by_cases hn : m.neg = true
 ·rw [if_pos hn]
  exact .inr ⟨32, _, rfl, .inl rfl⟩
 ·rw [if_neg hn]
  exact .inr ⟨32, _, rfl, .inl rfl⟩
theorem sum_lx : ∀ (ms : List Mo) (i : Nat), ms.all rightMoB = true → Lx (sumTx i ms) (sumK i ms)
 | [], i, _ => fun rest _ => by
  show lexKT rest = (lexKT rest).map ([] ++ ·)
  cases lexKT rest <;> rfl
 | m :: r, i, h => fun rest hr => by
  rw [List.all_cons, Bool.and_eq_true] at h
  have ih := sum_lx r (i + 1) h.2 rest hr
  have hs : StopB (sumTx (i + 1) r ++ rest) := by
   cases r with
   | nil => exact hr
   | cons m' r' =>
    have := tail_stop m' i (moText m' ++ sumTx (i + 1 + 1) r') rest
    simp only [sumTx, List.append_assoc] at this ⊢
    exact this
  have hm := mo_lx h.1 _ hs
  rw [ih, map_app] at hm
  have hh : HdB (moText m ++ (sumTx (i + 1) r ++ rest)) := (mo_hd h.1).app _
  unfold sumTx sumK sepT sepK
  rw [List.append_assoc, List.append_assoc]
  by_cases hn : m.neg = true
  ·rw [if_pos hn, if_pos hn]
   by_cases h0 : i = 0
   ·rw [if_pos h0, List.singleton_append, lexKT_sgn (by decide) (hh.two 45), hm, map_one, map_app, List.append_assoc]
   ·rw [if_neg h0]
    show lexKT (32 :: 45 :: 32 :: (moText m ++ (sumTx (i + 1) r ++ rest))) = _
    rw [lexKT_sp, lexKT_sgn (by decide) (.inr ⟨32, _, rfl, by decide⟩), lexKT_sp, hm, map_one, map_app, List.append_assoc]
  ·rw [if_neg hn, if_neg hn]
   by_cases h0 : i = 0
   ·rw [if_pos h0, if_pos h0, List.nil_append, hm]
    rfl
   ·rw [if_neg h0, if_neg h0]
    show lexKT (32 :: 43 :: 32 :: (moText m ++ (sumTx (i + 1) r ++ rest))) = _
    rw [lexKT_sp, lexKT_sgn (by decide) (.inr ⟨32, _, rfl, by decide⟩), lexKT_sp, hm, map_one, map_app, List.append_assoc]
theorem rsB_all {ms : List Mo} (h : rsB ms = true) : 0 < ms.length ∧ ms.length ≤ 64 ∧ ms.all rightMoB = true := by
 unfold rsB at h
 simp only [Bool.and_eq_true, decide_eq_true_eq] at h
 exact ⟨h.1.1, h.1.2, h.2⟩
theorem sumTxt_lx {ms : List Mo} (h : rsB ms = true) : Lx (sumTxt ms) (sumK 0 ms) := by
 unfold sumTxt
 rw [if_pos h]
 exact sum_lx ms 0 (rsB_all h).2.2
theorem sumTxt_hd {ms : List Mo} (h : rsB ms = true) : HdB (sumTxt ms) := by
 unfold sumTxt
 rw [if_pos h]
 obtain ⟨h1, _, h3⟩ := rsB_all h
 cases ms with
 | nil => simp at h1
 | cons m r =>
  rw [List.all_cons, Bool.and_eq_true] at h3
  unfold sumTx sepT
  by_cases hn : m.neg = true
  ·rw [if_pos hn, if_pos rfl]
   exact ⟨45, _, rfl, .inr (.inr (.inl rfl))⟩
  ·rw [if_neg hn, if_pos rfl]
   exact ((mo_hd h3.1).app _ : HdB (moText m ++ _))
theorem op_lx {op : Int} (h1 : 0 ≤ op) (h2 : op ≤ 5) (rest : List UInt8) : lexKT (opsL.getD op.toNat [] ++ 32 :: rest) = (lexKT (32 :: rest)).map ([(2, opsL.getD op.toNat [])] ++ ·) := by
 have : op.toNat < 6 := by omega
 generalize op.toNat = n at this
 match n, this with
 | 0, _ => exact lexKT_sgn (by decide) (.inr ⟨32, _, rfl, by decide⟩)
 | 1, _ => exact lexKT_sgn2 (by decide)
 | 2, _ => exact lexKT_sgn (by decide) (.inr ⟨32, _, rfl, by decide⟩)
 | 3, _ => exact lexKT_sgn2 (by decide)
 | 4, _ => exact lexKT_sgn (by decide) (.inr ⟨32, _, rfl, by decide⟩)
 | 5, _ => exact lexKT_sgn2 (by decide)
theorem cmp_lx {l r : List Mo} {op : Int} (hl : rsB l = true) (hr : rsB r = true) (h1 : 0 ≤ op) (h2 : op ≤ 5) : Lx (cmpTx l r op) (sumK 0 l ++ [(2, opsL.getD op.toNat [])] ++ sumK 0 r) ∧ HdB (cmpTx l r op) := by
 constructor
 ·intro rest hrest
  unfold cmpTx
  have e : sumTxt l ++ [32] ++ opsL.getD op.toNat [] ++ [32] ++ sumTxt r ++ rest = sumTxt l ++ (32 :: (opsL.getD op.toNat [] ++ (32 :: (sumTxt r ++ rest)))) := by simp
  rw [e, sumTxt_lx hl _ (.inr ⟨32, _, rfl, .inl rfl⟩)]
  rw [lexKT_sp, op_lx h1 h2, lexKT_sp, sumTxt_lx hr _ hrest, map_app, map_app]
 ·unfold cmpTx
  simp only [List.append_assoc]
  exact (sumTxt_hd hl).app _
theorem true_lx : Lx [116, 114, 117, 101] [(1, [116, 114, 117, 101])] := fun rest hr => lexKT_word (by decide) hr.n
theorem false_lx : Lx [102, 97, 108, 115, 101] [(1, [102, 97, 108, 115, 101])] := fun rest hr => lexKT_word (by decide) hr.n
theorem brk_lx {s : List UInt8} {ks : List KT} (h : Lx s ks) (hh : HdB s) : Lx ([40] ++ s ++ [41]) ([(2, [40])] ++ ks ++ [(2, [41])]) := fun rest hr => by
 have h41 : lexKT (41 :: rest) = (lexKT rest).map ((2, [41]) :: ·) := lexKT_sgn (by decide) (by
  rcases hr with h | ⟨c, r, h, _⟩
  ·exact .inl h
  ·exact .inr ⟨c, r, h, two_not (by decide) (by decide) (by decide) (by decide) (by decide) (by decide) c⟩)
 have e : [40] ++ s ++ [41] ++ rest = 40 :: (s ++ (41 :: rest)) := by simp
 rw [e, lexKT_sgn (by decide) ((hh.app _).two 40), h _ (.inr ⟨41, _, rfl, .inr rfl⟩), h41]
 simp only [map_one, map_app]
 simp only [List.append_assoc]
theorem not_lx {s : List UInt8} {ks : List KT} (h : Lx s ks) (hh : HdB s) : Lx ([33] ++ s) ([(2, [33])] ++ ks) := fun rest hr => by
 rw [List.append_assoc, List.singleton_append, lexKT_sgn (by decide) ((hh.app _).two 33), h _ hr]
 simp only [map_one, map_app]
theorem bin_lx {c : UInt8} (hc : c = 38 ∨ c = 124) {s t : List UInt8} {ks js : List KT} (h : Lx s ks) (g : Lx t js) : Lx (s ++ [32, c, 32] ++ t) (ks ++ [(2, [c])] ++ js) := fun rest hr => by
 have e : s ++ [32, c, 32] ++ t ++ rest = s ++ (32 :: c :: 32 :: (t ++ rest)) := by simp
 rw [e, h _ (.inr ⟨32, _, rfl, .inl rfl⟩), lexKT_sp, lexKT_sgn (by rcases hc with rfl | rfl <;> decide) (.inr ⟨32, _, rfl, by rcases hc with rfl | rfl <;> decide⟩), lexKT_sp, g _ hr]
 simp only [map_one, map_app]
 simp only [List.append_assoc]
def brT (b : Bool) (s : List UInt8) : List UInt8 := if b then [40] ++ s ++ [41] else s
def brK (b : Bool) (s : List KT) : List KT := if b then [(2, [40])] ++ s ++ [(2, [41])] else s
theorem br_lx (b : Bool) {s : List UInt8} {ks : List KT} (h : Lx s ks ∧ HdB s) : Lx (brT b s) (brK b ks) ∧ HdB (brT b s) := by
 cases b with
 | false => exact h
 | true => exact ⟨brk_lx h.1 h.2, 40, _, rfl, .inr (.inr (.inr (.inl rfl)))⟩
theorem kidTx_cons (k : Int) (i : Nat) (x : Tr) (r : List Tr) : kidTx k i (x :: r) = brT (brk k i x.kind) (txt x) :: kidTx k (i + 1) r := by rw [kidTx]; rfl
theorem kidK_cons (k : Int) (i : Nat) (x : Tr) (r : List Tr) : kidK k i (x :: r) = brK (brk k i x.kind) (txtK x) :: kidK k (i + 1) r := by rw [kidK]; rfl
theorem kidTx_nil (k : Int) (i : Nat) : kidTx k i [] = [] := by rw [kidTx]
theorem kidsB_cons {k : Int} {d i : Nat} {x : Tr} {r : List Tr} (h : kidsB k d i (x :: r) = true) : upD (brk k i x.kind) d ≤ 60 ∧ rightB x (upD (brk k i x.kind) d) = true ∧ kidsB k d (i + 1) r = true := by
 rw [kidsB] at h
 simp only [Bool.and_eq_true, decide_eq_true_eq] at h
 exact ⟨h.1.1, h.1.2, h.2⟩
inductive ShapeT : Tr → Nat → Prop where
 | tt (d : Nat) : ShapeT (.mk 0 [] [] 0 (bstr []) (bstr []) []) d
 | ff (d : Nat) : ShapeT (.mk 1 [] [] 0 (bstr []) (bstr []) []) d
 | cmp (d : Nat) {l r : List Mo} {op : Int} (hl : rsB l = true) (hr : rsB r = true) (h1 : 0 ≤ op) (h2 : op ≤ 5) : ShapeT (.mk 2 l r op (bstr []) (bstr []) []) d
 | no (d : Nat) {x : Tr} (hd : upD (brk 3 0 x.kind) (d + 1) ≤ 60) (h : rightB x (upD (brk 3 0 x.kind) (d + 1)) = true) : ShapeT (.mk 3 [] [] 0 (bstr []) (bstr []) [x]) d
 | bin (d : Nat) {k : Int} {x y : Tr} (hk : k = 4 ∨ k = 5) (hd : upD (brk k 0 x.kind) d ≤ 60) (h : rightB x (upD (brk k 0 x.kind) d) = true) (gd : upD (brk k 1 y.kind) d ≤ 60) (g : rightB y (upD (brk k 1 y.kind) d) = true) : ShapeT (.mk k [] [] 0 (bstr []) (bstr []) [x, y]) d
theorem shape_of {t : Tr} {d : Nat} (h : rightB t d = true) : ShapeT t d := by
 obtain ⟨k, l, r, op, p, q, ks⟩ := t
 rw [rightB] at h
 by_cases h2 : k = 2
 ·rw [if_pos h2] at h
  subst h2
  unfold cmpB at h
  simp only [Bool.and_eq_true, decide_eq_true_eq] at h
  obtain ⟨⟨⟨⟨⟨⟨⟨_, hl⟩, hr⟩, h3⟩, h4⟩, rfl⟩, rfl⟩, h5⟩ := h
  obtain rfl : ks = [] := List.length_eq_zero_iff.1 h5
  exact .cmp d hl hr h3 h4
 ·rw [if_neg h2] at h
  unfold bareB at h
  simp only [Bool.and_eq_true, decide_eq_true_eq] at h
  obtain ⟨⟨⟨⟨⟨⟨⟨hl, hr⟩, rfl⟩, rfl⟩, rfl⟩, ha⟩, hd⟩, hk⟩ := h
  obtain rfl : l = [] := List.length_eq_zero_iff.1 hl
  obtain rfl : r = [] := List.length_eq_zero_iff.1 hr
  have hks : ∀ n : Nat, (ks.length : Int) = (n : Int) → ks.length = n := fun n h => by omega
  unfold arI at ha
  by_cases h0 : k = 0
  ·subst h0
   rw [if_pos rfl] at ha
   obtain rfl : ks = [] := List.length_eq_zero_iff.1 (by omega)
   exact .tt d
  rw [if_neg h0] at ha
  by_cases h1 : k = 1
  ·subst h1
   rw [if_pos rfl] at ha
   obtain rfl : ks = [] := List.length_eq_zero_iff.1 (by omega)
   exact .ff d
  rw [if_neg h1] at ha
  by_cases h3 : k = 3
  ·subst h3
   rw [if_pos rfl] at ha
   match ks, ha, hk with
   | [x], _, hk =>
    obtain ⟨k1, k2, _⟩ := kidsB_cons hk
    exact .no d k1 k2
  rw [if_neg h3] at ha
  rw [decide_eq_false h3] at hk
  have hb : (k = 4 ∨ k = 5) ∧ ks.length = 2 := by
   by_cases h4 : k = 4
   ·rw [if_pos h4] at ha; exact ⟨.inl h4, by omega⟩
   ·rw [if_neg h4] at ha
    by_cases h5 : k = 5
    ·rw [if_pos h5] at ha; exact ⟨.inr h5, by omega⟩
    ·rw [if_neg h5] at ha; omega
  match ks, hb.2, hk with
  | [x, y], _, hk =>
   obtain ⟨k1, k2, hk⟩ := kidsB_cons hk
   obtain ⟨k3, k4, _⟩ := kidsB_cons hk
   exact .bin d hb.1 k1 k2 k3 k4
theorem tr_lx : ∀ (n : Nat) (t : Tr) (d : Nat), SizeOf.sizeOf t < n → rightB t d = true → Lx (txt t) (txtK t) ∧ HdB (txt t) := by
 intro n
 induction n with
 | zero => intro t d h; omega
 | succ n ih =>
  intro t d hn h
  cases shape_of h with
  | tt => exact ⟨true_lx, 116, _, rfl, .inl (by decide)⟩
  | ff => exact ⟨false_lx, 102, _, rfl, .inl (by decide)⟩
  | @cmp _ l r op hl hr h1 h2 =>
   have hc : cmpB (.mk 2 l r op (bstr []) (bstr []) []) = true := by
    unfold cmpB
    simp [hl, hr, h1, h2]
   rw [txt, txtK, if_neg (by decide), if_pos rfl, if_pos hc, if_neg (by decide), if_pos rfl]
   exact cmp_lx hl hr h1 h2
  | @no _ x hd hx =>
   have gx := br_lx (brk 3 0 x.kind) (ih x _ (by simp only [Tr.mk.sizeOf_spec, List.cons.sizeOf_spec] at hn; omega) hx)
   rw [txt, txtK, if_neg (by decide), if_neg (by decide), if_neg (by decide), if_neg (by decide), kidTx_cons, kidK_cons]
   exact ⟨not_lx gx.1 gx.2, 33, _, rfl, .inr (.inr (.inr (.inr rfl)))⟩
  | @bin _ k x y hk hd hx gd hy =>
   have gx := br_lx (brk k 0 x.kind) (ih x _ (by simp only [Tr.mk.sizeOf_spec, List.cons.sizeOf_spec] at hn; omega) hx)
   have gy := br_lx (brk k 1 y.kind) (ih y _ (by simp only [Tr.mk.sizeOf_spec, List.cons.sizeOf_spec] at hn; omega) hy)
   rw [txt, txtK, if_neg (by omega), if_neg (by omega), if_neg (by omega), if_neg (by omega), kidTx_cons, kidK_cons, kidTx_cons, kidK_cons]
   rcases hk with rfl | rfl
   ·refine ⟨bin_lx (.inl rfl) gx.1 gy.1, ?_⟩
    show HdB (_ ++ [32, 38, 32] ++ _)
    rw [List.append_assoc]
    exact gx.2.app _
   ·refine ⟨bin_lx (.inr rfl) gx.1 gy.1, ?_⟩
    show HdB (_ ++ [32, 124, 32] ++ _)
    rw [List.append_assoc]
    exact gx.2.app _
theorem lexAll_lx {s : List UInt8} {ks : List KT} (h : Lx s ks) (hs : s.length ≤ 16384) : ∃ ts, lexAll s = .ok ts ∧ ts.map kt = ks ++ [(5, [])] := by
 have g := h [] (.inl rfl)
 rw [List.append_nil, lexKT_nil] at g
 unfold lexAll
 rw [if_neg (by omega)]
 unfold lexKT at g
 cases e : lexL s (1, 1) with
 | ok ts =>
  rw [e] at g
  exact ⟨ts, rfl, Option.some.inj g⟩
 | err c ln co =>
  rw [e] at g
  cases g
end Go.Proofs.YtlmhajfbpplpoaaGreat
namespace Go.Proofs.YtlmhajfbpplpoaaGreat
open Go.RowKit

def AtK (ts : List Tk) (i : Nat) (ks : List KT) : Prop := (ts.map kt).drop i = ks
section
variable {ts : List Tk}
theorem atK_cons {i : Nat} {a : KT} {r : List KT} (h : AtK ts i (a :: r)) : ((nx ts i).kind = a.1 ∧ (nx ts i).text = a.2) ∧ AtK ts (i + 1) r := by
 unfold AtK at h ⊢
 have h1 : (ts.map kt)[i]? = some a := by
  have := congrArg (fun l => l[0]?) h
  simpa using this
 rw [List.getElem?_map] at h1
 refine ⟨?_, ?_⟩
 ·unfold nx
  cases e : ts[i]? with
  | none => rw [e] at h1; cases h1
  | some t =>
   rw [e] at h1
   have : kt t = a := Option.some.inj h1
   rw [← this]
   exact ⟨rfl, rfl⟩
 ·have := congrArg (List.drop 1) h
  rw [List.drop_drop] at this
  simpa [Nat.add_comm] using this
theorem atK_app : ∀ {a r : List KT} {i : Nat}, AtK ts i (a ++ r) → AtK ts (i + a.length) r
 | [], r, i, h => h
 | x :: a, r, i, h => by
  have := atK_app (a := a) (r := r) (atK_cons h).2
  rw [List.length_cons, show i + (a.length + 1) = i + 1 + a.length by omega]
  exact this
theorem isT_at {i : Nat} {a : KT} {r : List KT} (h : AtK ts i (a :: r)) (s : List UInt8) : isT ts i s = (decide (a.2 = s) && (decide (a.1 = 1) || decide (a.1 = 2) || decide (a.1 = 4))) := by
 unfold isT
 rw [(atK_cons h).1.1, (atK_cons h).1.2]
theorem isT_no {i : Nat} {a : KT} {r : List KT} (h : AtK ts i (a :: r)) {s : List UInt8} (hs : a.2 ≠ s) : isT ts i s = false := by
 rw [isT_at h, decide_eq_false hs, Bool.false_and]
theorem isT_yes {i : Nat} {s : List UInt8} {r : List KT} (h : AtK ts i ((2, s) :: r)) : isT ts i s = true := by
 rw [isT_at h]
 simp
theorem varP_ok {i : Nat} {s : List UInt8} {r : List KT} (h : AtK ts i ((1, s) :: r)) (hs : nameB s = true) : varP ts [] false i = (i + 1, 0, bstr s) := by
 have hn : isN ts i = true := by
  unfold isN
  rw [(atK_cons h).1.1, (atK_cons h).1.2, hs]
  rfl
 unfold varP
 rw [hn, if_neg (by simp), if_neg (by simp), (atK_cons h).1.2]
theorem mo_eta (m : Mo) {a b : ByteArray} (h1 : a = m.num) (h2 : b = m.var) : (⟨m.neg, a, b⟩ : Mo) = m := by rw [h1, h2]
theorem monoP_ok {m : Mo} (hm : rightMoB m = true) {i : Nat} {a : KT} {r : List KT} (h : AtK ts i (moK m ++ a :: r)) (ha : a.2 ≠ [42]) : monoP ts [] false i m.neg = (i + (moK m).length, 0, m) ∧ begP ts i = true := by
 obtain ⟨h1, h2, h3⟩ := mo_parts hm
 unfold moK at h ⊢
 by_cases hn : m.num = bstr []
 ·rw [if_neg (fun e => e hn)] at h ⊢
  have hv := h2 (h3 hn)
  have hk := (atK_cons h).1
  refine ⟨?_, ?_⟩
  ·unfold monoP
   rw [hk.1, if_neg (show ¬(1 : Nat) = 3 by decide), varP_ok h hv]
   rw [mo_eta m hn.symm (bk_bstr m.var)]
   rfl
  ·unfold begP isN
   rw [hk.1, hk.2, hv]
   rfl
 ·rw [if_pos hn] at h ⊢
  by_cases hv : m.var = bstr []
  ·rw [if_neg (fun e => e hv)] at h ⊢
   have hk := (atK_cons h).1
   have ha := isT_no (atK_cons h).2 ha
   refine ⟨?_, ?_⟩
   ·unfold monoP
    rw [hk.1, if_pos rfl, ha, if_neg (by simp), hk.2, mo_eta m (bk_bstr m.num) hv.symm]
    rfl
   ·unfold begP
    rw [hk.1]
    rfl
  ·rw [if_pos hv] at h ⊢
   have hk := (atK_cons h).1
   have h5 := (atK_cons h).2
   have h6 := (atK_cons h5).2
   refine ⟨?_, ?_⟩
   ·unfold monoP
    rw [hk.1, if_pos rfl, isT_yes h5, if_pos rfl, hk.2, varP_ok h6 (h2 hv), mo_eta m (bk_bstr m.num) (bk_bstr m.var)]
    rfl
   ·unfold begP
    rw [hk.1]
    rfl
def StopK (a : KT) : Prop := a = (5, []) ∨ a = (2, [41]) ∨ a = (2, [38]) ∨ a = (2, [124])
theorem StopK.ne {a : KT} (h : StopK a) : a.2 ≠ [42] ∧ a.2 ≠ [43] ∧ a.2 ≠ [45] := by
 rcases h with rfl | rfl | rfl | rfl <;> decide
theorem sumL_ok : ∀ (r : List Mo) (m : Mo) (j k : Nat) (out : List Mo) (i : Nat) (a : KT) (q : List KT), rightMoB m = true → r.all rightMoB = true → r.length < k → AtK ts i (moK m ++ (sumK (j + 1) r ++ a :: q)) → a.2 ≠ [42] ∧ a.2 ≠ [43] ∧ a.2 ≠ [45] →
  sumL ts [] false k out m.neg i = (i + (moK m).length + (sumK (j + 1) r).length, 0, out ++ m :: r)
 | [], m, j, k, out, i, a, q, hm, hr, hk, h, ha => by
  obtain ⟨k, rfl⟩ : ∃ n, k = n + 1 := ⟨k - 1, by simp at hk; omega⟩
  obtain ⟨g, hb⟩ := monoP_ok hm h ha.1
  have h2 : AtK ts (i + (moK m).length) (a :: q) := atK_app h
  unfold sumL
  rw [hb, if_neg (by simp), g]
  simp only [isT_no h2 ha.2.1, isT_no h2 ha.2.2]
  rfl
 | m' :: r, m, j, k, out, i, a, q, hm, hr, hk, h, ha => by
  obtain ⟨k, rfl⟩ : ∃ n, k = n + 1 := ⟨k - 1, by simp at hk; omega⟩
  rw [List.all_cons, Bool.and_eq_true] at hr
  rw [List.length_cons] at hk
  have hc : ∃ c : UInt8, (c = 45 ∧ m'.neg = true ∨ c = 43 ∧ m'.neg = false) ∧ sumK (j + 1) (m' :: r) = (2, [c]) :: (moK m' ++ sumK (j + 1 + 1) r) := by
   cases hn : m'.neg with
   | true => exact ⟨45, .inl ⟨rfl, rfl⟩, by simp [sumK, sepK, hn]⟩
   | false => exact ⟨43, .inr ⟨rfl, rfl⟩, by simp [sumK, sepK, hn]⟩
  obtain ⟨c, hc, e⟩ := hc
  rw [e] at h ⊢
  obtain ⟨g, hb⟩ := monoP_ok hm (a := (2, [c])) h (by rcases hc with ⟨rfl, _⟩ | ⟨rfl, _⟩ <;> decide)
  have h2 : AtK ts (i + (moK m).length) ((2, [c]) :: _) := atK_app h
  have h3 : AtK ts (i + (moK m).length + 1) ((moK m' ++ sumK (j + 1 + 1) r) ++ a :: q) := (atK_cons h2).2
  have ih := sumL_ok r m' (j + 1) k (out ++ [m]) (i + (moK m).length + 1) a q hr.1 hr.2 (by omega) (by
   rw [List.append_assoc] at h3
   exact h3) ha
  unfold sumL
  rw [hb, if_neg (by simp), g]
  simp only [ne_eq, not_true, if_false]
  rcases hc with ⟨rfl, hn⟩ | ⟨rfl, hn⟩
  ·rw [isT_yes h2, if_pos rfl]
   rw [hn] at ih
   rw [ih]
   simp only [List.length_cons, List.length_append, List.append_assoc, List.singleton_append]
   rw [show i + (moK m).length + 1 + (moK m').length + (sumK (j + 1 + 1) r).length = i + (moK m).length + ((moK m').length + (sumK (j + 1 + 1) r).length + 1) by omega]
  ·rw [isT_no h2 (by decide), if_neg (by simp), isT_yes h2, if_pos rfl]
   rw [hn] at ih
   rw [ih]
   simp only [List.length_cons, List.length_append, List.append_assoc, List.singleton_append]
   rw [show i + (moK m).length + 1 + (moK m').length + (sumK (j + 1 + 1) r).length = i + (moK m).length + ((moK m').length + (sumK (j + 1 + 1) r).length + 1) by omega]
theorem moK_hd {m : Mo} (h : rightMoB m = true) : ∃ a r, moK m = a :: r ∧ a.2 ≠ [45] ∧ a.2 ≠ [33] ∧ a.2 ≠ [40] ∧ a.2 ≠ [116, 114, 117, 101] ∧ a.2 ≠ [102, 97, 108, 115, 101] := by
 obtain ⟨h1, h2, h3⟩ := mo_parts h
 have fn : ∀ l, numB l = true → l ≠ [45] ∧ l ≠ [33] ∧ l ≠ [40] ∧ l ≠ [116, 114, 117, 101] ∧ l ≠ [102, 97, 108, 115, 101] := fun l h => by
  refine ⟨?_, ?_, ?_, ?_, ?_⟩ <;> (rintro rfl; revert h; decide)
 have fv : ∀ l, nameB l = true → l ≠ [45] ∧ l ≠ [33] ∧ l ≠ [40] ∧ l ≠ [116, 114, 117, 101] ∧ l ≠ [102, 97, 108, 115, 101] := fun l h => by
  refine ⟨?_, ?_, ?_, ?_, ?_⟩ <;> (rintro rfl; revert h; decide)
 unfold moK
 by_cases hn : m.num = bstr []
 ·rw [if_neg (fun e => e hn)]
  exact ⟨_, _, rfl, fv _ (h2 (h3 hn))⟩
 ·rw [if_pos hn]
  by_cases hv : m.var = bstr []
  ·rw [if_neg (fun e => e hv)]
   exact ⟨_, _, rfl, fn _ (h1 hn)⟩
  ·rw [if_pos hv]
   exact ⟨_, _, rfl, fn _ (h1 hn)⟩
theorem sumK_hd {ms : List Mo} (h : rsB ms = true) : ∃ a r, sumK 0 ms = a :: r ∧ a.2 ≠ [33] ∧ a.2 ≠ [40] ∧ a.2 ≠ [116, 114, 117, 101] ∧ a.2 ≠ [102, 97, 108, 115, 101] := by
 obtain ⟨h1, _, h3⟩ := rsB_all h
 cases ms with
 | nil => simp at h1
 | cons m r =>
  rw [List.all_cons, Bool.and_eq_true] at h3
  unfold sumK sepK
  by_cases hn : m.neg = true
  ·rw [if_pos hn]
   exact ⟨_, _, rfl, by decide, by decide, by decide, by decide⟩
  ·rw [if_neg hn, if_pos rfl]
   obtain ⟨a, q, e, _, k2, k3, k4, k5⟩ := moK_hd h3.1
   rw [e]
   exact ⟨_, _, rfl, k2, k3, k4, k5⟩
theorem sumP_ok {ms : List Mo} (hm : rsB ms = true) {i : Nat} {a : KT} {q : List KT} (h : AtK ts i (sumK 0 ms ++ a :: q)) (ha : a.2 ≠ [42] ∧ a.2 ≠ [43] ∧ a.2 ≠ [45]) : sumP ts [] false i = (i + (sumK 0 ms).length, 0, ms) := by
 obtain ⟨h1, h2, h3⟩ := rsB_all hm
 cases ms with
 | nil => simp at h1
 | cons m r =>
  rw [List.all_cons, Bool.and_eq_true] at h3
  rw [List.length_cons] at h2
  unfold sumK sepK at h ⊢
  unfold sumP
  by_cases hn : m.neg = true
  ·rw [if_pos hn, List.singleton_append, List.cons_append, List.cons_append] at h
   rw [isT_yes h, if_pos rfl]
   have g := sumL_ok r m 0 64 [] (i + 1) a q h3.1 h3.2 (by omega) (by
    have := (atK_cons h).2
    rw [List.append_assoc] at this
    exact this) ha
   rw [hn] at g
   rw [g, if_pos hn]
   simp only [List.length_cons, List.length_append, List.length_nil, List.nil_append]
   rw [show i + 1 + (moK m).length + (sumK (0 + 1) r).length = i + (0 + 1 + (moK m).length + (sumK (0 + 1) r).length) by omega]
  ·rw [if_neg hn, if_pos rfl, List.nil_append, List.append_assoc] at h
   have g := sumL_ok r m 0 64 [] i a q h3.1 h3.2 (by omega) h ha
   obtain ⟨b, p, e, k1, _⟩ := moK_hd h3.1
   rw [e] at h
   rw [isT_no h k1, if_neg (by simp)]
   rw [Bool.not_eq_true _ |>.mp hn] at g
   rw [g, if_neg hn, if_pos rfl]
   simp only [List.length_append, List.nil_append]
   rw [Nat.add_assoc]
theorem opP_ok {i n : Nat} (hn : n < 6) {q : List KT} (h : AtK ts i ((2, opsL.getD n []) :: q)) : opP ts i = some n := by
 unfold opP
 have e : isT ts i = fun s => decide (opsL.getD n [] = s) := by
  funext s
  rw [isT_at h]
  simp
 rw [e]
 match n, hn with
 | 0, _ => decide
 | 1, _ => decide
 | 2, _ => decide
 | 3, _ => decide
 | 4, _ => decide
 | 5, _ => decide
theorem op_ne {n : Nat} (hn : n < 6) : (opsL.getD n []) ≠ [42] ∧ (opsL.getD n []) ≠ [43] ∧ (opsL.getD n []) ≠ [45] := by
 match n, hn with
 | 0, _ => decide
 | 1, _ => decide
 | 2, _ => decide
 | 3, _ => decide
 | 4, _ => decide
 | 5, _ => decide
theorem cmpP_ok {l r : List Mo} {op : Int} (hl : rsB l = true) (hr : rsB r = true) (h1 : 0 ≤ op) (h2 : op ≤ 5) {i : Nat} {a : KT} {q : List KT} (h : AtK ts i ((sumK 0 l ++ [(2, opsL.getD op.toNat [])] ++ sumK 0 r) ++ a :: q)) (ha : StopK a) :
  cmpP ts [] false i = (i + (sumK 0 l ++ [(2, opsL.getD op.toNat [])] ++ sumK 0 r).length, 0, .mk 2 l r op (bstr []) (bstr []) []) := by
 obtain ⟨n, rfl⟩ : ∃ n : Nat, op = n := ⟨op.toNat, by omega⟩
 have hn : n < 6 := by omega
 rw [Int.toNat_natCast] at h ⊢
 rw [List.append_assoc, List.append_assoc] at h
 have g1 := sumP_ok hl h (op_ne hn)
 have h2 := atK_app h
 have g2 := opP_ok hn h2
 have h3 := (atK_cons h2).2
 have g3 := sumP_ok hr h3 ha.ne
 unfold cmpP
 rw [g1]
 simp only [ne_eq, not_true, if_false, g2, g3]
 simp only [List.length_append, List.length_cons, List.length_nil]
 rw [show i + (sumK 0 l).length + 1 + (sumK 0 r).length = i + ((sumK 0 l).length + (0 + 1) + (sumK 0 r).length) by omega]
end
end Go.Proofs.YtlmhajfbpplpoaaGreat
namespace Go.Proofs.YtlmhajfbpplpoaaGreat
open Go.RowKit

section
variable {ts : List Tk}
theorem jb_both (n i d : Nat) : jbP ts [] false (n + 1) .both i d = thenT (jbP ts [] false n .one i d) fun j x => jbP ts [] false n (.bothL x) j d := rfl
theorem jb_cond (n i d : Nat) : jbP ts [] false (n + 1) .cond i d = thenT (jbP ts [] false n .both i d) fun j x => jbP ts [] false n (.condL x) j d := rfl
theorem thenT_ok (j : Nat) (x : Tr) (k : Nat → Tr → Nat × Nat × Tr) : thenT (j, 0, x) k = k j x := by
 unfold thenT
 rw [if_pos rfl]
theorem bothL_stop {n j d : Nat} {x : Tr} {a : KT} {q : List KT} (h : AtK ts j (a :: q)) (ha : a.2 ≠ [38]) : jbP ts [] false (n + 1) (.bothL x) j d = (j, 0, x) := by
 show (if isT ts j [38] then _ else _) = _
 rw [isT_no h ha]
 rfl
theorem condL_stop {n j d : Nat} {x : Tr} {a : KT} {q : List KT} (h : AtK ts j (a :: q)) (ha : a.2 ≠ [124]) : jbP ts [] false (n + 1) (.condL x) j d = (j, 0, x) := by
 show (if isT ts j [124] then _ else _) = _
 rw [isT_no h ha]
 rfl
theorem bothL_go {n j d : Nat} {x : Tr} {q : List KT} (h : AtK ts j ((2, [38]) :: q)) : jbP ts [] false (n + 1) (.bothL x) j d = thenT (jbP ts [] false n .one (j + 1) d) fun j y => jbP ts [] false n (.bothL (.mk 4 [] [] 0 (bstr []) (bstr []) [x, y])) j d := by
 show (if isT ts j [38] then _ else _) = _
 rw [isT_yes h]
 rfl
theorem condL_go {n j d : Nat} {x : Tr} {q : List KT} (h : AtK ts j ((2, [124]) :: q)) : jbP ts [] false (n + 1) (.condL x) j d = thenT (jbP ts [] false n .both (j + 1) d) fun j y => jbP ts [] false n (.condL (.mk 5 [] [] 0 (bstr []) (bstr []) [x, y])) j d := by
 show (if isT ts j [124] then _ else _) = _
 rw [isT_yes h]
 rfl
theorem one_open {n i d : Nat} {q : List KT} (h : AtK ts i ((2, [40]) :: q)) (hd : d ≠ 60) : jbP ts [] false (n + 1) .one i d = thenT (jbP ts [] false n .cond (i + 1) (d + 1)) fun j x => if isT ts j [41] then (j + 1, 0, x) else (j, 101, T0) := by
 show (if _ then _ else _) = _
 rw [if_neg (fun e => hd e.2), isT_no h (by decide), isT_no h (by decide), isT_no h (by decide), isT_yes h]
 rfl
theorem one_not {n i d : Nat} {q : List KT} (h : AtK ts i ((2, [33]) :: q)) (hd : d ≠ 60) : jbP ts [] false (n + 1) .one i d = thenT (jbP ts [] false n .one (i + 1) (d + 1)) fun j x => (j, 0, .mk 3 [] [] 0 (bstr []) (bstr []) [x]) := by
 show (if _ then _ else _) = _
 rw [if_neg (fun e => hd e.2), isT_no h (by decide), isT_no h (by decide), isT_yes h]
 rfl
theorem one_true {n i d : Nat} {q : List KT} (h : AtK ts i ((1, [116, 114, 117, 101]) :: q)) : jbP ts [] false (n + 1) .one i d = (i + 1, 0, .mk 0 [] [] 0 (bstr []) (bstr []) []) := by
 have e : isT ts i [116, 114, 117, 101] = true := by rw [isT_at h]; rfl
 show (if _ then _ else _) = _
 rw [isT_no h (by decide), isT_no h (by decide), e]
 rfl
theorem one_false {n i d : Nat} {q : List KT} (h : AtK ts i ((1, [102, 97, 108, 115, 101]) :: q)) : jbP ts [] false (n + 1) .one i d = (i + 1, 0, .mk 1 [] [] 0 (bstr []) (bstr []) []) := by
 have e : isT ts i [102, 97, 108, 115, 101] = true := by rw [isT_at h]; rfl
 show (if _ then _ else _) = _
 rw [isT_no h (by decide), isT_no h (by decide), isT_no h (by decide), e]
 rfl
theorem one_cmp {n i d : Nat} {a : KT} {q : List KT} (h : AtK ts i (a :: q)) (h1 : a.2 ≠ [33] ∧ a.2 ≠ [40] ∧ a.2 ≠ [116, 114, 117, 101] ∧ a.2 ≠ [102, 97, 108, 115, 101]) : jbP ts [] false (n + 1) .one i d = cmpP ts [] false i := by
 show (if _ then _ else _) = _
 rw [isT_no h h1.1, isT_no h h1.2.1, isT_no h h1.2.2.1, isT_no h h1.2.2.2]
 rfl
def P1 (ts : List Tk) (b : Bool) (t : Tr) : Prop := ∀ (f i d : Nat) (a : KT) (q : List KT), AtK ts i (brK b (txtK t) ++ a :: q) → StopK a → upD b d ≤ 60 → rightB t (upD b d) = true → 4 * (brK b (txtK t)).length ≤ f → jbP ts [] false f .one i d = (i + (brK b (txtK t)).length, 0, t)
def P2 (ts : List Tk) (b : Bool) (t : Tr) : Prop := ∀ (f i d : Nat) (a : KT) (q : List KT), AtK ts i (brK b (txtK t) ++ a :: q) → StopK a → upD b d ≤ 60 → rightB t (upD b d) = true → 4 * (brK b (txtK t)).length + 1 ≤ f →
 ∃ g, f ≤ g + 4 * (brK b (txtK t)).length ∧ 1 ≤ g ∧ jbP ts [] false f .both i d = jbP ts [] false g (.bothL t) (i + (brK b (txtK t)).length) d
def P3 (ts : List Tk) (t : Tr) : Prop := ∀ (f i d : Nat) (a : KT) (q : List KT), AtK ts i (txtK t ++ a :: q) → StopK a → a.2 ≠ [38] → d ≤ 60 → rightB t d = true → 4 * (txtK t).length + 2 ≤ f →
 ∃ g, f ≤ g + 4 * (txtK t).length ∧ 1 ≤ g ∧ jbP ts [] false f .cond i d = jbP ts [] false g (.condL t) (i + (txtK t).length) d
theorem brK_len (s : List KT) : (brK true s).length = s.length + 2 := by
 unfold brK
 rw [if_pos rfl]
 simp
theorem P1.br {t : Tr} (h : P3 ts t) : P1 ts true t := by
 intro f i d a q hat ha hd hr hf
 rw [brK_len] at hf ⊢
 obtain ⟨n, rfl⟩ : ∃ n, f = n + 1 := ⟨f - 1, by omega⟩
 have hat : AtK ts i ((2, [40]) :: (txtK t ++ (2, [41]) :: a :: q)) := by
  have e : brK true (txtK t) ++ a :: q = (2, [40]) :: (txtK t ++ (2, [41]) :: a :: q) := by simp [brK]
  rwa [e] at hat
 have hd : d + 1 ≤ 60 := hd
 have h2 := (atK_cons hat).2
 obtain ⟨g, g1, g2, g3⟩ := h n (i + 1) (d + 1) (2, [41]) (a :: q) h2 (.inr (.inl rfl)) (by decide) hd hr (by omega)
 obtain ⟨g, rfl⟩ : ∃ n, g = n + 1 := ⟨g - 1, by omega⟩
 have h3 := atK_app h2
 rw [one_open hat (by omega), g3, condL_stop h3 (by decide), thenT_ok, isT_yes h3, if_pos rfl]
 rw [show i + 1 + (txtK t).length + 1 = i + ((txtK t).length + 2) by omega]
theorem P2.of1 {b : Bool} {t : Tr} (h : P1 ts b t) (hl : 1 ≤ (brK b (txtK t)).length) : P2 ts b t := by
 intro f i d a q hat ha hd hr hf
 obtain ⟨n, rfl⟩ : ∃ n, f = n + 1 := ⟨f - 1, by omega⟩
 refine ⟨n, by omega, by omega, ?_⟩
 rw [jb_both, h n i d a q hat ha hd hr (by omega), thenT_ok]
theorem P3.of2 {t : Tr} (h : P2 ts false t) (hl : 1 ≤ (txtK t).length) : P3 ts t := by
 intro f i d a q hat ha h38 hd hr hf
 obtain ⟨n, rfl⟩ : ∃ n, f = n + 1 := ⟨f - 1, by omega⟩
 obtain ⟨g, g1, g2, g3⟩ := h n i d a q hat ha hd hr (by
  show 4 * (txtK t).length + 1 ≤ n
  omega)
 have g1 : n ≤ g + 4 * (txtK t).length := g1
 obtain ⟨g, rfl⟩ : ∃ n, g = n + 1 := ⟨g - 1, by omega⟩
 refine ⟨n, by omega, by omega, ?_⟩
 have h3 : AtK ts (i + (txtK t).length) (a :: q) := atK_app hat
 rw [jb_cond, g3]
 show thenT (jbP ts [] false (g + 1) (.bothL t) (i + (txtK t).length) d) _ = _
 rw [bothL_stop h3 h38, thenT_ok]
theorem brk4 (i : Nat) (x : Tr) : brk 4 i x.kind = (decide (x.kind = 5) || (decide (i = 1) && decide (x.kind = 4))) := rfl
theorem brk5 (i : Nat) (x : Tr) : brk 5 i x.kind = (decide (i = 1) && decide (x.kind = 5)) := rfl
theorem brk3 (i : Nat) (x : Tr) : brk 3 i x.kind = (decide (x.kind = 4) || decide (x.kind = 5)) := rfl
theorem txtK_pos : ∀ (n : Nat) (t : Tr) (d : Nat), SizeOf.sizeOf t < n → rightB t d = true → 1 ≤ (txtK t).length := by
 intro n
 induction n with
 | zero => intro t d h; omega
 | succ n ih =>
  intro t d hn h
  cases shape_of h with
  | tt => decide
  | ff => decide
  | @cmp _ l r op hl hr h1 h2 =>
   rw [txtK, if_neg (by decide), if_pos rfl]
   simp only [List.length_append, List.length_cons]
   omega
  | @no _ x hd hx =>
   rw [txtK, if_neg (by decide), if_neg (by decide)]
   show 1 ≤ ([(2, [33])] ++ _ : List KT).length
   simp
  | @bin _ k x y hk hd hx gd hy =>
   rw [txtK, if_neg (by omega), if_neg (by omega)]
   rcases hk with rfl | rfl
   ·show 1 ≤ (_ ++ [(2, [38])] ++ _ : List KT).length
    simp only [List.length_append, List.length_cons]
    omega
   ·show 1 ≤ (_ ++ [(2, [124])] ++ _ : List KT).length
    simp only [List.length_append, List.length_cons]
    omega
theorem txtK_no (x : Tr) : txtK (.mk 3 [] [] 0 (bstr []) (bstr []) [x]) = (2, [33]) :: brK (brk 3 0 x.kind) (txtK x) := by
 rw [txtK, if_neg (by decide), if_neg (by decide), kidK_cons]
 rfl
theorem txtK_bin {k : Int} (hk : k = 4 ∨ k = 5) (x y : Tr) : txtK (.mk k [] [] 0 (bstr []) (bstr []) [x, y]) = brK (brk k 0 x.kind) (txtK x) ++ ((2, [if k = 4 then 38 else 124]) :: brK (brk k 1 y.kind) (txtK y)) := by
 rw [txtK, if_neg (by omega), if_neg (by omega), kidK_cons, kidK_cons]
 rcases hk with rfl | rfl
 ·show _ ++ [(2, [38])] ++ _ = _
  rw [List.append_assoc]
  rfl
 ·show _ ++ [(2, [124])] ++ _ = _
  rw [List.append_assoc]
  rfl
theorem back_tr : ∀ (n : Nat) (t : Tr), SizeOf.sizeOf t < n → (t.kind ≠ 4 → t.kind ≠ 5 → P1 ts false t) ∧ (t.kind ≠ 5 → P2 ts false t) ∧ P3 ts t := by
 intro n
 induction n with
 | zero => intro t h; omega
 | succ n ih =>
  intro t hn
  have l1 : t.kind ≠ 4 → t.kind ≠ 5 → P1 ts false t := by
   intro h4 h5 f i d a q hat ha hd hr hf
   have hr : rightB t d = true := hr
   have hd : d ≤ 60 := hd
   have hat : AtK ts i (txtK t ++ a :: q) := hat
   have hf : 4 * (txtK t).length ≤ f := hf
   show jbP ts [] false f .one i d = (i + (txtK t).length, 0, t)
   have hp := txtK_pos _ t d (Nat.lt_succ_self _) hr
   obtain ⟨m, rfl⟩ : ∃ m, f = m + 1 := ⟨f - 1, by omega⟩
   cases shape_of hr with
   | tt => exact one_true hat
   | ff => exact one_false hat
   | @cmp _ l r op hl hs h1 h2 =>
    have e : txtK (.mk 2 l r op (bstr []) (bstr []) []) = sumK 0 l ++ [(2, opsL.getD op.toNat [])] ++ sumK 0 r := by rw [txtK, if_neg (by decide), if_pos rfl]
    rw [e] at hat ⊢
    obtain ⟨b, p, e2, k⟩ := sumK_hd hl
    have hat' := hat
    rw [e2] at hat'
    rw [one_cmp hat' k, cmpP_ok hl hs h1 h2 hat ha]
   | @no _ x hd hx =>
    rw [txtK_no] at hat hf ⊢
    rw [List.length_cons] at hf ⊢
    obtain ⟨i1, _, i3⟩ := ih x (by simp only [Tr.mk.sizeOf_spec, List.cons.sizeOf_spec] at hn; omega)
    have p1 : P1 ts (brk 3 0 x.kind) x := by
     cases hb : brk 3 0 x.kind with
     | true => exact P1.br i3
     | false =>
      rw [brk3, Bool.or_eq_false_iff, decide_eq_false_iff_not, decide_eq_false_iff_not] at hb
      exact i1 hb.1 hb.2
    have hat2 : AtK ts (i + 1) (brK (brk 3 0 x.kind) (txtK x) ++ a :: q) := (atK_cons hat).2
    have hd60 : d ≠ 60 := by
     have : d + 1 ≤ upD (brk 3 0 x.kind) (d + 1) := by cases brk 3 0 x.kind <;> simp [upD]
     omega
    rw [one_not hat hd60, p1 m (i + 1) (d + 1) a q hat2 ha hd hx (by omega), thenT_ok]
    rw [show i + 1 + (brK (brk 3 0 x.kind) (txtK x)).length = i + ((brK (brk 3 0 x.kind) (txtK x)).length + 1) by omega]
   | @bin _ k x y hk hd hx gd hy =>
    rcases hk with rfl | rfl
    ·exact absurd rfl h4
    ·exact absurd rfl h5
  have l2 : t.kind ≠ 5 → P2 ts false t := by
   intro h5
   by_cases h4 : t.kind = 4
   ·intro f i d a q hat ha hd hr hf
    have hr : rightB t d = true := hr
    have hd : d ≤ 60 := hd
    have hat : AtK ts i (txtK t ++ a :: q) := hat
    have hf : 4 * (txtK t).length + 1 ≤ f := hf
    show ∃ g, f ≤ g + 4 * (txtK t).length ∧ 1 ≤ g ∧ jbP ts [] false f .both i d = jbP ts [] false g (.bothL t) (i + (txtK t).length) d
    cases shape_of hr with
    | tt => cases h4
    | ff => cases h4
    | cmp => cases h4
    | no => cases h4
    | @bin _ k x y hk hd hx gd hy =>
     have h4 : k = 4 := h4
     subst h4
     rw [txtK_bin (.inl rfl)] at hat hf ⊢
     simp only [if_true, List.length_append, List.length_cons] at hat hf ⊢
     rw [List.append_assoc, List.cons_append] at hat
     obtain ⟨_, i2, i3⟩ := ih x (by simp only [Tr.mk.sizeOf_spec, List.cons.sizeOf_spec] at hn; omega)
     obtain ⟨j1, _, j3⟩ := ih y (by simp only [Tr.mk.sizeOf_spec, List.cons.sizeOf_spec] at hn; omega)
     have px : P2 ts (brk 4 0 x.kind) x := by
      cases hb : brk 4 0 x.kind with
      | true =>
       refine P2.of1 (P1.br i3) ?_
       rw [brK_len]
       omega
      | false =>
       rw [brk4, Bool.or_eq_false_iff, decide_eq_false_iff_not] at hb
       exact i2 hb.1
     have py : P1 ts (brk 4 1 y.kind) y := by
      cases hb : brk 4 1 y.kind with
      | true => exact P1.br j3
      | false =>
       rw [brk4, Bool.or_eq_false_iff, decide_eq_false_iff_not] at hb
       exact j1 (by simpa using hb.2) hb.1
     obtain ⟨g, g1, g2, g3⟩ := px f i d (2, [38]) _ hat (.inr (.inr (.inl rfl))) hd hx (by omega)
     have hat2 := atK_app hat
     obtain ⟨g, rfl⟩ : ∃ n, g = n + 1 := ⟨g - 1, by omega⟩
     have hat3 := (atK_cons hat2).2
     refine ⟨g, by omega, by omega, ?_⟩
     rw [g3, bothL_go hat2, py g _ d a q hat3 ha gd hy (by omega), thenT_ok]
     rw [show i + (brK (brk 4 0 x.kind) (txtK x)).length + 1 + (brK (brk 4 1 y.kind) (txtK y)).length = i + ((brK (brk 4 0 x.kind) (txtK x)).length + ((brK (brk 4 1 y.kind) (txtK y)).length + 1)) by omega]
   ·intro f i d a q hat ha hd hr hf
    exact P2.of1 (l1 h4 h5) (txtK_pos _ t d (Nat.lt_succ_self _) hr) f i d a q hat ha hd hr hf
  refine ⟨l1, l2, ?_⟩
  by_cases h5 : t.kind = 5
  ·intro f i d a q hat ha h38 hd hr hf
   cases shape_of hr with
   | tt => cases h5
   | ff => cases h5
   | cmp => cases h5
   | no => cases h5
   | @bin _ k x y hk hd hx gd hy =>
    have h5 : k = 5 := h5
    subst h5
    rw [txtK_bin (.inr rfl)] at hat hf ⊢
    simp only [show ¬(5 : Int) = 4 by decide, if_false, List.length_append, List.length_cons] at hat hf ⊢
    rw [List.append_assoc, List.cons_append] at hat
    obtain ⟨_, _, i3⟩ := ih x (by simp only [Tr.mk.sizeOf_spec, List.cons.sizeOf_spec] at hn; omega)
    obtain ⟨_, j2, j3⟩ := ih y (by simp only [Tr.mk.sizeOf_spec, List.cons.sizeOf_spec] at hn; omega)
    have hb0 : brk 5 0 x.kind = false := rfl
    rw [hb0] at hat hf hd hx ⊢
    have hat : AtK ts i (txtK x ++ (2, [124]) :: (brK (brk 5 1 y.kind) (txtK y) ++ a :: q)) := hat
    have hf : 4 * ((txtK x).length + ((brK (brk 5 1 y.kind) (txtK y)).length + 1)) + 2 ≤ f := hf
    show ∃ g, f ≤ g + 4 * ((txtK x).length + ((brK (brk 5 1 y.kind) (txtK y)).length + 1)) ∧ 1 ≤ g ∧ jbP ts [] false f .cond i d = jbP ts [] false g (.condL (.mk 5 [] [] 0 (bstr []) (bstr []) [x, y])) (i + ((txtK x).length + ((brK (brk 5 1 y.kind) (txtK y)).length + 1))) d
    have py : P2 ts (brk 5 1 y.kind) y := by
     cases hb : brk 5 1 y.kind with
     | true =>
      refine P2.of1 (P1.br j3) ?_
      rw [brK_len]
      omega
     | false =>
      rw [brk5] at hb
      exact j2 (by simpa using hb)
    obtain ⟨g, g1, g2, g3⟩ := i3 f i d (2, [124]) _ hat (.inr (.inr (.inr rfl))) (by decide) hd hx (by omega)
    have hat2 := atK_app hat
    obtain ⟨g, rfl⟩ : ∃ n, g = n + 1 := ⟨g - 1, by omega⟩
    have hat3 := (atK_cons hat2).2
    obtain ⟨g', k1, k2, k3⟩ := py g _ d a q hat3 ha gd hy (by omega)
    obtain ⟨g', rfl⟩ : ∃ n, g' = n + 1 := ⟨g' - 1, by omega⟩
    have hat4 := atK_app hat3
    refine ⟨g, by omega, by omega, ?_⟩
    rw [g3, condL_go hat2, k3, bothL_stop hat4 h38, thenT_ok]
    rw [show i + (txtK x).length + 1 + (brK (brk 5 1 y.kind) (txtK y)).length = i + ((txtK x).length + ((brK (brk 5 1 y.kind) (txtK y)).length + 1)) by omega]
  ·intro f i d a q hat ha h38 hd hr hf
   exact P3.of2 (l2 h5) (txtK_pos _ t d (Nat.lt_succ_self _) hr) f i d a q hat ha h38 hd hr hf
end
theorem pcond_back {t : Tr} (h : rightB t 0 = true) (hs : (txt t).length ≤ 16384) : pcondP (txt t) = (t, 0, 0, 0) := by
 obtain ⟨hl, _⟩ := tr_lx _ t 0 (Nat.lt_succ_self _) h
 obtain ⟨ts, h1, h2⟩ := lexAll_lx hl hs
 have hlen : ts.length = (txtK t).length + 1 := by
  have := congrArg List.length h2
  simpa using this
 have hat : AtK ts 0 (txtK t ++ (5, []) :: []) := h2
 obtain ⟨_, _, p3⟩ := back_tr (ts := ts) _ t (Nat.lt_succ_self _)
 obtain ⟨g, g1, g2, g3⟩ := p3 (4 * ts.length + 3) 0 0 (5, []) [] hat (.inl rfl) (by decide) (by omega) h (by omega)
 obtain ⟨g, rfl⟩ : ∃ n, g = n + 1 := ⟨g - 1, by omega⟩
 have hat2 := atK_app hat
 rw [condL_stop hat2 (by decide)] at g3
 unfold pcondP
 rw [h1]
 simp only
 unfold condP
 rw [if_pos (Nat.zero_le _), g3]
 unfold endP
 have hk := (atK_cons hat2).1.1
 simp only [if_true, hk]
theorem psum_back {ms : List Mo} (h : rsB ms = true) (hs : (sumTxt ms).length ≤ 16384) : psumP (sumTxt ms) = (ms, 0, 0, 0) := by
 obtain ⟨ts, h1, h2⟩ := lexAll_lx (sumTxt_lx h) hs
 have hat : AtK ts 0 (sumK 0 ms ++ (5, []) :: []) := h2
 have g := sumP_ok h hat (by decide)
 have hat2 := atK_app hat
 unfold psumP
 rw [h1]
 simp only [g]
 unfold endP
 have hk := (atK_cons hat2).1.1
 simp only [if_true, hk]
theorem pcond_long {s : List UInt8} (hs : 16384 < s.length) : pcondP s = (T0, 1, 1, 2) := by
 unfold pcondP lexAll
 rw [if_pos hs]
end Go.Proofs.YtlmhajfbpplpoaaGreat
namespace Go.Proofs.YtlmhajfbpplpoaaGreat
open Go.RowKit

theorem right_of {t : Tr} {d : Nat} (hd : d ≤ 60) (h : ShapeT t d) : rightB t d = true := by
 cases h with
 | tt => rw [rightB]; simp [bareB, arI, upD, hd, kidsB]
 | ff => rw [rightB]; simp [bareB, arI, upD, hd, kidsB]
 | cmp _ hl hr h1 h2 => rw [rightB]; simp [cmpB, hl, hr, h1, h2]
 | @no _ x hx h =>
  have : d + 1 ≤ 60 := by
   have : d + 1 ≤ upD (brk 3 0 x.kind) (d + 1) := by cases brk 3 0 x.kind <;> simp [upD]
   omega
  have e : upD (decide ((3 : Int) = 3)) d = d + 1 := rfl
  rw [rightB, if_neg (by decide), e]
  simp only [kidsB, hx, h]
  simp [bareB, arI, this]
 | @bin _ k x y hk hx h gd g =>
  have e : upD (decide ((k : Int) = 3)) d = d := by rw [decide_eq_false (by omega)]; rfl
  have a : arI k = 2 := by rcases hk with rfl | rfl <;> rfl
  rw [rightB, if_neg (by omega), e, a]
  simp only [kidsB, hx, h, gd, g]
  simp [bareB, hd]
structure TkN (ts : List Tk) : Prop where
 fin : (ts.getLastD ⟨5, [], 0, 0⟩).kind = 5
 num : ∀ i, (nx ts i).kind = 3 → numB (nx ts i).text = true
section
variable {ts : List Tk} (H : TkN ts)
include H
def lenO (x : Tr) : Nat := (txt x).length + if x.kind = 4 ∨ x.kind = 5 then 2 else 0
def lenW (x : Tr) : Nat := (txt x).length + if x.kind = 5 then 2 else 0
structure ROk (d s : Nat) (x : Tr) : Prop where
 r : rightB x d = true
 b : x.kind = 4 ∨ x.kind = 5 → d + 1 ≤ 60 ∧ rightB x (d + 1) = true
 l : lenO x ≤ s
structure RWk (d s : Nat) (x : Tr) : Prop where
 r : rightB x d = true
 b : x.kind = 5 → d + 1 ≤ 60 ∧ rightB x (d + 1) = true
 l : lenW x ≤ s
structure RCk (d s : Nat) (x : Tr) : Prop where
 r : rightB x d = true
 l : (txt x).length ≤ s
omit H in
theorem ROk.w {d s : Nat} {x : Tr} (h : ROk d s x) : RWk d s x := ⟨h.r, fun e => h.b (.inr e), by
 have := h.l
 unfold lenO at this
 unfold lenW
 split
 ·rename_i e; rw [if_pos (.inr e)] at this; exact this
 ·omega⟩
omit H in
theorem RWk.c {d s : Nat} {x : Tr} (h : RWk d s x) : RCk d s x := ⟨h.r, by
 have := h.l
 unfold lenW at this
 omega⟩
end
end Go.Proofs.YtlmhajfbpplpoaaGreat
namespace Go.Proofs.YtlmhajfbpplpoaaGreat
open Go.RowKit

theorem brT_len (b : Bool) (s : List UInt8) : (brT b s).length = s.length + if b then 2 else 0 := by
 cases b with
 | false => rfl
 | true =>
  unfold brT
  rw [if_pos rfl, if_pos rfl]
  simp
theorem brk3_len (x : Tr) : (brT (brk 3 0 x.kind) (txt x)).length = lenO x := by
 rw [brT_len, brk3]
 unfold lenO
 by_cases h1 : x.kind = 4 <;> by_cases h2 : x.kind = 5 <;> simp [h1, h2]
theorem brk40_len (x : Tr) : (brT (brk 4 0 x.kind) (txt x)).length = lenW x := by
 rw [brT_len, brk4]
 unfold lenW
 by_cases h2 : x.kind = 5 <;> simp [h2]
theorem brk41_len (x : Tr) : (brT (brk 4 1 x.kind) (txt x)).length = lenO x := by
 rw [brT_len, brk4]
 unfold lenO
 by_cases h1 : x.kind = 4 <;> by_cases h2 : x.kind = 5 <;> simp [h1, h2]
theorem brk51_len (x : Tr) : (brT (brk 5 1 x.kind) (txt x)).length = lenW x := by
 rw [brT_len, brk5]
 unfold lenW
 by_cases h2 : x.kind = 5 <;> simp [h2]
theorem txt_no (x : Tr) : (txt (.mk 3 [] [] 0 (bstr []) (bstr []) [x])).length = 1 + lenO x := by
 rw [txt, if_neg (by decide), if_neg (by decide), kidTx_cons]
 show ([33] ++ brT (brk 3 0 x.kind) (txt x)).length = _
 rw [List.length_append, brk3_len]
 rfl
theorem txt_and (x y : Tr) : (txt (.mk 4 [] [] 0 (bstr []) (bstr []) [x, y])).length = lenW x + 3 + lenO y := by
 rw [txt, if_neg (by decide), if_neg (by decide), kidTx_cons, kidTx_cons]
 show (brT (brk 4 0 x.kind) (txt x) ++ [32, 38, 32] ++ brT (brk 4 1 y.kind) (txt y)).length = _
 rw [List.length_append, List.length_append, brk40_len, brk41_len]
 rfl
theorem txt_or (x y : Tr) : (txt (.mk 5 [] [] 0 (bstr []) (bstr []) [x, y])).length = (txt x).length + 3 + lenW y := by
 rw [txt, if_neg (by decide), if_neg (by decide), kidTx_cons, kidTx_cons]
 show (brT (brk 5 0 x.kind) (txt x) ++ [32, 124, 32] ++ brT (brk 5 1 y.kind) (txt y)).length = _
 rw [List.length_append, List.length_append, brk51_len]
 rfl
theorem ROk.le {d s s' : Nat} {x : Tr} (h : ROk d s x) (hs : s ≤ s') : ROk d s' x := ⟨h.r, h.b, Nat.le_trans h.l hs⟩
theorem RWk.le {d s s' : Nat} {x : Tr} (h : RWk d s x) (hs : s ≤ s') : RWk d s' x := ⟨h.r, h.b, Nat.le_trans h.l hs⟩
theorem RCk.le {d s s' : Nat} {x : Tr} (h : RCk d s x) (hs : s ≤ s') : RCk d s' x := ⟨h.r, Nat.le_trans h.l hs⟩
section
variable {ts : List Tk} (H : TkN ts)
include H
end
end Go.Proofs.YtlmhajfbpplpoaaGreat
namespace Go.Proofs.YtlmhajfbpplpoaaGreat
open Go.RowKit

theorem eOp_len (s : List UInt8) : (eOp s).length = 1 := rfl
structure SumF (D : Orc) : Prop where
 sum : ∀ ms : List Mo, rsB ms = true → D.ask (.fn 22) [.ls (ms.map eMo)] [] = some (sv (bstr (sumTxt ms)), [])
theorem mo_small {m : Mo} (h : rightMoB m = true) : m.num.size ≤ 60 ∧ m.var.size ≤ 20 := by
 obtain ⟨h1, h2, _⟩ := mo_parts h
 rw [size_list, size_list]
 constructor
 ·by_cases e : m.num = bstr []
  ·rw [e]; simp [bstr]
  ·exact numB_len (h1 e)
 ·by_cases e : m.var = bstr []
  ·rw [e]; simp [bstr]
  ·exact nameB_len (h2 e)
theorem rs_wz {ms : List Mo} (h : rsB ms = true) : ms.length < 4611686018427387904 ∧ ∀ m ∈ ms, m.num.size ≤ 9223372036854775807 ∧ m.var.size ≤ 9223372036854775807 := by
 obtain ⟨_, h2, h3⟩ := rsB_all h
 refine ⟨by omega, fun m hm => ?_⟩
 have := mo_small (List.all_eq_true.1 h3 m hm)
 omega
theorem right_wz : ∀ (n : Nat) (t : Tr) (d : Nat), SizeOf.sizeOf t < n → rightB t d = true → WzT t := by
 intro n
 induction n with
 | zero => intro t d h; omega
 | succ n ih =>
  intro t d hn h
  cases shape_of h with
  | tt => exact .mk (by simp) (by simp) (by simp) (by simp) (by simp) (by simp)
  | ff => exact .mk (by simp) (by simp) (by simp) (by simp) (by simp) (by simp)
  | @cmp _ l r op hl hr h1 h2 => exact .mk (rs_wz hl).1 (rs_wz hr).1 (by simp) (rs_wz hl).2 (rs_wz hr).2 (by simp)
  | @no _ x hd hx =>
   refine .mk (by simp) (by simp) (by simp) (by simp) (by simp) fun y hy => ?_
   obtain rfl : y = x := by simpa using hy
   exact ih y _ (by simp only [Tr.mk.sizeOf_spec, List.cons.sizeOf_spec] at hn; omega) hx
  | @bin _ k x y hk hd hx gd hy =>
   refine .mk (by simp) (by simp) (by simp) (by simp) (by simp) fun z hz => ?_
   simp only [List.mem_cons, List.not_mem_nil, or_false] at hz
   rcases hz with rfl | rfl
   ·exact ih z _ (by simp only [Tr.mk.sizeOf_spec, List.cons.sizeOf_spec] at hn; omega) hx
   ·exact ih z _ (by simp only [Tr.mk.sizeOf_spec, List.cons.sizeOf_spec] at hn; omega) hy
theorem lenO_ge (x : Tr) : (txt x).length ≤ lenO x := Nat.le_add_right _ _
theorem lenW_ge (x : Tr) : (txt x).length ≤ lenW x := Nat.le_add_right _ _
section
variable {D : Orc}
variable (K : Knows ownC tabTx D) (Kt : Knows ownC tabTa D) (L : LexN D) (Ke : Knows ownC tabEa D) (S : SumF D)
include K Kt L Ke S
theorem cmpText_ok {l r : List Mo} {op : Int} (hl : rsB l = true) (hr : rsB r = true) (h1 : 0 ≤ op) (h2 : op ≤ 5) : D.ask (.fn 47) [.agg (eTr (.mk 2 l r op (bstr []) (bstr []) []))] [] = some (sv (bstr (cmpTx l r op)), []) := by
 have hr0 : rightB (.mk 2 l r op (bstr []) (bstr []) []) 0 = true := right_of (by omega) (.cmp 0 hl hr h1 h2)
 have gc := treecmp_ok Kt L (.mk 2 l r op (bstr []) (bstr []) []) (right_wz _ _ 0 (Nat.lt_succ_self _) hr0)
 have hc : cmpB (.mk 2 l r op (bstr []) (bstr []) []) = true := by
  unfold cmpB
  simp [hl, hr, h1, h2]
 rw [hc] at gc
 have g1 := S.sum l hl
 have g2 := S.sum r hr
 have l1 := sumTx_len l 0 (rsB_all hl).2.2
 have l2 := sumTx_len r 0 (rsB_all hr).2.2
 have l3 := (rsB_all hl).2.1
 have l4 := (rsB_all hr).2.1
 have e1 : sumTxt l = sumTx 0 l := by unfold sumTxt; rw [if_pos hl]
 have e2 : sumTxt r = sumTx 0 r := by unfold sumTxt; rw [if_pos hr]
 rw [← e1] at l1
 rw [← e2] at l2
 obtain ⟨n, rfl⟩ : ∃ n : Nat, op = n := ⟨op.toNat, by omega⟩
 have hn : n < 6 := by omega
 have hop : opsL[n]? = some (opsL.getD n []) := by
  match n, hn with
  | 0, _ => rfl
  | 1, _ => rfl
  | 2, _ => rfl
  | 3, _ => rfl
  | 4, _ => rfl
  | 5, _ => rfl
 have hol : (opsL.getD n []).length ≤ 2 := by
  match n, hn with
  | 0, _ => decide
  | 1, _ => decide
  | 2, _ => decide
  | 3, _ => decide
  | 4, _ => decide
  | 5, _ => decide
 refine K.fn' hn47 _ rfl ((e47 ..).trans ?_)
 refine (askK_of gc _).trans ?_
 simp only [ND]
 refine (askK_of g1 _).trans ?_
 simp only [ND, r_slen, r_cat, cat_bs]
 have s1 : (bstr [32]).size = 1 := rfl
 refine (br_ble (by simp only [bstr_size, List.length_append, List.length_cons, List.length_nil]; omega) _ _).trans ?_
 refine (askK_of (compares_ok Ke) _).trans ?_
 simp only [ND]
 rw [unI_n, nthK_some hop]
 simp only [eOp, ND, r_slen, r_cat, cat_bs]
 refine (br_ble (by simp only [bstr_size, List.length_append, List.length_cons, List.length_nil]; omega) _ _).trans ?_
 refine (br_ble (by simp only [bstr_size, List.length_append, List.length_cons, List.length_nil]; omega) _ _).trans ?_
 refine (askK_of g2 _).trans ?_
 simp only [ND, r_slen, r_cat, cat_bs]
 refine (br_ble (by simp only [bstr_size, List.length_append, List.length_cons, List.length_nil]; omega) _ _).trans ?_
 rfl
theorem text_lp (t : Tr) (ks : List Tr) (hk : ks.length ≤ 2) (g : ∀ x ∈ ks, D.ask (.fn 63) [.agg (eTr x)] [] = some (sv (bstr (txt x)), []) ∧ (txt x).length ≤ 1000000000000) : ∀ (n i : Nat) (out : List (List UInt8)), ks.length - i = n → out.length + n ≤ 2 →
  D.ask (.lp 63 0) [.ptr 0 0, .sl 1 0 out.length 1, .ls (ks.map eTr), iv (ks.length : Int), iv (i : Int)] [boxT t, ABlk.mk (rowC eOp out) true true] =
   some (.tup [iv 0, .ptr 0 0, .sl 2 0 (out ++ kidTx t.kind i (ks.drop i)).length 1], [.set (boxT t), .del, .set (ABlk.mk (rowC eOp (out ++ kidTx t.kind i (ks.drop i))) true true)]) := by
 intro n
 obtain ⟨k, l, r, op, p, q, kz⟩ := t
 induction n with
 | zero =>
  intro i out hi ho
  refine K.lp' hn63 _ rfl (by kernel_rfl) ((e63_0 ..).trans ?_)
  rw [show ks.drop i = [] from List.drop_eq_nil_of_le (by omega), kidTx_nil, List.append_nil]
  refine (br_ltF (by omega)).trans ?_
  rfl
 | succ n ih =>
  intro i out hi ho
  have hlt : i < ks.length := by omega
  rw [show ks.drop i = ks[i] :: ks.drop (i + 1) from List.drop_eq_getElem_cons hlt]
  obtain ⟨gx, gl⟩ := g ks[i] (List.getElem_mem hlt)
  have hb := bracketed_ok Kt k i ks[i]
  refine K.lp' hn63 _ rfl (by kernel_rfl) ((e63_0 ..).trans ?_)
  refine (br_ltT (by omega)).trans ?_
  rw [unI_n, nthK_some (List.getElem?_eq_getElem hlt)]
  rw [kidTx_cons]
  have ih := ih (i + 1) (out ++ [brT (brk k i ks[i].kind) (txt ks[i])]) (by omega) (by simp; omega)
  rw [List.append_assoc, List.length_append, List.length_singleton] at ih
  revert gx hb gl ih
  generalize ks[i] = x
  obtain ⟨xk, xl, xr, xo, xp, xq, xs⟩ := x
  intro gx gl hb ih
  unfold Tr.kind
  unfold Tr.kind at hb ih
  simp only [eTr, ND] at gx hb ⊢
  refine (askK_of gx _).trans ?_
  simp only [ND]
  refine (askK_of hb _).trans ?_
  simp only [ND]
  rw [add1 (by omega)]
  have hf : fitsB (out.length + 1) 16 = true := fits_small (by omega) (by omega)
  have hb1 : Nat.ble (0 + out.length * 1) (rowC eOp out).length = true := ble_row eOp_len out (by omega)
  have e3 : ∀ s, List.drop 0 (List.take (0 + out.length * 1) (rowC eOp out)) ++ [sv (bstr s)] = rowC eOp (out ++ [s]) := fun s => by
   rw [List.drop_zero, rowC_all eOp_len out (by omega)]
   exact rowC_snoc eOp out s
  cases hbk : brk k i xk with
  | true =>
   rw [hbk] at ih
   refine (br_t _ _).trans ?_
   simp only [r_slen, r_cat, cat_bs]
   refine (br_ble (by simp only [bstr_size, List.length_cons, List.length_nil]; omega) _ _).trans ?_
   refine (br_ble (by simp only [bstr_size, List.length_append, List.length_cons, List.length_nil]; omega) _ _).trans ?_
   rw [hf, hb1, e3]
   refine (br_t _ _).trans ?_
   refine (br_t _ _).trans ?_
   refine (askK_of ih _).trans ?_
   rfl
  | false =>
   rw [hbk] at ih
   refine (br_f _ _).trans ?_
   rw [hf, hb1, e3]
   refine (br_t _ _).trans ?_
   refine (br_t _ _).trans ?_
   refine (askK_of ih _).trans ?_
   rfl
theorem text_ok : ∀ (n : Nat) (t : Tr) (d : Nat), SizeOf.sizeOf t < n → rightB t d = true → (txt t).length ≤ 1000000000000 → D.ask (.fn 63) [.agg (eTr t)] [] = some (sv (bstr (txt t)), []) := by
 intro n
 induction n with
 | zero => intro t d h; omega
 | succ n ih =>
  intro t d hn h hlen
  cases shape_of h with
  | tt =>
   have glp := text_lp K Kt L Ke S (.mk 0 [] [] 0 (bstr []) (bstr []) []) [] (by simp) (by simp) 0 0 [] rfl (by simp)
   refine K.fn' hn63 _ rfl ((e63 ..).trans ?_)
   refine (askK_of glp _).trans ?_
   rfl
  | ff =>
   have glp := text_lp K Kt L Ke S (.mk 1 [] [] 0 (bstr []) (bstr []) []) [] (by simp) (by simp) 0 0 [] rfl (by simp)
   refine K.fn' hn63 _ rfl ((e63 ..).trans ?_)
   refine (askK_of glp _).trans ?_
   rfl
  | @cmp _ l r op hl hr h1 h2 =>
   have glp := text_lp K Kt L Ke S (.mk 2 l r op (bstr []) (bstr []) []) [] (by simp) (by simp) 0 0 [] rfl (by simp)
   have gc := cmpText_ok K Kt L Ke S hl hr h1 h2
   have hc : cmpB (.mk 2 l r op (bstr []) (bstr []) []) = true := by
    unfold cmpB
    simp [hl, hr, h1, h2]
   have e : txt (.mk 2 l r op (bstr []) (bstr []) []) = cmpTx l r op := by rw [txt, if_neg (by decide), if_pos rfl, if_pos hc]
   rw [e]
   refine K.fn' hn63 _ rfl ((e63 ..).trans ?_)
   refine (askK_of glp _).trans ?_
   simp only [boxT, eTr, ND]
   refine (br_eqF (by decide)).trans ?_
   refine (br_eqT rfl).trans ?_
   simp only [eTr, eTrs] at gc
   refine (askK_of gc _).trans ?_
   rfl
  | @no _ x hd hx =>
   have hl := txt_no x
   have hg := lenO_ge x
   have gx := ih x _ (by simp only [Tr.mk.sizeOf_spec, List.cons.sizeOf_spec] at hn; omega) hx (by omega)
   have glp := text_lp K Kt L Ke S (.mk 3 [] [] 0 (bstr []) (bstr []) [x]) [x] (by simp) (by
    intro y hy
    obtain rfl : y = x := by simpa using hy
    exact ⟨gx, by omega⟩) 1 0 [] rfl (by simp)
   have ek : kidTx (Tr.mk 3 [] [] 0 (bstr []) (bstr []) [x]).kind 0 ([x].drop 0) = [brT (brk 3 0 x.kind) (txt x)] := by
    show kidTx 3 0 [x] = _
    rw [kidTx_cons, kidTx_nil]
   rw [ek] at glp
   have e : txt (.mk 3 [] [] 0 (bstr []) (bstr []) [x]) = [33] ++ brT (brk 3 0 x.kind) (txt x) := by
    rw [txt, if_neg (by decide), if_neg (by decide), kidTx_cons]
    rfl
   rw [e] at hlen ⊢
   rw [List.length_append] at hlen
   refine K.fn' hn63 _ rfl ((e63 ..).trans ?_)
   refine (askK_of glp _).trans ?_
   generalize brT (brk 3 0 x.kind) (txt x) = sx at *
   simp only [boxT, eTr, ND]
   refine (br_eqF (by decide)).trans ?_
   refine (br_eqF (by decide)).trans ?_
   refine (br_eqT rfl).trans ?_
   show br ((realA.slen (bstr [33]) + realA.slen (bstr sx)).ble 9223372036854775807) (some (sv (realA.cat (bstr [33]) (bstr sx)), [])) none = _
   rw [r_slen, r_slen, r_cat, cat_bs]
   refine (br_ble (by simp only [bstr_size, List.length_cons, List.length_nil]; omega) _ _).trans ?_
   rfl
  | @bin _ k x y hk hd hx gd hy =>
   have hlx : (txt x).length ≤ 1000000000000 ∧ (txt y).length ≤ 1000000000000 := by
    have o1 := lenO_ge y
    have o2 := lenW_ge x
    have o3 := lenW_ge y
    rcases hk with rfl | rfl
    ·rw [txt_and] at hlen; omega
    ·rw [txt_or] at hlen; omega
   have gx := ih x _ (by simp only [Tr.mk.sizeOf_spec, List.cons.sizeOf_spec] at hn; omega) hx hlx.1
   have gy := ih y _ (by simp only [Tr.mk.sizeOf_spec, List.cons.sizeOf_spec] at hn; omega) hy hlx.2
   have glp := text_lp K Kt L Ke S (.mk k [] [] 0 (bstr []) (bstr []) [x, y]) [x, y] (by simp) (by
    intro z hz
    simp only [List.mem_cons, List.not_mem_nil, or_false] at hz
    rcases hz with rfl | rfl
    ·exact ⟨gx, hlx.1⟩
    ·exact ⟨gy, hlx.2⟩) 2 0 [] rfl (by simp)
   have ek : kidTx (Tr.mk k [] [] 0 (bstr []) (bstr []) [x, y]).kind 0 ([x, y].drop 0) = [brT (brk k 0 x.kind) (txt x), brT (brk k 1 y.kind) (txt y)] := by
    show kidTx k 0 [x, y] = _
    rw [kidTx_cons, kidTx_cons, kidTx_nil]
   rw [ek] at glp
   have e : txt (.mk k [] [] 0 (bstr []) (bstr []) [x, y]) = brT (brk k 0 x.kind) (txt x) ++ [32, if k = 4 then 38 else 124, 32] ++ brT (brk k 1 y.kind) (txt y) := by
    rw [txt, if_neg (by omega), if_neg (by omega), kidTx_cons, kidTx_cons]
    rcases hk with rfl | rfl <;> rfl
   rw [e] at hlen ⊢
   rw [List.length_append, List.length_append] at hlen
   refine K.fn' hn63 _ rfl ((e63 ..).trans ?_)
   refine (askK_of glp _).trans ?_
   generalize brT (brk k 0 x.kind) (txt x) = sx at *
   generalize brT (brk k 1 y.kind) (txt y) = sy at *
   simp only [boxT, eTr, ND]
   refine (br_eqF (by omega)).trans ?_
   refine (br_eqF (by omega)).trans ?_
   refine (br_eqF (by omega)).trans ?_
   rcases hk with rfl | rfl
   ·refine (br_eqT rfl).trans ?_
    show br ((realA.slen (bstr sx) + realA.slen (bstr [32, 38, 32])).ble 9223372036854775807) (br ((realA.slen (realA.cat (bstr sx) (bstr [32, 38, 32])) + realA.slen (bstr sy)).ble 9223372036854775807) (some (sv (realA.cat (realA.cat (bstr sx) (bstr [32, 38, 32])) (bstr sy)), [])) none) none = _
    simp only [r_slen, r_cat, cat_bs]
    refine (br_ble (by simp only [bstr_size, List.length_cons, List.length_nil]; omega) _ _).trans ?_
    refine (br_ble (by simp only [bstr_size, List.length_append, List.length_cons, List.length_nil]; omega) _ _).trans ?_
    rfl
   ·refine (br_eqF (by decide)).trans ?_
    refine (br_eqT rfl).trans ?_
    show br ((realA.slen (bstr sx) + realA.slen (bstr [32, 124, 32])).ble 9223372036854775807) (br ((realA.slen (realA.cat (bstr sx) (bstr [32, 124, 32])) + realA.slen (bstr sy)).ble 9223372036854775807) (some (sv (realA.cat (realA.cat (bstr sx) (bstr [32, 124, 32])) (bstr sy)), [])) none) none = _
    simp only [r_slen, r_cat, cat_bs]
    refine (br_ble (by simp only [bstr_size, List.length_cons, List.length_nil]; omega) _ _).trans ?_
    refine (br_ble (by simp only [bstr_size, List.length_append, List.length_cons, List.length_nil]; omega) _ _).trans ?_
    rfl
theorem Text_ok (t : Tr) (h : rightB t 0 = true) (hlen : (txt t).length ≤ 1000000000000) : D.ask (.fn 25) [.agg (eTr t)] [] = some (sv (bstr (txt t)), []) := by
 have g1 := Right_ok Kt L t (right_wz _ t 0 (Nat.lt_succ_self _) h)
 have g2 := text_ok K Kt L Ke S _ t 0 (Nat.lt_succ_self _) h hlen
 rw [h] at g1
 obtain ⟨k, l, r, op, p, q, ks⟩ := t
 simp only [eTr] at g1 g2 ⊢
 refine K.fn' hn25 _ rfl ((e25 ..).trans ?_)
 refine (askK_of g1 _).trans ?_
 simp only [ND]
 refine (askK_of g2 _).trans ?_
 rfl
omit Ke S in
theorem Text_no (t : Tr) (hz : WzT t) (h : rightB t 0 = false) : D.ask (.fn 25) [.agg (eTr t)] [] = some (sv (bstr []), []) := by
 have g1 := Right_ok Kt L t hz
 rw [h] at g1
 obtain ⟨k, l, r, op, p, q, ks⟩ := t
 simp only [eTr] at g1 ⊢
 refine K.fn' hn25 _ rfl ((e25 ..).trans ?_)
 refine (askK_of g1 _).trans ?_
 rfl
end
end Go.Proofs.YtlmhajfbpplpoaaGreat
namespace Go.Proofs.YtlmhajfbpplpoaaGreat
open Go.RowKit
def hs3 : Hints := []
noncomputable def mf3 : MFn := mfD Tryz.prog entsC hs3 false false 3
def hn3 : Hnt := ⟨[(14, (.bool, [])), (15, (.tup [.ls, .agg [.int .i64, .int .i64], .int .i64], [])), (16, (.tup [.ls, .agg [.int .i64, .int .i64], .int .i64], [])), (17, (.tup [.agg [.int .i64, .ls, .ls, .int .i64, .str, .str, .ls], .agg [.int .i64, .int .i64], .int .i64], [])), (18, (.tup [.agg [.int .i64, .ls, .ls, .int .i64, .str, .str, .ls], .agg [.int .i64, .int .i64], .int .i64], [])), (19, (.bool, [])), (20, (.bool, []))], [], [(45, [.int .i64, .int .i64]), (46, [.int .i64, .int .i64]), (60, [.int .i64, .int .i64]), (61, [.int .i64, .int .i64]), (65, [.int .i64, .ls, .ls, .int .i64, .str, .str, .ls]), (66, [.int .i64, .ls, .ls, .int .i64, .str, .str, .ls])]⟩
theorem e3 (A : Ar) (D : Orc) (x0 : ByteArray) : fnK A D ownC hn3 .n 3 mf3 [sv x0] [] =
 askK D (Key.fn 14) [] [] fun r o =>
 unBool r fun b =>
 unEnd o <|
 br b
 (askK D (Key.fn 15) [sv x0] [] fun r1 o1 =>
 unTup r1 fun cs =>
 cLs cs fun xs l =>
 unCons l fun c l1 =>
 unAgg c fun cs1 =>
 cInt IntKind.i64 cs1 fun n l2 =>
 cInt IntKind.i64 l2 fun n1 l3 =>
 unNil l3 <|
 cInt IntKind.i64 l1 fun n2 l4 =>
 unNil l4 <|
 unEnd o1 <|
 askK D (Key.fn 16) [sv x0] [] fun r2 o2 =>
 unTup r2 fun cs2 =>
 cLs cs2 fun xs1 l5 =>
 unCons l5 fun c1 l6 =>
 unAgg c1 fun cs3 =>
 cInt IntKind.i64 cs3 fun n3 l7 =>
 cInt IntKind.i64 l7 fun n4 l8 =>
 unNil l8 <|
 cInt IntKind.i64 l6 fun n5 l9 =>
 unNil l9 <|
 unEnd o2 <|
 askK D (Key.fn 17) [sv x0] [] fun r3 o3 =>
 unTup r3 fun cs4 =>
 unCons cs4 fun c2 l10 =>
 unAgg c2 fun cs5 =>
 cInt IntKind.i64 cs5 fun n6 l11 =>
 cLs l11 fun xs2 l12 =>
 cLs l12 fun xs3 l13 =>
 cInt IntKind.i64 l13 fun n7 l14 =>
 cStr l14 fun s l15 =>
 cStr l15 fun s1 l16 =>
 cLs l16 fun xs4 l17 =>
 unNil l17 <|
 unCons l10 fun c3 l18 =>
 unAgg c3 fun cs6 =>
 cInt IntKind.i64 cs6 fun n8 l19 =>
 cInt IntKind.i64 l19 fun n9 l20 =>
 unNil l20 <|
 cInt IntKind.i64 l18 fun n10 l21 =>
 unNil l21 <|
 unEnd o3 <|
 askK D (Key.fn 18) [sv x0] [] fun r4 o4 =>
 unTup r4 fun cs7 =>
 unCons cs7 fun c4 l22 =>
 unAgg c4 fun cs8 =>
 cInt IntKind.i64 cs8 fun n11 l23 =>
 cLs l23 fun xs5 l24 =>
 cLs l24 fun xs6 l25 =>
 cInt IntKind.i64 l25 fun n12 l26 =>
 cStr l26 fun s2 l27 =>
 cStr l27 fun s3 l28 =>
 cLs l28 fun xs7 l29 =>
 unNil l29 <|
 unCons l22 fun c5 l30 =>
 unAgg c5 fun cs9 =>
 cInt IntKind.i64 cs9 fun n13 l31 =>
 cInt IntKind.i64 l31 fun n14 l32 =>
 unNil l32 <|
 cInt IntKind.i64 l30 fun n15 l33 =>
 unNil l33 <|
 unEnd o4 <|
 br (A.eq n2 n5)
 (br (A.band (A.eq n n3) (A.band (A.eq n1 n4) true))
 (askK D (Key.fn 19) [AV.ls xs, AV.ls xs1] [] fun r5 o5 =>
 unBool r5 fun b1 =>
 unEnd o5 <|
 br b1
 (br (A.eq n10 n15)
 (br (A.band (A.eq n8 n13) (A.band (A.eq n9 n14) true))
 (askK D (Key.fn 20) [AV.agg [iv n6, AV.ls xs2, AV.ls xs3, iv n7, sv s, sv s1, AV.ls xs4], AV.agg [iv n11, AV.ls xs5, AV.ls xs6, iv n12, sv s2, sv s3, AV.ls xs7]] [] fun r6 o6 =>
 unBool r6 fun b2 =>
 unEnd o6 <|
 br b2
 (some ((bv true, [])))
 (some ((bv false, []))))
 (some ((bv false, []))))
 (some ((bv false, []))))
 (some ((bv false, []))))
 (some ((bv false, []))))
 (some ((bv false, []))))
 (some ((bv false, []))) := by kernel_rfl
end Go.Proofs.YtlmhajfbpplpoaaGreat
namespace Go.Proofs.YtlmhajfbpplpoaaGreat
open Go.RowKit

section
variable {D : Orc}
end
end Go.Proofs.YtlmhajfbpplpoaaGreat
namespace Go.Proofs.YtlmhajfbpplpoaaGreat
open Go.RowKit

section
variable {D : Orc}
end
end Go.Proofs.YtlmhajfbpplpoaaGreat
namespace Go.Proofs.YtlmhajfbpplpoaaGreat
open Go.RowKit

mutual
def cntT : Tr → Nat
 | .mk _ _ _ _ _ _ ks => 1 + cntTs ks
def cntTs : List Tr → Nat
 | [] => 0
 | x :: r => cntT x + cntTs r
end
theorem cntT_one (k : Int) (l r : List Mo) (op : Int) (p q : ByteArray) (x : Tr) : cntT (.mk k l r op p q [x]) = 1 + cntT x := by
 rw [cntT, cntTs, cntTs, Nat.add_zero]
theorem cntT_two (k : Int) (l r : List Mo) (op : Int) (p q : ByteArray) (x y : Tr) : cntT (.mk k l r op p q [x, y]) = 1 + (cntT x + cntT y) := by
 rw [cntT, cntTs, cntTs, cntTs]
 omega
theorem lenO_le (x : Tr) : lenO x ≤ (txt x).length + 2 := by unfold lenO; split <;> omega
theorem lenW_le (x : Tr) : lenW x ≤ (txt x).length + 2 := by unfold lenW; split <;> omega
theorem sumTxt_len {ms : List Mo} (h : rsB ms = true) : (sumTxt ms).length ≤ 5376 := by
 have h1 := sumTx_len ms 0 (rsB_all h).2.2
 have h2 := (rsB_all h).2.1
 unfold sumTxt
 rw [if_pos h]
 omega
theorem txt_small : ∀ (n : Nat) (t : Tr) (d : Nat), SizeOf.sizeOf t < n → rightB t d = true → (txt t).length + 10 ≤ 11000 * cntT t := by
 intro n
 induction n with
 | zero => intro t d h; omega
 | succ n ih =>
  intro t d hn h
  cases shape_of h with
  | tt => decide
  | ff => decide
  | @cmp _ l r op hl hr h1 h2 =>
   have hc : cmpB (.mk 2 l r op (bstr []) (bstr []) []) = true := by
    unfold cmpB
    simp [hl, hr, h1, h2]
   rw [txt, if_neg (by decide), if_pos rfl, if_pos hc, cntT, cntTs]
   unfold cmpTx
   have s1 := sumTxt_len hl
   have s2 := sumTxt_len hr
   have hol : (opsL.getD op.toNat []).length ≤ 2 := by
    have : op.toNat < 6 := by omega
    generalize op.toNat = n at this
    match n, this with
    | 0, _ => decide
    | 1, _ => decide
    | 2, _ => decide
    | 3, _ => decide
    | 4, _ => decide
    | 5, _ => decide
   simp only [List.length_append, List.length_cons, List.length_nil]
   omega
  | @no _ x hd hx =>
   have gx := ih x _ (by simp only [Tr.mk.sizeOf_spec, List.cons.sizeOf_spec] at hn; omega) hx
   have := lenO_le x
   rw [txt_no, cntT_one]
   omega
  | @bin _ k x y hk hd hx gd hy =>
   have gx := ih x _ (by simp only [Tr.mk.sizeOf_spec, List.cons.sizeOf_spec] at hn; omega) hx
   have gy := ih y _ (by simp only [Tr.mk.sizeOf_spec, List.cons.sizeOf_spec] at hn; omega) hy
   have o1 := lenO_le y
   have o2 := lenW_le x
   have o3 := lenW_le y
   rw [cntT_two]
   rcases hk with rfl | rfl
   ·rw [txt_and]; omega
   ·rw [txt_or]; omega
section
variable {D : Orc}
theorem size_lp (Ks : Knows ownC tabSa D) (t : Tr) (L : Nat) (hL : L ≤ 1000) (hk : t.kids.length < 4611686018427387904)
  (g : ∀ x ∈ t.kids, ∀ L : Nat, L ≤ 1000 → ∃ n : Nat, D.ask (.fn 21) [.agg (eTr x), iv (L : Int)] [] = some (iv (n : Int), []) ∧ n ≤ L + 1 ∧ (n ≤ L → n = cntT x)) : ∀ (k i n : Nat), t.kids.length - i = k → n ≤ L + 1 →
  ∃ m : Nat, D.ask (.lp 21 0) [iv (L : Int), .ptr 0 0, iv (n : Int), iv (i : Int)] [boxT t] = some (.tup [iv 0, iv (m : Int)], [.del]) ∧ m ≤ L + 1 ∧ n ≤ m ∧ (m ≤ L → m = n + cntTs (t.kids.drop i)) := by
 intro k
 obtain ⟨kd, l, r, op, p, q, ks⟩ := t
 simp only [Tr.kids] at g hk ⊢
 have hlen : lenR (eTrs ks) = ks.length := by rw [eTrs_map, lenR_map]
 induction k with
 | zero =>
  intro i n hi hn
  refine ⟨n, ?_, hn, Nat.le_refl _, fun _ => ?_⟩
  ·refine Ks.lp' hn21 _ rfl (by kernel_rfl) ((e21_0 ..).trans ?_)
   rw [hlen]
   refine (br_ltF (by omega)).trans ?_
   rfl
  ·rw [show ks.drop i = [] from List.drop_eq_nil_of_le (by omega), cntTs]
   omega
 | succ k ih =>
  intro i n hi hn
  have hlt : i < ks.length := by omega
  by_cases hnl : n ≤ L
  ·obtain ⟨a, g1, g2, g3⟩ := g ks[i] (List.getElem_mem hlt) (L - n) (by omega)
   obtain ⟨m, k1, k2, k3, k4⟩ := ih (i + 1) (n + a) (by omega) (by omega)
   refine ⟨m, ?_, k2, by omega, fun hm => ?_⟩
   ·refine Ks.lp' hn21 _ rfl (by kernel_rfl) ((e21_0 ..).trans ?_)
    rw [hlen]
    refine (br_ltT (by omega)).trans ?_
    rw [r_le, decide_eq_true (show (n : Int) ≤ (L : Int) by omega)]
    refine (br_t _ _).trans ?_
    rw [eTrs_map, unI_n, nthK_some (List.getElem?_eq_getElem hlt)]
    rw [r_sub (a := (L : Int)) (b := (n : Int)) (by omega) (by omega), show (L : Int) - (n : Int) = ((L - n : Nat) : Int) by omega]
    revert g1
    generalize ks[i] = x
    obtain ⟨xk, xl, xr, xo, xp, xq, xs⟩ := x
    intro g1
    simp only [eTr, ND] at g1 ⊢
    refine (askK_of g1 _).trans ?_
    simp only [ND]
    rw [add1 (by omega), r_add (a := (n : Int)) (b := (a : Int)) (by omega) (by omega), show (n : Int) + (a : Int) = ((n + a : Nat) : Int) by omega]
    unfold boxT at k1
    rw [eTr, eTrs_map] at k1
    refine (askK_of k1 _).trans ?_
    rfl
   ·rw [show ks.drop i = ks[i] :: ks.drop (i + 1) from List.drop_eq_getElem_cons hlt, cntTs]
    have := k4 hm
    have := g3 (by omega)
    omega
  ·refine ⟨n, ?_, hn, Nat.le_refl _, fun h => absurd h hnl⟩
   refine Ks.lp' hn21 _ rfl (by kernel_rfl) ((e21_0 ..).trans ?_)
   rw [hlen]
   refine (br_ltT (by omega)).trans ?_
   rw [r_le, decide_eq_false (show ¬(n : Int) ≤ (L : Int) by omega)]
   rfl
theorem size_ok (Ks : Knows ownC tabSa D) : ∀ (N : Nat) (t : Tr), SizeOf.sizeOf t < N → WzT t → ∀ L : Nat, L ≤ 1000 → ∃ n : Nat, D.ask (.fn 21) [.agg (eTr t), iv (L : Int)] [] = some (iv (n : Int), []) ∧ n ≤ L + 1 ∧ (n ≤ L → n = cntT t) := by
 intro N
 induction N with
 | zero => intro t h; omega
 | succ N ih =>
  intro t hn hz L hL
  obtain ⟨hl, hr, hk, zl, zr, hx⟩ := hz
  rename_i k l r op p q ks
  have g := size_lp Ks (.mk k l r op p q ks) L hL hk (fun x hm L hL => ih x (by
   have h1 := kids_mem hm
   simp only [Tr.mk.sizeOf_spec, Tr.kids] at hn h1
   omega) (hx x hm) L hL) _ 0 1 rfl (by omega)
  obtain ⟨m, g1, g2, g3, g4⟩ := g
  refine ⟨m, ?_, g2, fun h => ?_⟩
  ·refine Ks.fn' hn21 _ rfl ((e21 ..).trans ?_)
   refine (askK_of g1 _).trans ?_
   rfl
  ·rw [g4 h, cntT]
   rfl
structure SumG (D : Orc) : Prop where
 sum : ∀ ms : List Mo, ms.length < 4611686018427387904 → (∀ m ∈ ms, WzM m) → D.ask (.fn 22) [.ls (ms.map eMo)] [] = some (sv (bstr (sumTxt ms)), [])
theorem SumG.f (S : SumG D) : SumF D := ⟨fun ms h => S.sum ms (rs_wz h).1 (rs_wz h).2⟩
theorem back_ok (K : Knows ownC tabEa D) (Kb : Knows ownC tabEb D) (L : NameF D) (Kw : Knows ownC tabWa D) (Kx : Knows ownC tabWb D) (A : LexA D) (Ks : Knows ownC tabSa D) (Kt : Knows ownC tabTa D) (N : LexN D) (Ktx : Knows ownC tabTx D) (S : SumG D) (Kl : Knows ownC tabLc D)
  (ha : D.ask (.fn 14) [] [] = some (bv true, [])) (ms : List Mo) (hml : ms.length < 4611686018427387904) (hm : ∀ m ∈ ms, WzM m) (t : Tr) (hz : WzT t) (hw : WfT t) : D.ask (.fn 4) [.ls (ms.map eMo), .agg (eTr t)] [] = some (bv true, []) := by
 obtain ⟨n, gn, gn1, gn2⟩ := size_ok Ks _ t (Nat.lt_succ_self _) hz 200 (by omega)
 have gs := S.sum ms hml hm
 have grs := rightSum_ok Kt N ms hm hml
 have gr := Right_ok Kt N t hz
 have gsame := samesum_ok Ks ms hml
 obtain ⟨k, l, r, o, p, q, ks⟩ := t
 refine Kl.fn' hn4 _ rfl ((e4 ..).trans ?_)
 refine (askK_of ha _).trans ?_
 simp only [ND]
 rw [eTr] at gn
 refine (askK_of gn _).trans ?_
 simp only [ND]
 by_cases h2 : 200 < n
 ·refine (br_ltT (by omega)).trans ?_
  rfl
 refine (br_ltF (by omega)).trans ?_
 have hcnt := gn2 (by omega)
 rw [lenR_map]
 by_cases h100 : 100 < ms.length
 ·refine (br_ltT (by omega)).trans ?_
  rfl
 refine (br_ltF (by omega)).trans ?_
 refine (askK_of gs _).trans ?_
 simp only [ND]
 refine (askK_of grs _).trans ?_
 simp only [ND]
 obtain ⟨t, ht⟩ : ∃ t, t = Tr.mk k l r o p q ks := ⟨_, rfl⟩
 rw [← ht] at gr hz hw hcnt
 cases hrs : rsB ms with
 | true =>
  have sl := sumTxt_len hrs
  have gp := parseSum_ok K Kb L Kw Kx A (bstr (sumTxt ms)) (by rw [bstr_size]; omega)
  rw [bstr_data, psum_back hrs (by omega)] at gp
  unfold wholeS at gp
  have e1 : ifOkL 0 ms = ms := rfl
  simp only [e1] at gp
  refine (br_t _ _).trans ?_
  refine (askK_of gp _).trans ?_
  simp only [ND]
  refine (br_eqT rfl).trans ?_
  refine (askK_of gsame _).trans ?_
  simp only [ND]
  cases hr : rightB t 0 with
  | false =>
   rw [hr] at gr
   have g2 := Text_no Ktx Kt N t hz hr
   revert gr g2
   subst ht
   intro gr g2
   simp only [eTr] at gr g2
   refine (askK_of gr _).trans ?_
   simp only [ND]
   refine (askK_of g2 _).trans ?_
   simp only [ND]
   refine (br_seqT rfl).trans ?_
   rfl
  | true =>
   rw [hr] at gr
   have hsm := txt_small _ t 0 (Nat.lt_succ_self _) hr
   have g2 := Text_ok Ktx Kt N K S.f t hr (by omega)
   have g3 := parseCond_ok K Kb L Kw Kx A (bstr (txt t)) (by rw [bstr_size]; omega)
   have g4 := same_ok Ks _ t (Nat.lt_succ_self _) hw
   rw [bstr_data] at g3
   have hlen : (bstr (txt t)).size = (txt t).length := bstr_size _
   by_cases hlong : 16384 < (txt t).length
   ·rw [pcond_long hlong] at g3
    unfold wholeA at g3
    have e1 : ifOk 2 T0 = T0 := rfl
    simp only [e1] at g3
    revert gr g2 g3
    generalize txt t = tx at hlen hlong
    subst ht
    intro gr g2 g3
    simp only [T0, eTr, eTrs, List.map_nil] at gr g2 g3
    refine (askK_of gr _).trans ?_
    simp only [ND]
    refine (askK_of g2 _).trans ?_
    simp only [ND]
    refine (askK_of g3 _).trans ?_
    simp only [ND, r_slen]
    refine (br_ltT (by omega)).trans ?_
    refine (br_eqT rfl).trans ?_
    rfl
   ·rw [pcond_back hr (by omega)] at g3
    unfold wholeA at g3
    have e1 : ifOk 0 t = t := rfl
    simp only [e1] at g3
    revert gr g2 g3 g4
    generalize txt t = tx at hlen hlong
    subst ht
    intro gr g2 g4 g3
    simp only [eTr] at gr g2 g3 g4
    refine (askK_of gr _).trans ?_
    simp only [ND]
    refine (askK_of g2 _).trans ?_
    simp only [ND]
    refine (askK_of g3 _).trans ?_
    simp only [ND, r_slen]
    refine (br_ltF (by omega)).trans ?_
    refine (br_eqT rfl).trans ?_
    refine (askK_of g4 _).trans ?_
    rfl
 | false =>
  refine (br_f _ _).trans ?_
  cases hr : rightB t 0 with
  | false =>
   rw [hr] at gr
   have g2 := Text_no Ktx Kt N t hz hr
   revert gr g2
   subst ht
   intro gr g2
   simp only [eTr] at gr g2
   refine (askK_of gr _).trans ?_
   simp only [ND]
   refine (askK_of g2 _).trans ?_
   simp only [ND]
   refine (br_seqT rfl).trans ?_
   rfl
  | true =>
   rw [hr] at gr
   have hsm := txt_small _ t 0 (Nat.lt_succ_self _) hr
   have g2 := Text_ok Ktx Kt N K S.f t hr (by omega)
   have g3 := parseCond_ok K Kb L Kw Kx A (bstr (txt t)) (by rw [bstr_size]; omega)
   have g4 := same_ok Ks _ t (Nat.lt_succ_self _) hw
   rw [bstr_data] at g3
   have hlen : (bstr (txt t)).size = (txt t).length := bstr_size _
   by_cases hlong : 16384 < (txt t).length
   ·rw [pcond_long hlong] at g3
    unfold wholeA at g3
    have e1 : ifOk 2 T0 = T0 := rfl
    simp only [e1] at g3
    revert gr g2 g3
    generalize txt t = tx at hlen hlong
    subst ht
    intro gr g2 g3
    simp only [T0, eTr, eTrs, List.map_nil] at gr g2 g3
    refine (askK_of gr _).trans ?_
    simp only [ND]
    refine (askK_of g2 _).trans ?_
    simp only [ND]
    refine (askK_of g3 _).trans ?_
    simp only [ND, r_slen]
    refine (br_ltT (by omega)).trans ?_
    refine (br_eqT rfl).trans ?_
    rfl
   ·rw [pcond_back hr (by omega)] at g3
    unfold wholeA at g3
    have e1 : ifOk 0 t = t := rfl
    simp only [e1] at g3
    revert gr g2 g3 g4
    generalize txt t = tx at hlen hlong
    subst ht
    intro gr g2 g4 g3
    simp only [eTr] at gr g2 g3 g4
    refine (askK_of gr _).trans ?_
    simp only [ND]
    refine (askK_of g2 _).trans ?_
    simp only [ND]
    refine (askK_of g3 _).trans ?_
    simp only [ND, r_slen]
    refine (br_ltF (by omega)).trans ?_
    refine (br_eqT rfl).trans ?_
    refine (askK_of g4 _).trans ?_
    rfl
end
end Go.Proofs.YtlmhajfbpplpoaaGreat
