/-
  The text of a right tree, as tokens. No program in sight.
  The tokens of a right tree are parsed as it. No program in sight.
  A right tree's tokens are parsed as it: conditions. No program in sight.
  What is parsed is right, and not much longer as text. No program in sight.
  What is parsed is right: conditions. No program in sight.
  What expr's texts of trees come to.
  Functions of the program as trees: what a call comes to.
  ExprParses' law: what the program parses, the reference parses.
  ExprTwice's law.
-/
import Derived.Test.YtlmhajfbpplpoaaGreatXBI
import Derived.Test.YtlmhajfbpplpoaaGreatXBJ
import Derived.Test.YtlmhajfbpplpoaaGreatXBE
import Derived.Test.YtlmhajfbpplpoaaGreatXBG
import Derived.Test.YtlmhajfbpplpoaaGreatXBB
import Derived.Test.YtlmhajfbpplpoaaGreatXAS
set_option linter.unusedSectionVars false
set_option linter.unusedSimpArgs false
set_option linter.unusedVariables false
namespace Go.Proofs.YtlmhajfbpplpoaaGreat
open Go.RowKit

def ktR : LexR → Option (List KT)
 | .ok ts => some (ts.map kt)
 | .err .. => none
theorem ktR_more (t : Tk) (r : LexR) : ktR (r.more t) = (ktR r).map (kt t :: ·) := by cases r <;> rfl
theorem ktR_any : ∀ (n : Nat) (l : List UInt8) (p q : Nat × Nat), l.length ≤ n → ktR (lexL l p) = ktR (lexL l q) := by
 intro n
 induction n with
 | zero =>
  intro l p q h
  obtain rfl : l = [] := List.length_eq_zero_iff.1 (by omega)
  rw [lexL_eq, lexL_eq]
  rfl
 | succ n ih =>
  intro l p q h
  rw [lexL_eq, lexL_eq]
  cases ht : tok1 (l.drop (gap false l)) with
  | fin => rfl
  | err e => rfl
  | tok k m =>
   have h1 := tok1_len ht
   rw [List.length_drop] at h1
   simp only [ktR_more]
   rw [ih _ _ (adv (adv q (l.take (gap false l))) ((l.drop (gap false l)).take m)) (by rw [List.length_drop]; omega)]
   rfl
def lexKT (l : List UInt8) : Option (List KT) := ktR (lexL l (1, 1))
theorem ktR_lexKT (l : List UInt8) (p : Nat × Nat) : ktR (lexL l p) = lexKT l := ktR_any _ l p (1, 1) (Nat.le_refl _)
theorem lexKT_nil : lexKT [] = some [(5, [])] := by
 unfold lexKT
 rw [lexL_eq]
 rfl
theorem lexKT_tok {l : List UInt8} {k n : Nat} (hg : gap false l = 0) (h : tok1 l = .tok k n) : lexKT l = (lexKT (l.drop n)).map ((k, l.take n) :: ·) := by
 unfold lexKT
 rw [lexL_eq, hg]
 simp only [List.drop_zero, h, ktR_more, Nat.zero_add]
 rw [ktR_lexKT]
 rfl
theorem gap_sp (l : List UInt8) : gap false (32 :: l) = gap false l + 1 := by
 show (if _ then _ else _) = _
 rw [if_neg (by decide), if_neg (by decide), if_neg (by decide), if_pos (by decide)]
theorem lexKT_sp (l : List UInt8) : lexKT (32 :: l) = lexKT l := by
 show ktR (lexL _ _) = ktR (lexL _ _)
 rw [lexL_eq (32 :: l), lexL_eq l, gap_sp, List.drop_succ_cons]
 cases ht : tok1 (l.drop (gap false l)) with
 | fin => rfl
 | err e => rfl
 | tok k m =>
  simp only [ktR_more, ktR_lexKT]
  rw [show gap false l + 1 + m = (gap false l + m) + 1 by omega, List.drop_succ_cons]
  rfl
def StopB (rest : List UInt8) : Prop := rest = [] ∨ ∃ c r, rest = c :: r ∧ (c = 32 ∨ c = 41)
def StopN (rest : List UInt8) : Prop := rest = [] ∨ ∃ c r, rest = c :: r ∧ (c = 32 ∨ c = 41 ∨ c = 42)
theorem StopB.n {rest : List UInt8} (h : StopB rest) : StopN rest := by
 rcases h with h | ⟨c, r, h, h2⟩
 ·exact .inl h
 ·exact .inr ⟨c, r, h, by rcases h2 with h2 | h2 <;> simp [h2]⟩
theorem bk_span (q : UInt8 → Bool) (rest : List UInt8) (hr : rest = [] ∨ ∃ c r, rest = c :: r ∧ q c = false) : ∀ l : List UInt8, l.all q = true → span q (l ++ rest) = l.length
 | [], _ => by
  rcases hr with rfl | ⟨c, r, rfl, h⟩
  ·rfl
  ·show span q (c :: r) = 0
   unfold span
   rw [h]
   rfl
 | c :: l, h => by
  rw [List.all_cons, Bool.and_eq_true] at h
  rw [List.cons_append]
  unfold span
  rw [if_pos h.1, bk_span q rest hr l h.2]
  rfl
theorem stop_q {rest : List UInt8} (h : StopN rest) (q : UInt8 → Bool) (h1 : q 32 = false) (h2 : q 41 = false) (h3 : q 42 = false) : rest = [] ∨ ∃ c r, rest = c :: r ∧ q c = false := by
 rcases h with h | ⟨c, r, h, h5⟩
 ·exact .inl h
 ·exact .inr ⟨c, r, h, by rcases h5 with rfl | rfl | rfl <;> assumption⟩
theorem bk_take (l rest : List UInt8) : (l ++ rest).take l.length = l := by simp
theorem bk_drop (l rest : List UInt8) : (l ++ rest).drop l.length = rest := by simp
theorem lexKT_num {l rest : List UInt8} (h : numB l = true) (hr : StopN rest) : lexKT (l ++ rest) = (lexKT rest).map ((3, l) :: ·) := by
 unfold numB at h
 simp only [Bool.and_eq_true, Bool.not_eq_true', decide_eq_true_eq] at h
 obtain ⟨⟨⟨h1, h2⟩, h3⟩, h4⟩ := h
 cases l with
 | nil => simp at h1
 | cons c l =>
  have hd : digB c = true := by
   rw [List.all_cons, Bool.and_eq_true] at h4
   exact h4.1
  have hs := bk_span digB rest (stop_q hr digB (by decide) (by decide) (by decide)) (c :: l) h4
  have ht : tok1 ((c :: l) ++ rest) = .tok 3 (c :: l).length := by
   rw [List.cons_append, tok1_cons, if_neg, if_pos hd]
   ·rw [List.cons_append] at hs
    rw [hs, if_neg (by omega), if_neg]
    rintro ⟨h5, h6⟩
    simp [h5, h6] at h3
    simp at h5
    exact absurd h5 (by simpa using h3)
   ·unfold digB at hd
    unfold lowB
    simp only [Bool.and_eq_true, decide_eq_true_eq] at hd ⊢
    omega
  have hg : gap false ((c :: l) ++ rest) = 0 := gap_stop _ (dig_gap hd)
  rw [lexKT_tok hg ht, bk_take, bk_drop]
theorem lexKT_word {l rest : List UInt8} (h : wordB l = true) (hr : StopN rest) : lexKT (l ++ rest) = (lexKT rest).map ((1, l) :: ·) := by
 unfold wordB at h
 simp only [Bool.and_eq_true, Bool.not_eq_true', decide_eq_true_eq] at h
 obtain ⟨⟨⟨h1, h2⟩, h3⟩, h4⟩ := h
 cases l with
 | nil => simp at h1
 | cons c l =>
  have hd : lowB c = true := h3
  have hs := bk_span innB rest (stop_q hr innB (by decide) (by decide) (by decide)) (c :: l) h4
  have ht : tok1 ((c :: l) ++ rest) = .tok 1 (c :: l).length := by
   rw [List.cons_append, tok1_cons, if_pos hd]
   rw [List.cons_append] at hs
   rw [hs, if_neg (by omega)]
  have hg : gap false ((c :: l) ++ rest) = 0 := gap_stop _ (low_gap hd)
  rw [lexKT_tok hg ht, bk_take, bk_drop]
theorem one_kind {c : UInt8} (h : oneB c = true) : lowB c = false ∧ digB c = false ∧ bigB c = false := by
 unfold oneB at h
 unfold lowB digB bigB
 simp only [List.contains_cons, List.contains_nil, Bool.or_eq_true, beq_iff_eq, Bool.or_false] at h
 simp only [Bool.and_eq_false_iff, decide_eq_false_iff_not, List.contains_cons, List.contains_nil, Bool.or_eq_false_iff, beq_eq_false_iff_ne, Bool.or_false]
 omega
theorem lexKT_sgn {c : UInt8} {rest : List UInt8} (h1 : oneB c = true) (h2 : rest = [] ∨ ∃ d r, rest = d :: r ∧ twoB c d = false) : lexKT (c :: rest) = (lexKT rest).map ((2, [c]) :: ·) := by
 obtain ⟨k1, k2, k3⟩ := one_kind h1
 have hs : sgnLen (c :: rest) = 1 := by
  rcases h2 with rfl | ⟨d, r, rfl, h2⟩
  ·rw [sgn_single, if_pos h1]
  ·rw [sgn_two, h2, if_neg (by simp), if_pos h1]
 have ht : tok1 (c :: rest) = .tok 2 1 := by
  rw [tok1_cons, k1, k2, k3, hs]
  rfl
 rw [lexKT_tok (gap_stop _ (one_gap h1)) ht]
 rfl
theorem lexKT_sgn2 {c d : UInt8} {rest : List UInt8} (h2 : twoB c d = true) : lexKT (c :: d :: rest) = (lexKT rest).map ((2, [c, d]) :: ·) := by
 have h1 := two_one h2
 obtain ⟨k1, k2, k3⟩ := one_kind h1
 have hs : sgnLen (c :: d :: rest) = 2 := by rw [sgn_two, if_pos h2]
 have ht : tok1 (c :: d :: rest) = .tok 2 2 := by
  rw [tok1_cons, k1, k2, k3, hs]
  rfl
 rw [lexKT_tok (gap_stop _ (one_gap h1)) ht]
 rfl
theorem two_not {c : UInt8} (h1 : c ≠ 45) (h2 : c ≠ 58) (h3 : c ≠ 33) (h4 : c ≠ 60) (h5 : c ≠ 62) (h6 : c ≠ 46) (d : UInt8) : twoB c d = false := by
 unfold twoB sgnN
 have e : ∀ n : UInt8, c ≠ n → c.toNat ≠ n.toNat := fun n h h' => h (UInt8.toNat_inj.1 h')
 have e1 := e _ h1
 have e2 := e _ h2
 have e3 := e _ h3
 have e4 := e _ h4
 have e5 := e _ h5
 have e6 := e _ h6
 simp only [show (45 : UInt8).toNat = 45 from rfl, show (58 : UInt8).toNat = 58 from rfl, show (33 : UInt8).toNat = 33 from rfl, show (60 : UInt8).toNat = 60 from rfl, show (62 : UInt8).toNat = 62 from rfl, show (46 : UInt8).toNat = 46 from rfl] at e1 e2 e3 e4 e5 e6
 rw [if_neg (fun h => e1 h.1), if_neg (fun h => e2 h.1), if_neg (fun h => e3 h.1), if_neg (fun h => e4 h.1), if_neg (fun h => e5 h.1), if_neg (fun h => e6 h.1)]
 split <;> rfl
def HdB (s : List UInt8) : Prop := ∃ d r, s = d :: r ∧ (lowB d = true ∨ digB d = true ∨ d = 45 ∨ d = 40 ∨ d = 33)
theorem two_hd {c d : UInt8} (hd : lowB d = true ∨ digB d = true ∨ d = 45 ∨ d = 40 ∨ d = 33) : twoB c d = false := by
 have : d.toNat ≠ 62 ∧ d.toNat ≠ 61 ∧ d.toNat ≠ 46 := by
  unfold lowB digB at hd
  simp only [Bool.and_eq_true, decide_eq_true_eq] at hd
  rcases hd with h | h | rfl | rfl | rfl
  ·omega
  ·omega
  ·decide
  ·decide
  ·decide
 unfold twoB sgnN
 rw [if_neg (fun h => this.1 h.2), if_neg (fun h => this.2.1 h.2), if_neg (fun h => this.2.1 h.2), if_neg (fun h => this.2.1 h.2), if_neg (fun h => this.2.1 h.2), if_neg (fun h => this.2.2 h.2)]
 split <;> rfl
def Lx (s : List UInt8) (ks : List KT) : Prop := ∀ rest, StopB rest → lexKT (s ++ rest) = (lexKT rest).map (ks ++ ·)
theorem map_app (a b : List KT) (o : Option (List KT)) : (o.map (b ++ ·)).map (a ++ ·) = o.map ((a ++ b) ++ ·) := by cases o <;> simp
theorem map_one (a : KT) (o : Option (List KT)) : o.map (a :: ·) = o.map ([a] ++ ·) := rfl
theorem bk_bstr (b : ByteArray) : bstr b.data.toList = b := rfl
theorem ne_bstr {b : ByteArray} (h : b = bstr []) : b.data.toList = [] := by rw [h]; rfl
theorem name_word {l : List UInt8} (h : nameB l = true) : wordB l = true := by
 unfold nameB at h
 rw [Bool.and_eq_true] at h
 exact h.1
theorem word_hd {l : List UInt8} (h : wordB l = true) (r : List UInt8) : HdB (l ++ r) := by
 unfold wordB at h
 simp only [Bool.and_eq_true, Bool.not_eq_true', decide_eq_true_eq] at h
 cases l with
 | nil => simp at h
 | cons c l => exact ⟨c, l ++ r, rfl, .inl h.1.2⟩
theorem num_hd {l : List UInt8} (h : numB l = true) (r : List UInt8) : HdB (l ++ r) := by
 unfold numB at h
 simp only [Bool.and_eq_true, Bool.not_eq_true', decide_eq_true_eq, List.all_eq_true] at h
 cases l with
 | nil => simp at h
 | cons c l => exact ⟨c, l ++ r, rfl, .inr (.inl (h.2 c (List.mem_cons_self ..)))⟩
theorem HdB.app {s : List UInt8} (h : HdB s) (r : List UInt8) : HdB (s ++ r) := by
 obtain ⟨d, r', rfl, h⟩ := h
 exact ⟨d, r' ++ r, rfl, h⟩
theorem HdB.two {s : List UInt8} (h : HdB s) (c : UInt8) : s = [] ∨ ∃ d r, s = d :: r ∧ twoB c d = false := by
 obtain ⟨d, r, rfl, h⟩ := h
 exact .inr ⟨d, r, rfl, two_hd h⟩
theorem mo_parts {m : Mo} (h : rightMoB m = true) : (m.num ≠ bstr [] → numB m.num.data.toList = true) ∧ (m.var ≠ bstr [] → nameB m.var.data.toList = true) ∧ (m.num = bstr [] → m.var ≠ bstr []) := by
 unfold rightMoB at h
 simp only [Bool.and_eq_true, Bool.or_eq_true, decide_eq_true_eq] at h
 obtain ⟨⟨h1, h2⟩, h3⟩ := h
 refine ⟨fun e => h2.resolve_left e, fun e => h3.resolve_left e, fun e => h1.resolve_left fun h => h e⟩
theorem mo_hd {m : Mo} (h : rightMoB m = true) : HdB (moText m) := by
 obtain ⟨h1, h2, h3⟩ := mo_parts h
 unfold moText
 split
 ·rename_i e
  rw [List.append_assoc]
  exact num_hd (h1 e.1) _
 ·rename_i e
  by_cases hn : m.num = bstr []
  ·rw [ne_bstr hn, List.nil_append]
   have := word_hd (name_word (h2 (h3 hn))) []
   rwa [List.append_nil] at this
  ·exact num_hd (h1 hn) _
theorem mo_lx {m : Mo} (h : rightMoB m = true) : Lx (moText m) (moK m) := by
 intro rest hr
 obtain ⟨h1, h2, h3⟩ := mo_parts h
 unfold moText moK
 by_cases hn : m.num = bstr []
 ·rw [if_neg (fun e => e.1 hn), if_neg (fun e => e hn), ne_bstr hn, List.nil_append, lexKT_word (name_word (h2 (h3 hn))) hr.n]
  rfl
 ·rw [if_pos hn]
  by_cases hv : m.var = bstr []
  ·rw [if_neg (fun e => e.2 hv), if_neg (fun e => e hv), ne_bstr hv, List.append_nil, lexKT_num (h1 hn) hr.n]
   rfl
  ·rw [if_pos ⟨hn, hv⟩, if_pos hv]
   rw [List.append_assoc, List.append_assoc, List.singleton_append, lexKT_num (h1 hn) (.inr ⟨42, _, rfl, .inr (.inr rfl)⟩), lexKT_sgn (by decide) ((word_hd (name_word (h2 hv)) rest).two 42), lexKT_word (name_word (h2 hv)) hr.n]
   simp only [map_one, map_app]
   rfl
theorem tail_stop (m : Mo) (i : Nat) (r rest : List UInt8) : StopB ((sepT (i + 1) m ++ r) ++ rest) := by
 unfold sepT
 rw [if_neg (Nat.succ_ne_zero i), if_neg (Nat.succ_ne_zero i)]
 by_cases hn : m.neg = true
 ·rw [if_pos hn]
  exact .inr ⟨32, _, rfl, .inl rfl⟩
 ·rw [if_neg hn]
  exact .inr ⟨32, _, rfl, .inl rfl⟩
theorem sum_lx : ∀ (ms : List Mo) (i : Nat), ms.all rightMoB = true → Lx (sumTx i ms) (sumK i ms)
 | [], i, _ => fun rest _ => by
  show lexKT rest = (lexKT rest).map ([] ++ ·)
  cases lexKT rest <;> rfl
 | m :: r, i, h => fun rest hr => by
  rw [List.all_cons, Bool.and_eq_true] at h
  have ih := sum_lx r (i + 1) h.2 rest hr
  have hs : StopB (sumTx (i + 1) r ++ rest) := by
   cases r with
   | nil => exact hr
   | cons m' r' =>
    have := tail_stop m' i (moText m' ++ sumTx (i + 1 + 1) r') rest
    simp only [sumTx, List.append_assoc] at this ⊢
    exact this
  have hm := mo_lx h.1 _ hs
  rw [ih, map_app] at hm
  have hh : HdB (moText m ++ (sumTx (i + 1) r ++ rest)) := (mo_hd h.1).app _
  unfold sumTx sumK sepT sepK
  rw [List.append_assoc, List.append_assoc]
  by_cases hn : m.neg = true
  ·rw [if_pos hn, if_pos hn]
   by_cases h0 : i = 0
   ·rw [if_pos h0, List.singleton_append, lexKT_sgn (by decide) (hh.two 45), hm, map_one, map_app, List.append_assoc]
   ·rw [if_neg h0]
    show lexKT (32 :: 45 :: 32 :: (moText m ++ (sumTx (i + 1) r ++ rest))) = _
    rw [lexKT_sp, lexKT_sgn (by decide) (.inr ⟨32, _, rfl, by decide⟩), lexKT_sp, hm, map_one, map_app, List.append_assoc]
  ·rw [if_neg hn, if_neg hn]
   by_cases h0 : i = 0
   ·rw [if_pos h0, if_pos h0, List.nil_append, hm]
    rfl
   ·rw [if_neg h0, if_neg h0]
    show lexKT (32 :: 43 :: 32 :: (moText m ++ (sumTx (i + 1) r ++ rest))) = _
    rw [lexKT_sp, lexKT_sgn (by decide) (.inr ⟨32, _, rfl, by decide⟩), lexKT_sp, hm, map_one, map_app, List.append_assoc]
theorem rsB_all {ms : List Mo} (h : rsB ms = true) : 0 < ms.length ∧ ms.length ≤ 64 ∧ ms.all rightMoB = true := by
 unfold rsB at h
 simp only [Bool.and_eq_true, decide_eq_true_eq] at h
 exact ⟨h.1.1, h.1.2, h.2⟩
theorem sumTxt_lx {ms : List Mo} (h : rsB ms = true) : Lx (sumTxt ms) (sumK 0 ms) := by
 unfold sumTxt
 rw [if_pos h]
 exact sum_lx ms 0 (rsB_all h).2.2
theorem sumTxt_hd {ms : List Mo} (h : rsB ms = true) : HdB (sumTxt ms) := by
 unfold sumTxt
 rw [if_pos h]
 obtain ⟨h1, _, h3⟩ := rsB_all h
 cases ms with
 | nil => simp at h1
 | cons m r =>
  rw [List.all_cons, Bool.and_eq_true] at h3
  unfold sumTx sepT
  by_cases hn : m.neg = true
  ·rw [if_pos hn, if_pos rfl]
   exact ⟨45, _, rfl, .inr (.inr (.inl rfl))⟩
  ·rw [if_neg hn, if_pos rfl]
   exact ((mo_hd h3.1).app _ : HdB (moText m ++ _))
theorem op_lx {op : Int} (h1 : 0 ≤ op) (h2 : op ≤ 5) (rest : List UInt8) : lexKT (opsL.getD op.toNat [] ++ 32 :: rest) = (lexKT (32 :: rest)).map ([(2, opsL.getD op.toNat [])] ++ ·) := by
 have : op.toNat < 6 := by omega
 generalize op.toNat = n at this
 match n, this with
 | 0, _ => exact lexKT_sgn (by decide) (.inr ⟨32, _, rfl, by decide⟩)
 | 1, _ => exact lexKT_sgn2 (by decide)
 | 2, _ => exact lexKT_sgn (by decide) (.inr ⟨32, _, rfl, by decide⟩)
 | 3, _ => exact lexKT_sgn2 (by decide)
 | 4, _ => exact lexKT_sgn (by decide) (.inr ⟨32, _, rfl, by decide⟩)
 | 5, _ => exact lexKT_sgn2 (by decide)
theorem cmp_lx {l r : List Mo} {op : Int} (hl : rsB l = true) (hr : rsB r = true) (h1 : 0 ≤ op) (h2 : op ≤ 5) : Lx (cmpTx l r op) (sumK 0 l ++ [(2, opsL.getD op.toNat [])] ++ sumK 0 r) ∧ HdB (cmpTx l r op) := by
 constructor
 ·intro rest hrest
  unfold cmpTx
  have e : sumTxt l ++ [32] ++ opsL.getD op.toNat [] ++ [32] ++ sumTxt r ++ rest = sumTxt l ++ (32 :: (opsL.getD op.toNat [] ++ (32 :: (sumTxt r ++ rest)))) := by simp
  rw [e, sumTxt_lx hl _ (.inr ⟨32, _, rfl, .inl rfl⟩)]
  rw [lexKT_sp, op_lx h1 h2, lexKT_sp, sumTxt_lx hr _ hrest, map_app, map_app]
 ·unfold cmpTx
  simp only [List.append_assoc]
  exact (sumTxt_hd hl).app _
theorem true_lx : Lx [116, 114, 117, 101] [(1, [116, 114, 117, 101])] := fun rest hr => lexKT_word (by decide) hr.n
theorem false_lx : Lx [102, 97, 108, 115, 101] [(1, [102, 97, 108, 115, 101])] := fun rest hr => lexKT_word (by decide) hr.n
theorem brk_lx {s : List UInt8} {ks : List KT} (h : Lx s ks) (hh : HdB s) : Lx ([40] ++ s ++ [41]) ([(2, [40])] ++ ks ++ [(2, [41])]) := fun rest hr => by
 have h41 : lexKT (41 :: rest) = (lexKT rest).map ((2, [41]) :: ·) := lexKT_sgn (by decide) (by
  rcases hr with h | ⟨c, r, h, _⟩
  ·exact .inl h
  ·exact .inr ⟨c, r, h, two_not (by decide) (by decide) (by decide) (by decide) (by decide) (by decide) c⟩)
 have e : [40] ++ s ++ [41] ++ rest = 40 :: (s ++ (41 :: rest)) := by simp
 rw [e, lexKT_sgn (by decide) ((hh.app _).two 40), h _ (.inr ⟨41, _, rfl, .inr rfl⟩), h41]
 simp only [map_one, map_app]
 simp only [List.append_assoc]
theorem not_lx {s : List UInt8} {ks : List KT} (h : Lx s ks) (hh : HdB s) : Lx ([33] ++ s) ([(2, [33])] ++ ks) := fun rest hr => by
 rw [List.append_assoc, List.singleton_append, lexKT_sgn (by decide) ((hh.app _).two 33), h _ hr]
 simp only [map_one, map_app]
theorem bin_lx {c : UInt8} (hc : c = 38 ∨ c = 124) {s t : List UInt8} {ks js : List KT} (h : Lx s ks) (g : Lx t js) : Lx (s ++ [32, c, 32] ++ t) (ks ++ [(2, [c])] ++ js) := fun rest hr => by
 have e : s ++ [32, c, 32] ++ t ++ rest = s ++ (32 :: c :: 32 :: (t ++ rest)) := by simp
 rw [e, h _ (.inr ⟨32, _, rfl, .inl rfl⟩), lexKT_sp, lexKT_sgn (by rcases hc with rfl | rfl <;> decide) (.inr ⟨32, _, rfl, by rcases hc with rfl | rfl <;> decide⟩), lexKT_sp, g _ hr]
 simp only [map_one, map_app]
 simp only [List.append_assoc]
def brT (b : Bool) (s : List UInt8) : List UInt8 := if b then [40] ++ s ++ [41] else s
def brK (b : Bool) (s : List KT) : List KT := if b then [(2, [40])] ++ s ++ [(2, [41])] else s
theorem br_lx (b : Bool) {s : List UInt8} {ks : List KT} (h : Lx s ks ∧ HdB s) : Lx (brT b s) (brK b ks) ∧ HdB (brT b s) := by
 cases b with
 | false => exact h
 | true => exact ⟨brk_lx h.1 h.2, 40, _, rfl, .inr (.inr (.inr (.inl rfl)))⟩
theorem kidTx_cons (k : Int) (i : Nat) (x : Tr) (r : List Tr) : kidTx k i (x :: r) = brT (brk k i x.kind) (txt x) :: kidTx k (i + 1) r := by rw [kidTx]; rfl
theorem kidK_cons (k : Int) (i : Nat) (x : Tr) (r : List Tr) : kidK k i (x :: r) = brK (brk k i x.kind) (txtK x) :: kidK k (i + 1) r := by rw [kidK]; rfl
theorem kidTx_nil (k : Int) (i : Nat) : kidTx k i [] = [] := by rw [kidTx]
theorem kidsB_cons {k : Int} {d i : Nat} {x : Tr} {r : List Tr} (h : kidsB k d i (x :: r) = true) : upD (brk k i x.kind) d ≤ 60 ∧ rightB x (upD (brk k i x.kind) d) = true ∧ kidsB k d (i + 1) r = true := by
 rw [kidsB] at h
 simp only [Bool.and_eq_true, decide_eq_true_eq] at h
 exact ⟨h.1.1, h.1.2, h.2⟩
inductive ShapeT : Tr → Nat → Prop where
 | tt (d : Nat) : ShapeT (.mk 0 [] [] 0 (bstr []) (bstr []) []) d
 | ff (d : Nat) : ShapeT (.mk 1 [] [] 0 (bstr []) (bstr []) []) d
 | cmp (d : Nat) {l r : List Mo} {op : Int} (hl : rsB l = true) (hr : rsB r = true) (h1 : 0 ≤ op) (h2 : op ≤ 5) : ShapeT (.mk 2 l r op (bstr []) (bstr []) []) d
 | no (d : Nat) {x : Tr} (hd : upD (brk 3 0 x.kind) (d + 1) ≤ 60) (h : rightB x (upD (brk 3 0 x.kind) (d + 1)) = true) : ShapeT (.mk 3 [] [] 0 (bstr []) (bstr []) [x]) d
 | bin (d : Nat) {k : Int} {x y : Tr} (hk : k = 4 ∨ k = 5) (hd : upD (brk k 0 x.kind) d ≤ 60) (h : rightB x (upD (brk k 0 x.kind) d) = true) (gd : upD (brk k 1 y.kind) d ≤ 60) (g : rightB y (upD (brk k 1 y.kind) d) = true) : ShapeT (.mk k [] [] 0 (bstr []) (bstr []) [x, y]) d
theorem shape_of {t : Tr} {d : Nat} (h : rightB t d = true) : ShapeT t d := by
 obtain ⟨k, l, r, op, p, q, ks⟩ := t
 rw [rightB] at h
 by_cases h2 : k = 2
 ·rw [if_pos h2] at h
  subst h2
  unfold cmpB at h
  simp only [Bool.and_eq_true, decide_eq_true_eq] at h
  obtain ⟨⟨⟨⟨⟨⟨⟨_, hl⟩, hr⟩, h3⟩, h4⟩, rfl⟩, rfl⟩, h5⟩ := h
  obtain rfl : ks = [] := List.length_eq_zero_iff.1 h5
  exact .cmp d hl hr h3 h4
 ·rw [if_neg h2] at h
  unfold bareB at h
  simp only [Bool.and_eq_true, decide_eq_true_eq] at h
  obtain ⟨⟨⟨⟨⟨⟨⟨hl, hr⟩, rfl⟩, rfl⟩, rfl⟩, ha⟩, hd⟩, hk⟩ := h
  obtain rfl : l = [] := List.length_eq_zero_iff.1 hl
  obtain rfl : r = [] := List.length_eq_zero_iff.1 hr
  have hks : ∀ n : Nat, (ks.length : Int) = (n : Int) → ks.length = n := fun n h => by omega
  unfold arI at ha
  by_cases h0 : k = 0
  ·subst h0
   rw [if_pos rfl] at ha
   obtain rfl : ks = [] := List.length_eq_zero_iff.1 (by omega)
   exact .tt d
  rw [if_neg h0] at ha
  by_cases h1 : k = 1
  ·subst h1
   rw [if_pos rfl] at ha
   obtain rfl : ks = [] := List.length_eq_zero_iff.1 (by omega)
   exact .ff d
  rw [if_neg h1] at ha
  by_cases h3 : k = 3
  ·subst h3
   rw [if_pos rfl] at ha
   match ks, ha, hk with
   | [x], _, hk =>
    obtain ⟨k1, k2, _⟩ := kidsB_cons hk
    exact .no d k1 k2
  rw [if_neg h3] at ha
  rw [decide_eq_false h3] at hk
  have hb : (k = 4 ∨ k = 5) ∧ ks.length = 2 := by
   by_cases h4 : k = 4
   ·rw [if_pos h4] at ha; exact ⟨.inl h4, by omega⟩
   ·rw [if_neg h4] at ha
    by_cases h5 : k = 5
    ·rw [if_pos h5] at ha; exact ⟨.inr h5, by omega⟩
    ·rw [if_neg h5] at ha; omega
  match ks, hb.2, hk with
  | [x, y], _, hk =>
   obtain ⟨k1, k2, hk⟩ := kidsB_cons hk
   obtain ⟨k3, k4, _⟩ := kidsB_cons hk
   exact .bin d hb.1 k1 k2 k3 k4
theorem tr_lx : ∀ (n : Nat) (t : Tr) (d : Nat), SizeOf.sizeOf t < n → rightB t d = true → Lx (txt t) (txtK t) ∧ HdB (txt t) := by
 intro n
 induction n with
 | zero => intro t d h; omega
 | succ n ih =>
  intro t d hn h
  cases shape_of h with
  | tt => exact ⟨true_lx, 116, _, rfl, .inl (by decide)⟩
  | ff => exact ⟨false_lx, 102, _, rfl, .inl (by decide)⟩
  | @cmp _ l r op hl hr h1 h2 =>
   have hc : cmpB (.mk 2 l r op (bstr []) (bstr []) []) = true := by
    unfold cmpB
    simp [hl, hr, h1, h2]
   rw [txt, txtK, if_neg (by decide), if_pos rfl, if_pos hc, if_neg (by decide), if_pos rfl]
   exact cmp_lx hl hr h1 h2
  | @no _ x hd hx =>
   have gx := br_lx (brk 3 0 x.kind) (ih x _ (by simp only [Tr.mk.sizeOf_spec, List.cons.sizeOf_spec] at hn; omega) hx)
   rw [txt, txtK, if_neg (by decide), if_neg (by decide), if_neg (by decide), if_neg (by decide), kidTx_cons, kidK_cons]
   exact ⟨not_lx gx.1 gx.2, 33, _, rfl, .inr (.inr (.inr (.inr rfl)))⟩
  | @bin _ k x y hk hd hx gd hy =>
   have gx := br_lx (brk k 0 x.kind) (ih x _ (by simp only [Tr.mk.sizeOf_spec, List.cons.sizeOf_spec] at hn; omega) hx)
   have gy := br_lx (brk k 1 y.kind) (ih y _ (by simp only [Tr.mk.sizeOf_spec, List.cons.sizeOf_spec] at hn; omega) hy)
   rw [txt, txtK, if_neg (by omega), if_neg (by omega), if_neg (by omega), if_neg (by omega), kidTx_cons, kidK_cons, kidTx_cons, kidK_cons]
   rcases hk with rfl | rfl
   ·refine ⟨bin_lx (.inl rfl) gx.1 gy.1, ?_⟩
    show HdB (_ ++ [32, 38, 32] ++ _)
    rw [List.append_assoc]
    exact gx.2.app _
   ·refine ⟨bin_lx (.inr rfl) gx.1 gy.1, ?_⟩
    show HdB (_ ++ [32, 124, 32] ++ _)
    rw [List.append_assoc]
    exact gx.2.app _
theorem lexAll_lx {s : List UInt8} {ks : List KT} (h : Lx s ks) (hs : s.length ≤ 16384) : ∃ ts, lexAll s = .ok ts ∧ ts.map kt = ks ++ [(5, [])] := by
 have g := h [] (.inl rfl)
 rw [List.append_nil, lexKT_nil] at g
 unfold lexAll
 rw [if_neg (by omega)]
 unfold lexKT at g
 cases e : lexL s (1, 1) with
 | ok ts =>
  rw [e] at g
  exact ⟨ts, rfl, Option.some.inj g⟩
 | err c ln co =>
  rw [e] at g
  cases g
end Go.Proofs.YtlmhajfbpplpoaaGreat
namespace Go.Proofs.YtlmhajfbpplpoaaGreat
open Go.RowKit

def AtK (ts : List Tk) (i : Nat) (ks : List KT) : Prop := (ts.map kt).drop i = ks
section
variable {ts : List Tk}
theorem atK_cons {i : Nat} {a : KT} {r : List KT} (h : AtK ts i (a :: r)) : ((nx ts i).kind = a.1 ∧ (nx ts i).text = a.2) ∧ AtK ts (i + 1) r := by
 unfold AtK at h ⊢
 have h1 : (ts.map kt)[i]? = some a := by
  have := congrArg (fun l => l[0]?) h
  simpa using this
 rw [List.getElem?_map] at h1
 refine ⟨?_, ?_⟩
 ·unfold nx
  cases e : ts[i]? with
  | none => rw [e] at h1; cases h1
  | some t =>
   rw [e] at h1
   have : kt t = a := Option.some.inj h1
   rw [← this]
   exact ⟨rfl, rfl⟩
 ·have := congrArg (List.drop 1) h
  rw [List.drop_drop] at this
  simpa [Nat.add_comm] using this
theorem atK_app : ∀ {a r : List KT} {i : Nat}, AtK ts i (a ++ r) → AtK ts (i + a.length) r
 | [], r, i, h => h
 | x :: a, r, i, h => by
  have := atK_app (a := a) (r := r) (atK_cons h).2
  rw [List.length_cons, show i + (a.length + 1) = i + 1 + a.length by omega]
  exact this
theorem isT_at {i : Nat} {a : KT} {r : List KT} (h : AtK ts i (a :: r)) (s : List UInt8) : isT ts i s = (decide (a.2 = s) && (decide (a.1 = 1) || decide (a.1 = 2) || decide (a.1 = 4))) := by
 unfold isT
 rw [(atK_cons h).1.1, (atK_cons h).1.2]
theorem isT_no {i : Nat} {a : KT} {r : List KT} (h : AtK ts i (a :: r)) {s : List UInt8} (hs : a.2 ≠ s) : isT ts i s = false := by
 rw [isT_at h, decide_eq_false hs, Bool.false_and]
theorem isT_yes {i : Nat} {s : List UInt8} {r : List KT} (h : AtK ts i ((2, s) :: r)) : isT ts i s = true := by
 rw [isT_at h]
 simp
theorem varP_ok {i : Nat} {s : List UInt8} {r : List KT} (h : AtK ts i ((1, s) :: r)) (hs : nameB s = true) : varP ts [] false i = (i + 1, 0, bstr s) := by
 have hn : isN ts i = true := by
  unfold isN
  rw [(atK_cons h).1.1, (atK_cons h).1.2, hs]
  rfl
 unfold varP
 rw [hn, if_neg (by simp), if_neg (by simp), (atK_cons h).1.2]
theorem mo_eta (m : Mo) {a b : ByteArray} (h1 : a = m.num) (h2 : b = m.var) : (⟨m.neg, a, b⟩ : Mo) = m := by rw [h1, h2]
theorem monoP_ok {m : Mo} (hm : rightMoB m = true) {i : Nat} {a : KT} {r : List KT} (h : AtK ts i (moK m ++ a :: r)) (ha : a.2 ≠ [42]) : monoP ts [] false i m.neg = (i + (moK m).length, 0, m) ∧ begP ts i = true := by
 obtain ⟨h1, h2, h3⟩ := mo_parts hm
 unfold moK at h ⊢
 by_cases hn : m.num = bstr []
 ·rw [if_neg (fun e => e hn)] at h ⊢
  have hv := h2 (h3 hn)
  have hk := (atK_cons h).1
  refine ⟨?_, ?_⟩
  ·unfold monoP
   rw [hk.1, if_neg (show ¬(1 : Nat) = 3 by decide), varP_ok h hv]
   rw [mo_eta m hn.symm (bk_bstr m.var)]
   rfl
  ·unfold begP isN
   rw [hk.1, hk.2, hv]
   rfl
 ·rw [if_pos hn] at h ⊢
  by_cases hv : m.var = bstr []
  ·rw [if_neg (fun e => e hv)] at h ⊢
   have hk := (atK_cons h).1
   have ha := isT_no (atK_cons h).2 ha
   refine ⟨?_, ?_⟩
   ·unfold monoP
    rw [hk.1, if_pos rfl, ha, if_neg (by simp), hk.2, mo_eta m (bk_bstr m.num) hv.symm]
    rfl
   ·unfold begP
    rw [hk.1]
    rfl
  ·rw [if_pos hv] at h ⊢
   have hk := (atK_cons h).1
   have h5 := (atK_cons h).2
   have h6 := (atK_cons h5).2
   refine ⟨?_, ?_⟩
   ·unfold monoP
    rw [hk.1, if_pos rfl, isT_yes h5, if_pos rfl, hk.2, varP_ok h6 (h2 hv), mo_eta m (bk_bstr m.num) (bk_bstr m.var)]
    rfl
   ·unfold begP
    rw [hk.1]
    rfl
def StopK (a : KT) : Prop := a = (5, []) ∨ a = (2, [41]) ∨ a = (2, [38]) ∨ a = (2, [124])
theorem StopK.ne {a : KT} (h : StopK a) : a.2 ≠ [42] ∧ a.2 ≠ [43] ∧ a.2 ≠ [45] := by
 rcases h with rfl | rfl | rfl | rfl <;> decide
theorem sumL_ok : ∀ (r : List Mo) (m : Mo) (j k : Nat) (out : List Mo) (i : Nat) (a : KT) (q : List KT), rightMoB m = true → r.all rightMoB = true → r.length < k → AtK ts i (moK m ++ (sumK (j + 1) r ++ a :: q)) → a.2 ≠ [42] ∧ a.2 ≠ [43] ∧ a.2 ≠ [45] →
  sumL ts [] false k out m.neg i = (i + (moK m).length + (sumK (j + 1) r).length, 0, out ++ m :: r)
 | [], m, j, k, out, i, a, q, hm, hr, hk, h, ha => by
  obtain ⟨k, rfl⟩ : ∃ n, k = n + 1 := ⟨k - 1, by simp at hk; omega⟩
  obtain ⟨g, hb⟩ := monoP_ok hm h ha.1
  have h2 : AtK ts (i + (moK m).length) (a :: q) := atK_app h
  unfold sumL
  rw [hb, if_neg (by simp), g]
  simp only [isT_no h2 ha.2.1, isT_no h2 ha.2.2]
  rfl
 | m' :: r, m, j, k, out, i, a, q, hm, hr, hk, h, ha => by
  obtain ⟨k, rfl⟩ : ∃ n, k = n + 1 := ⟨k - 1, by simp at hk; omega⟩
  rw [List.all_cons, Bool.and_eq_true] at hr
  rw [List.length_cons] at hk
  have hc : ∃ c : UInt8, (c = 45 ∧ m'.neg = true ∨ c = 43 ∧ m'.neg = false) ∧ sumK (j + 1) (m' :: r) = (2, [c]) :: (moK m' ++ sumK (j + 1 + 1) r) := by
   cases hn : m'.neg with
   | true => exact ⟨45, .inl ⟨rfl, rfl⟩, by simp [sumK, sepK, hn]⟩
   | false => exact ⟨43, .inr ⟨rfl, rfl⟩, by simp [sumK, sepK, hn]⟩
  obtain ⟨c, hc, e⟩ := hc
  rw [e] at h ⊢
  obtain ⟨g, hb⟩ := monoP_ok hm (a := (2, [c])) h (by rcases hc with ⟨rfl, _⟩ | ⟨rfl, _⟩ <;> decide)
  have h2 : AtK ts (i + (moK m).length) ((2, [c]) :: _) := atK_app h
  have h3 : AtK ts (i + (moK m).length + 1) ((moK m' ++ sumK (j + 1 + 1) r) ++ a :: q) := (atK_cons h2).2
  have ih := sumL_ok r m' (j + 1) k (out ++ [m]) (i + (moK m).length + 1) a q hr.1 hr.2 (by omega) (by
   rw [List.append_assoc] at h3
   exact h3) ha
  unfold sumL
  rw [hb, if_neg (by simp), g]
  simp only [ne_eq, not_true, if_false]
  rcases hc with ⟨rfl, hn⟩ | ⟨rfl, hn⟩
  ·rw [isT_yes h2, if_pos rfl]
   rw [hn] at ih
   rw [ih]
   simp only [List.length_cons, List.length_append, List.append_assoc, List.singleton_append]
   rw [show i + (moK m).length + 1 + (moK m').length + (sumK (j + 1 + 1) r).length = i + (moK m).length + ((moK m').length + (sumK (j + 1 + 1) r).length + 1) by omega]
  ·rw [isT_no h2 (by decide), if_neg (by simp), isT_yes h2, if_pos rfl]
   rw [hn] at ih
   rw [ih]
   simp only [List.length_cons, List.length_append, List.append_assoc, List.singleton_append]
   rw [show i + (moK m).length + 1 + (moK m').length + (sumK (j + 1 + 1) r).length = i + (moK m).length + ((moK m').length + (sumK (j + 1 + 1) r).length + 1) by omega]
theorem moK_hd {m : Mo} (h : rightMoB m = true) : ∃ a r, moK m = a :: r ∧ a.2 ≠ [45] ∧ a.2 ≠ [33] ∧ a.2 ≠ [40] ∧ a.2 ≠ [116, 114, 117, 101] ∧ a.2 ≠ [102, 97, 108, 115, 101] := by
 obtain ⟨h1, h2, h3⟩ := mo_parts h
 have fn : ∀ l, numB l = true → l ≠ [45] ∧ l ≠ [33] ∧ l ≠ [40] ∧ l ≠ [116, 114, 117, 101] ∧ l ≠ [102, 97, 108, 115, 101] := fun l h => by
  refine ⟨?_, ?_, ?_, ?_, ?_⟩ <;> (rintro rfl; revert h; decide)
 have fv : ∀ l, nameB l = true → l ≠ [45] ∧ l ≠ [33] ∧ l ≠ [40] ∧ l ≠ [116, 114, 117, 101] ∧ l ≠ [102, 97, 108, 115, 101] := fun l h => by
  refine ⟨?_, ?_, ?_, ?_, ?_⟩ <;> (rintro rfl; revert h; decide)
 unfold moK
 by_cases hn : m.num = bstr []
 ·rw [if_neg (fun e => e hn)]
  exact ⟨_, _, rfl, fv _ (h2 (h3 hn))⟩
 ·rw [if_pos hn]
  by_cases hv : m.var = bstr []
  ·rw [if_neg (fun e => e hv)]
   exact ⟨_, _, rfl, fn _ (h1 hn)⟩
  ·rw [if_pos hv]
   exact ⟨_, _, rfl, fn _ (h1 hn)⟩
theorem sumK_hd {ms : List Mo} (h : rsB ms = true) : ∃ a r, sumK 0 ms = a :: r ∧ a.2 ≠ [33] ∧ a.2 ≠ [40] ∧ a.2 ≠ [116, 114, 117, 101] ∧ a.2 ≠ [102, 97, 108, 115, 101] := by
 obtain ⟨h1, _, h3⟩ := rsB_all h
 cases ms with
 | nil => simp at h1
 | cons m r =>
  rw [List.all_cons, Bool.and_eq_true] at h3
  unfold sumK sepK
  by_cases hn : m.neg = true
  ·rw [if_pos hn]
   exact ⟨_, _, rfl, by decide, by decide, by decide, by decide⟩
  ·rw [if_neg hn, if_pos rfl]
   obtain ⟨a, q, e, _, k2, k3, k4, k5⟩ := moK_hd h3.1
   rw [e]
   exact ⟨_, _, rfl, k2, k3, k4, k5⟩
theorem sumP_ok {ms : List Mo} (hm : rsB ms = true) {i : Nat} {a : KT} {q : List KT} (h : AtK ts i (sumK 0 ms ++ a :: q)) (ha : a.2 ≠ [42] ∧ a.2 ≠ [43] ∧ a.2 ≠ [45]) : sumP ts [] false i = (i + (sumK 0 ms).length, 0, ms) := by
 obtain ⟨h1, h2, h3⟩ := rsB_all hm
 cases ms with
 | nil => simp at h1
 | cons m r =>
  rw [List.all_cons, Bool.and_eq_true] at h3
  rw [List.length_cons] at h2
  unfold sumK sepK at h ⊢
  unfold sumP
  by_cases hn : m.neg = true
  ·rw [if_pos hn, List.singleton_append, List.cons_append, List.cons_append] at h
   rw [isT_yes h, if_pos rfl]
   have g := sumL_ok r m 0 64 [] (i + 1) a q h3.1 h3.2 (by omega) (by
    have := (atK_cons h).2
    rw [List.append_assoc] at this
    exact this) ha
   rw [hn] at g
   rw [g, if_pos hn]
   simp only [List.length_cons, List.length_append, List.length_nil, List.nil_append]
   rw [show i + 1 + (moK m).length + (sumK (0 + 1) r).length = i + (0 + 1 + (moK m).length + (sumK (0 + 1) r).length) by omega]
  ·rw [if_neg hn, if_pos rfl, List.nil_append, List.append_assoc] at h
   have g := sumL_ok r m 0 64 [] i a q h3.1 h3.2 (by omega) h ha
   obtain ⟨b, p, e, k1, _⟩ := moK_hd h3.1
   rw [e] at h
   rw [isT_no h k1, if_neg (by simp)]
   rw [Bool.not_eq_true _ |>.mp hn] at g
   rw [g, if_neg hn, if_pos rfl]
   simp only [List.length_append, List.nil_append]
   rw [Nat.add_assoc]
theorem opP_ok {i n : Nat} (hn : n < 6) {q : List KT} (h : AtK ts i ((2, opsL.getD n []) :: q)) : opP ts i = some n := by
 unfold opP
 have e : isT ts i = fun s => decide (opsL.getD n [] = s) := by
  funext s
  rw [isT_at h]
  simp
 rw [e]
 match n, hn with
 | 0, _ => decide
 | 1, _ => decide
 | 2, _ => decide
 | 3, _ => decide
 | 4, _ => decide
 | 5, _ => decide
theorem op_ne {n : Nat} (hn : n < 6) : (opsL.getD n []) ≠ [42] ∧ (opsL.getD n []) ≠ [43] ∧ (opsL.getD n []) ≠ [45] := by
 match n, hn with
 | 0, _ => decide
 | 1, _ => decide
 | 2, _ => decide
 | 3, _ => decide
 | 4, _ => decide
 | 5, _ => decide
theorem cmpP_ok {l r : List Mo} {op : Int} (hl : rsB l = true) (hr : rsB r = true) (h1 : 0 ≤ op) (h2 : op ≤ 5) {i : Nat} {a : KT} {q : List KT} (h : AtK ts i ((sumK 0 l ++ [(2, opsL.getD op.toNat [])] ++ sumK 0 r) ++ a :: q)) (ha : StopK a) :
  cmpP ts [] false i = (i + (sumK 0 l ++ [(2, opsL.getD op.toNat [])] ++ sumK 0 r).length, 0, .mk 2 l r op (bstr []) (bstr []) []) := by
 obtain ⟨n, rfl⟩ : ∃ n : Nat, op = n := ⟨op.toNat, by omega⟩
 have hn : n < 6 := by omega
 rw [Int.toNat_natCast] at h ⊢
 rw [List.append_assoc, List.append_assoc] at h
 have g1 := sumP_ok hl h (op_ne hn)
 have h2 := atK_app h
 have g2 := opP_ok hn h2
 have h3 := (atK_cons h2).2
 have g3 := sumP_ok hr h3 ha.ne
 unfold cmpP
 rw [g1]
 simp only [ne_eq, not_true, if_false, g2, g3]
 simp only [List.length_append, List.length_cons, List.length_nil]
 rw [show i + (sumK 0 l).length + 1 + (sumK 0 r).length = i + ((sumK 0 l).length + (0 + 1) + (sumK 0 r).length) by omega]
end
end Go.Proofs.YtlmhajfbpplpoaaGreat
namespace Go.Proofs.YtlmhajfbpplpoaaGreat
open Go.RowKit

section
variable {ts : List Tk}
theorem jb_both (n i d : Nat) : jbP ts [] false (n + 1) .both i d = thenT (jbP ts [] false n .one i d) fun j x => jbP ts [] false n (.bothL x) j d := rfl
theorem jb_cond (n i d : Nat) : jbP ts [] false (n + 1) .cond i d = thenT (jbP ts [] false n .both i d) fun j x => jbP ts [] false n (.condL x) j d := rfl
theorem thenT_ok (j : Nat) (x : Tr) (k : Nat → Tr → Nat × Nat × Tr) : thenT (j, 0, x) k = k j x := by
 unfold thenT
 rw [if_pos rfl]
theorem bothL_stop {n j d : Nat} {x : Tr} {a : KT} {q : List KT} (h : AtK ts j (a :: q)) (ha : a.2 ≠ [38]) : jbP ts [] false (n + 1) (.bothL x) j d = (j, 0, x) := by
 show (if isT ts j [38] then _ else _) = _
 rw [isT_no h ha]
 rfl
theorem condL_stop {n j d : Nat} {x : Tr} {a : KT} {q : List KT} (h : AtK ts j (a :: q)) (ha : a.2 ≠ [124]) : jbP ts [] false (n + 1) (.condL x) j d = (j, 0, x) := by
 show (if isT ts j [124] then _ else _) = _
 rw [isT_no h ha]
 rfl
theorem bothL_go {n j d : Nat} {x : Tr} {q : List KT} (h : AtK ts j ((2, [38]) :: q)) : jbP ts [] false (n + 1) (.bothL x) j d = thenT (jbP ts [] false n .one (j + 1) d) fun j y => jbP ts [] false n (.bothL (.mk 4 [] [] 0 (bstr []) (bstr []) [x, y])) j d := by
 show (if isT ts j [38] then _ else _) = _
 rw [isT_yes h]
 rfl
theorem condL_go {n j d : Nat} {x : Tr} {q : List KT} (h : AtK ts j ((2, [124]) :: q)) : jbP ts [] false (n + 1) (.condL x) j d = thenT (jbP ts [] false n .both (j + 1) d) fun j y => jbP ts [] false n (.condL (.mk 5 [] [] 0 (bstr []) (bstr []) [x, y])) j d := by
 show (if isT ts j [124] then _ else _) = _
 rw [isT_yes h]
 rfl
theorem one_open {n i d : Nat} {q : List KT} (h : AtK ts i ((2, [40]) :: q)) (hd : d ≠ 60) : jbP ts [] false (n + 1) .one i d = thenT (jbP ts [] false n .cond (i + 1) (d + 1)) fun j x => if isT ts j [41] then (j + 1, 0, x) else (j, 101, T0) := by
 show (if _ then _ else _) = _
 rw [if_neg (fun e => hd e.2), isT_no h (by decide), isT_no h (by decide), isT_no h (by decide), isT_yes h]
 rfl
theorem one_not {n i d : Nat} {q : List KT} (h : AtK ts i ((2, [33]) :: q)) (hd : d ≠ 60) : jbP ts [] false (n + 1) .one i d = thenT (jbP ts [] false n .one (i + 1) (d + 1)) fun j x => (j, 0, .mk 3 [] [] 0 (bstr []) (bstr []) [x]) := by
 show (if _ then _ else _) = _
 rw [if_neg (fun e => hd e.2), isT_no h (by decide), isT_no h (by decide), isT_yes h]
 rfl
theorem one_true {n i d : Nat} {q : List KT} (h : AtK ts i ((1, [116, 114, 117, 101]) :: q)) : jbP ts [] false (n + 1) .one i d = (i + 1, 0, .mk 0 [] [] 0 (bstr []) (bstr []) []) := by
 have e : isT ts i [116, 114, 117, 101] = true := by rw [isT_at h]; rfl
 show (if _ then _ else _) = _
 rw [isT_no h (by decide), isT_no h (by decide), e]
 rfl
theorem one_false {n i d : Nat} {q : List KT} (h : AtK ts i ((1, [102, 97, 108, 115, 101]) :: q)) : jbP ts [] false (n + 1) .one i d = (i + 1, 0, .mk 1 [] [] 0 (bstr []) (bstr []) []) := by
 have e : isT ts i [102, 97, 108, 115, 101] = true := by rw [isT_at h]; rfl
 show (if _ then _ else _) = _
 rw [isT_no h (by decide), isT_no h (by decide), isT_no h (by decide), e]
 rfl
theorem one_cmp {n i d : Nat} {a : KT} {q : List KT} (h : AtK ts i (a :: q)) (h1 : a.2 ≠ [33] ∧ a.2 ≠ [40] ∧ a.2 ≠ [116, 114, 117, 101] ∧ a.2 ≠ [102, 97, 108, 115, 101]) : jbP ts [] false (n + 1) .one i d = cmpP ts [] false i := by
 show (if _ then _ else _) = _
 rw [isT_no h h1.1, isT_no h h1.2.1, isT_no h h1.2.2.1, isT_no h h1.2.2.2]
 rfl
def P1 (ts : List Tk) (b : Bool) (t : Tr) : Prop := ∀ (f i d : Nat) (a : KT) (q : List KT), AtK ts i (brK b (txtK t) ++ a :: q) → StopK a → upD b d ≤ 60 → rightB t (upD b d) = true → 4 * (brK b (txtK t)).length ≤ f → jbP ts [] false f .one i d = (i + (brK b (txtK t)).length, 0, t)
def P2 (ts : List Tk) (b : Bool) (t : Tr) : Prop := ∀ (f i d : Nat) (a : KT) (q : List KT), AtK ts i (brK b (txtK t) ++ a :: q) → StopK a → upD b d ≤ 60 → rightB t (upD b d) = true → 4 * (brK b (txtK t)).length + 1 ≤ f →
 ∃ g, f ≤ g + 4 * (brK b (txtK t)).length ∧ 1 ≤ g ∧ jbP ts [] false f .both i d = jbP ts [] false g (.bothL t) (i + (brK b (txtK t)).length) d
def P3 (ts : List Tk) (t : Tr) : Prop := ∀ (f i d : Nat) (a : KT) (q : List KT), AtK ts i (txtK t ++ a :: q) → StopK a → a.2 ≠ [38] → d ≤ 60 → rightB t d = true → 4 * (txtK t).length + 2 ≤ f →
 ∃ g, f ≤ g + 4 * (txtK t).length ∧ 1 ≤ g ∧ jbP ts [] false f .cond i d = jbP ts [] false g (.condL t) (i + (txtK t).length) d
theorem brK_len (s : List KT) : (brK true s).length = s.length + 2 := by
 unfold brK
 rw [if_pos rfl]
 simp
theorem P1.br {t : Tr} (h : P3 ts t) : P1 ts true t := by
 intro f i d a q hat ha hd hr hf
 rw [brK_len] at hf ⊢
 obtain ⟨n, rfl⟩ : ∃ n, f = n + 1 := ⟨f - 1, by omega⟩
 have hat : AtK ts i ((2, [40]) :: (txtK t ++ (2, [41]) :: a :: q)) := by
  have e : brK true (txtK t) ++ a :: q = (2, [40]) :: (txtK t ++ (2, [41]) :: a :: q) := by simp [brK]
  rwa [e] at hat
 have hd : d + 1 ≤ 60 := hd
 have h2 := (atK_cons hat).2
 obtain ⟨g, g1, g2, g3⟩ := h n (i + 1) (d + 1) (2, [41]) (a :: q) h2 (.inr (.inl rfl)) (by decide) hd hr (by omega)
 obtain ⟨g, rfl⟩ : ∃ n, g = n + 1 := ⟨g - 1, by omega⟩
 have h3 := atK_app h2
 rw [one_open hat (by omega), g3, condL_stop h3 (by decide), thenT_ok, isT_yes h3, if_pos rfl]
 rw [show i + 1 + (txtK t).length + 1 = i + ((txtK t).length + 2) by omega]
theorem P2.of1 {b : Bool} {t : Tr} (h : P1 ts b t) (hl : 1 ≤ (brK b (txtK t)).length) : P2 ts b t := by
 intro f i d a q hat ha hd hr hf
 obtain ⟨n, rfl⟩ : ∃ n, f = n + 1 := ⟨f - 1, by omega⟩
 refine ⟨n, by omega, by omega, ?_⟩
 rw [jb_both, h n i d a q hat ha hd hr (by omega), thenT_ok]
theorem P3.of2 {t : Tr} (h : P2 ts false t) (hl : 1 ≤ (txtK t).length) : P3 ts t := by
 intro f i d a q hat ha h38 hd hr hf
 obtain ⟨n, rfl⟩ : ∃ n, f = n + 1 := ⟨f - 1, by omega⟩
 obtain ⟨g, g1, g2, g3⟩ := h n i d a q hat ha hd hr (by
  show 4 * (txtK t).length + 1 ≤ n
  omega)
 have g1 : n ≤ g + 4 * (txtK t).length := g1
 obtain ⟨g, rfl⟩ : ∃ n, g = n + 1 := ⟨g - 1, by omega⟩
 refine ⟨n, by omega, by omega, ?_⟩
 have h3 : AtK ts (i + (txtK t).length) (a :: q) := atK_app hat
 rw [jb_cond, g3]
 show thenT (jbP ts [] false (g + 1) (.bothL t) (i + (txtK t).length) d) _ = _
 rw [bothL_stop h3 h38, thenT_ok]
theorem brk4 (i : Nat) (x : Tr) : brk 4 i x.kind = (decide (x.kind = 5) || (decide (i = 1) && decide (x.kind = 4))) := rfl
theorem brk5 (i : Nat) (x : Tr) : brk 5 i x.kind = (decide (i = 1) && decide (x.kind = 5)) := rfl
theorem brk3 (i : Nat) (x : Tr) : brk 3 i x.kind = (decide (x.kind = 4) || decide (x.kind = 5)) := rfl
theorem txtK_pos : ∀ (n : Nat) (t : Tr) (d : Nat), SizeOf.sizeOf t < n → rightB t d = true → 1 ≤ (txtK t).length := by
 intro n
 induction n with
 | zero => intro t d h; omega
 | succ n ih =>
  intro t d hn h
  cases shape_of h with
  | tt => decide
  | ff => decide
  | @cmp _ l r op hl hr h1 h2 =>
   rw [txtK, if_neg (by decide), if_pos rfl]
   simp only [List.length_append, List.length_cons]
   omega
  | @no _ x hd hx =>
   rw [txtK, if_neg (by decide), if_neg (by decide)]
   show 1 ≤ ([(2, [33])] ++ _ : List KT).length
   simp
  | @bin _ k x y hk hd hx gd hy =>
   rw [txtK, if_neg (by omega), if_neg (by omega)]
   rcases hk with rfl | rfl
   ·show 1 ≤ (_ ++ [(2, [38])] ++ _ : List KT).length
    simp only [List.length_append, List.length_cons]
    omega
   ·show 1 ≤ (_ ++ [(2, [124])] ++ _ : List KT).length
    simp only [List.length_append, List.length_cons]
    omega
theorem txtK_no (x : Tr) : txtK (.mk 3 [] [] 0 (bstr []) (bstr []) [x]) = (2, [33]) :: brK (brk 3 0 x.kind) (txtK x) := by
 rw [txtK, if_neg (by decide), if_neg (by decide), kidK_cons]
 rfl
theorem txtK_bin {k : Int} (hk : k = 4 ∨ k = 5) (x y : Tr) : txtK (.mk k [] [] 0 (bstr []) (bstr []) [x, y]) = brK (brk k 0 x.kind) (txtK x) ++ ((2, [if k = 4 then 38 else 124]) :: brK (brk k 1 y.kind) (txtK y)) := by
 rw [txtK, if_neg (by omega), if_neg (by omega), kidK_cons, kidK_cons]
 rcases hk with rfl | rfl
 ·show _ ++ [(2, [38])] ++ _ = _
  rw [List.append_assoc]
  rfl
 ·show _ ++ [(2, [124])] ++ _ = _
  rw [List.append_assoc]
  rfl
theorem back_tr : ∀ (n : Nat) (t : Tr), SizeOf.sizeOf t < n → (t.kind ≠ 4 → t.kind ≠ 5 → P1 ts false t) ∧ (t.kind ≠ 5 → P2 ts false t) ∧ P3 ts t := by
 intro n
 induction n with
 | zero => intro t h; omega
 | succ n ih =>
  intro t hn
  have l1 : t.kind ≠ 4 → t.kind ≠ 5 → P1 ts false t := by
   intro h4 h5 f i d a q hat ha hd hr hf
   have hr : rightB t d = true := hr
   have hd : d ≤ 60 := hd
   have hat : AtK ts i (txtK t ++ a :: q) := hat
   have hf : 4 * (txtK t).length ≤ f := hf
   show jbP ts [] false f .one i d = (i + (txtK t).length, 0, t)
   have hp := txtK_pos _ t d (Nat.lt_succ_self _) hr
   obtain ⟨m, rfl⟩ : ∃ m, f = m + 1 := ⟨f - 1, by omega⟩
   cases shape_of hr with
   | tt => exact one_true hat
   | ff => exact one_false hat
   | @cmp _ l r op hl hs h1 h2 =>
    have e : txtK (.mk 2 l r op (bstr []) (bstr []) []) = sumK 0 l ++ [(2, opsL.getD op.toNat [])] ++ sumK 0 r := by rw [txtK, if_neg (by decide), if_pos rfl]
    rw [e] at hat ⊢
    obtain ⟨b, p, e2, k⟩ := sumK_hd hl
    have hat' := hat
    rw [e2] at hat'
    rw [one_cmp hat' k, cmpP_ok hl hs h1 h2 hat ha]
   | @no _ x hd hx =>
    rw [txtK_no] at hat hf ⊢
    rw [List.length_cons] at hf ⊢
    obtain ⟨i1, _, i3⟩ := ih x (by simp only [Tr.mk.sizeOf_spec, List.cons.sizeOf_spec] at hn; omega)
    have p1 : P1 ts (brk 3 0 x.kind) x := by
     cases hb : brk 3 0 x.kind with
     | true => exact P1.br i3
     | false =>
      rw [brk3, Bool.or_eq_false_iff, decide_eq_false_iff_not, decide_eq_false_iff_not] at hb
      exact i1 hb.1 hb.2
    have hat2 : AtK ts (i + 1) (brK (brk 3 0 x.kind) (txtK x) ++ a :: q) := (atK_cons hat).2
    have hd60 : d ≠ 60 := by
     have : d + 1 ≤ upD (brk 3 0 x.kind) (d + 1) := by cases brk 3 0 x.kind <;> simp [upD]
     omega
    rw [one_not hat hd60, p1 m (i + 1) (d + 1) a q hat2 ha hd hx (by omega), thenT_ok]
    rw [show i + 1 + (brK (brk 3 0 x.kind) (txtK x)).length = i + ((brK (brk 3 0 x.kind) (txtK x)).length + 1) by omega]
   | @bin _ k x y hk hd hx gd hy =>
    rcases hk with rfl | rfl
    ·exact absurd rfl h4
    ·exact absurd rfl h5
  have l2 : t.kind ≠ 5 → P2 ts false t := by
   intro h5
   by_cases h4 : t.kind = 4
   ·intro f i d a q hat ha hd hr hf
    have hr : rightB t d = true := hr
    have hd : d ≤ 60 := hd
    have hat : AtK ts i (txtK t ++ a :: q) := hat
    have hf : 4 * (txtK t).length + 1 ≤ f := hf
    show ∃ g, f ≤ g + 4 * (txtK t).length ∧ 1 ≤ g ∧ jbP ts [] false f .both i d = jbP ts [] false g (.bothL t) (i + (txtK t).length) d
    cases shape_of hr with
    | tt => cases h4
    | ff => cases h4
    | cmp => cases h4
    | no => cases h4
    | @bin _ k x y hk hd hx gd hy =>
     have h4 : k = 4 := h4
     subst h4
     rw [txtK_bin (.inl rfl)] at hat hf ⊢
     simp only [if_true, List.length_append, List.length_cons] at hat hf ⊢
     rw [List.append_assoc, List.cons_append] at hat
     obtain ⟨_, i2, i3⟩ := ih x (by simp only [Tr.mk.sizeOf_spec, List.cons.sizeOf_spec] at hn; omega)
     obtain ⟨j1, _, j3⟩ := ih y (by simp only [Tr.mk.sizeOf_spec, List.cons.sizeOf_spec] at hn; omega)
     have px : P2 ts (brk 4 0 x.kind) x := by
      cases hb : brk 4 0 x.kind with
      | true =>
       refine P2.of1 (P1.br i3) ?_
       rw [brK_len]
       omega
      | false =>
       rw [brk4, Bool.or_eq_false_iff, decide_eq_false_iff_not] at hb
       exact i2 hb.1
     have py : P1 ts (brk 4 1 y.kind) y := by
      cases hb : brk 4 1 y.kind with
      | true => exact P1.br j3
      | false =>
       rw [brk4, Bool.or_eq_false_iff, decide_eq_false_iff_not] at hb
       exact j1 (by simpa using hb.2) hb.1
     obtain ⟨g, g1, g2, g3⟩ := px f i d (2, [38]) _ hat (.inr (.inr (.inl rfl))) hd hx (by omega)
     have hat2 := atK_app hat
     obtain ⟨g, rfl⟩ : ∃ n, g = n + 1 := ⟨g - 1, by omega⟩
     have hat3 := (atK_cons hat2).2
     refine ⟨g, by omega, by omega, ?_⟩
     rw [g3, bothL_go hat2, py g _ d a q hat3 ha gd hy (by omega), thenT_ok]
     rw [show i + (brK (brk 4 0 x.kind) (txtK x)).length + 1 + (brK (brk 4 1 y.kind) (txtK y)).length = i + ((brK (brk 4 0 x.kind) (txtK x)).length + ((brK (brk 4 1 y.kind) (txtK y)).length + 1)) by omega]
   ·intro f i d a q hat ha hd hr hf
    exact P2.of1 (l1 h4 h5) (txtK_pos _ t d (Nat.lt_succ_self _) hr) f i d a q hat ha hd hr hf
  refine ⟨l1, l2, ?_⟩
  by_cases h5 : t.kind = 5
  ·intro f i d a q hat ha h38 hd hr hf
   cases shape_of hr with
   | tt => cases h5
   | ff => cases h5
   | cmp => cases h5
   | no => cases h5
   | @bin _ k x y hk hd hx gd hy =>
    have h5 : k = 5 := h5
    subst h5
    rw [txtK_bin (.inr rfl)] at hat hf ⊢
    simp only [show ¬(5 : Int) = 4 by decide, if_false, List.length_append, List.length_cons] at hat hf ⊢
    rw [List.append_assoc, List.cons_append] at hat
    obtain ⟨_, _, i3⟩ := ih x (by simp only [Tr.mk.sizeOf_spec, List.cons.sizeOf_spec] at hn; omega)
    obtain ⟨_, j2, j3⟩ := ih y (by simp only [Tr.mk.sizeOf_spec, List.cons.sizeOf_spec] at hn; omega)
    have hb0 : brk 5 0 x.kind = false := rfl
    rw [hb0] at hat hf hd hx ⊢
    have hat : AtK ts i (txtK x ++ (2, [124]) :: (brK (brk 5 1 y.kind) (txtK y) ++ a :: q)) := hat
    have hf : 4 * ((txtK x).length + ((brK (brk 5 1 y.kind) (txtK y)).length + 1)) + 2 ≤ f := hf
    show ∃ g, f ≤ g + 4 * ((txtK x).length + ((brK (brk 5 1 y.kind) (txtK y)).length + 1)) ∧ 1 ≤ g ∧ jbP ts [] false f .cond i d = jbP ts [] false g (.condL (.mk 5 [] [] 0 (bstr []) (bstr []) [x, y])) (i + ((txtK x).length + ((brK (brk 5 1 y.kind) (txtK y)).length + 1))) d
    have py : P2 ts (brk 5 1 y.kind) y := by
     cases hb : brk 5 1 y.kind with
     | true =>
      refine P2.of1 (P1.br j3) ?_
      rw [brK_len]
      omega
     | false =>
      rw [brk5] at hb
      exact j2 (by simpa using hb)
    obtain ⟨g, g1, g2, g3⟩ := i3 f i d (2, [124]) _ hat (.inr (.inr (.inr rfl))) (by decide) hd hx (by omega)
    have hat2 := atK_app hat
    obtain ⟨g, rfl⟩ : ∃ n, g = n + 1 := ⟨g - 1, by omega⟩
    have hat3 := (atK_cons hat2).2
    obtain ⟨g', k1, k2, k3⟩ := py g _ d a q hat3 ha gd hy (by omega)
    obtain ⟨g', rfl⟩ : ∃ n, g' = n + 1 := ⟨g' - 1, by omega⟩
    have hat4 := atK_app hat3
    refine ⟨g, by omega, by omega, ?_⟩
    rw [g3, condL_go hat2, k3, bothL_stop hat4 h38, thenT_ok]
    rw [show i + (txtK x).length + 1 + (brK (brk 5 1 y.kind) (txtK y)).length = i + ((txtK x).length + ((brK (brk 5 1 y.kind) (txtK y)).length + 1)) by omega]
  ·intro f i d a q hat ha h38 hd hr hf
   exact P3.of2 (l2 h5) (txtK_pos _ t d (Nat.lt_succ_self _) hr) f i d a q hat ha h38 hd hr hf
end
theorem pcond_back {t : Tr} (h : rightB t 0 = true) (hs : (txt t).length ≤ 16384) : pcondP (txt t) = (t, 0, 0, 0) := by
 obtain ⟨hl, _⟩ := tr_lx _ t 0 (Nat.lt_succ_self _) h
 obtain ⟨ts, h1, h2⟩ := lexAll_lx hl hs
 have hlen : ts.length = (txtK t).length + 1 := by
  have := congrArg List.length h2
  simpa using this
 have hat : AtK ts 0 (txtK t ++ (5, []) :: []) := h2
 obtain ⟨_, _, p3⟩ := back_tr (ts := ts) _ t (Nat.lt_succ_self _)
 obtain ⟨g, g1, g2, g3⟩ := p3 (4 * ts.length + 3) 0 0 (5, []) [] hat (.inl rfl) (by decide) (by omega) h (by omega)
 obtain ⟨g, rfl⟩ : ∃ n, g = n + 1 := ⟨g - 1, by omega⟩
 have hat2 := atK_app hat
 rw [condL_stop hat2 (by decide)] at g3
 unfold pcondP
 rw [h1]
 simp only
 unfold condP
 rw [if_pos (Nat.zero_le _), g3]
 unfold endP
 have hk := (atK_cons hat2).1.1
 simp only [if_true, hk]
end Go.Proofs.YtlmhajfbpplpoaaGreat
namespace Go.Proofs.YtlmhajfbpplpoaaGreat
open Go.RowKit

theorem right_of {t : Tr} {d : Nat} (hd : d ≤ 60) (h : ShapeT t d) : rightB t d = true := by
 cases h with
 | tt => rw [rightB]; simp [bareB, arI, upD, hd, kidsB]
 | ff => rw [rightB]; simp [bareB, arI, upD, hd, kidsB]
 | cmp _ hl hr h1 h2 => rw [rightB]; simp [cmpB, hl, hr, h1, h2]
 | @no _ x hx h =>
  have : d + 1 ≤ 60 := by
   have : d + 1 ≤ upD (brk 3 0 x.kind) (d + 1) := by cases brk 3 0 x.kind <;> simp [upD]
   omega
  have e : upD (decide ((3 : Int) = 3)) d = d + 1 := rfl
  rw [rightB, if_neg (by decide), e]
  simp only [kidsB, hx, h]
  simp [bareB, arI, this]
 | @bin _ k x y hk hx h gd g =>
  have e : upD (decide ((k : Int) = 3)) d = d := by rw [decide_eq_false (by omega)]; rfl
  have a : arI k = 2 := by rcases hk with rfl | rfl <;> rfl
  rw [rightB, if_neg (by omega), e, a]
  simp only [kidsB, hx, h, gd, g]
  simp [bareB, hd]
theorem right_mono : ∀ (n : Nat) (t : Tr) (d : Nat), SizeOf.sizeOf t < n → d ≤ 60 → rightB t (d + 1) = true → rightB t d = true := by
 intro n
 induction n with
 | zero => intro t d h; omega
 | succ n ih =>
  intro t d hn hd h
  refine right_of hd ?_
  have up : ∀ b, upD b (d + 1) = upD b d + 1 := fun b => by cases b <;> rfl
  cases shape_of h with
  | tt => exact .tt d
  | ff => exact .ff d
  | cmp _ hl hr h1 h2 => exact .cmp d hl hr h1 h2
  | @no _ x hx h =>
   have up2 : upD (brk 3 0 x.kind) (d + 1 + 1) = upD (brk 3 0 x.kind) (d + 1) + 1 := by cases brk 3 0 x.kind <;> rfl
   rw [up2] at hx h
   exact .no d (by omega) (ih x _ (by simp only [Tr.mk.sizeOf_spec, List.cons.sizeOf_spec] at hn; omega) (by omega) h)
  | @bin _ k x y hk hx h gd g =>
   rw [up] at hx h gd g
   exact .bin d hk (by omega) (ih x _ (by simp only [Tr.mk.sizeOf_spec, List.cons.sizeOf_spec] at hn; omega) (by omega) h) (by omega) (ih y _ (by simp only [Tr.mk.sizeOf_spec, List.cons.sizeOf_spec] at hn; omega) (by omega) g)
structure TkN (ts : List Tk) : Prop where
 fin : (ts.getLastD ⟨5, [], 0, 0⟩).kind = 5
 num : ∀ i, (nx ts i).kind = 3 → numB (nx ts i).text = true
def Sm (ts : List Tk) (i : Nat) : Nat := ((ts.take i).map (·.text.length)).sum
section
variable {ts : List Tk} (H : TkN ts)
theorem Sm_le (i : Nat) : Sm ts i ≤ textSum ts := by
 unfold Sm textSum
 have : ts = ts.take i ++ ts.drop i := (List.take_append_drop i ts).symm
 conv => rhs; rw [this, List.map_append, List.sum_append]
 omega
include H
theorem nx_in {i : Nat} (h : (nx ts i).kind ≠ 5) : ts[i]? = some (nx ts i) := by
 unfold nx at h ⊢
 cases e : ts[i]? with
 | some t => rfl
 | none =>
  rw [e] at h
  exact absurd H.fin h
theorem Sm_succ {i : Nat} (h : (nx ts i).kind ≠ 5) : Sm ts (i + 1) = Sm ts i + (nx ts i).text.length := by
 have e := nx_in H h
 obtain ⟨hi, e⟩ := List.getElem?_eq_some_iff.1 e
 unfold Sm
 rw [List.take_succ_eq_append_getElem hi, List.map_append, List.sum_append, e]
 simp
theorem Sm_isT {i : Nat} {s : List UInt8} (h : isT ts i s = true) : Sm ts (i + 1) = Sm ts i + s.length := by
 unfold isT at h
 simp only [Bool.and_eq_true, Bool.or_eq_true, decide_eq_true_eq] at h
 rw [Sm_succ H (by omega), h.1]
omit H in
theorem isN_of {i : Nat} (h : isN ts i = true) : (nx ts i).kind = 1 ∧ nameB (nx ts i).text = true := by
 unfold isN at h
 simpa using h
theorem varP_r {i : Nat} (h : (varP ts [] false i).2.1 = 0) : (∃ s, nameB s = true ∧ (varP ts [] false i).2.2 = bstr s ∧ Sm ts (varP ts [] false i).1 = Sm ts i + s.length) := by
 unfold varP at h ⊢
 by_cases hn : isN ts i = false
 ·rw [if_pos hn] at h
  exact absurd h (by simp)
 ·rw [if_neg hn] at h ⊢
  rw [if_neg (by simp)] at h ⊢
  obtain ⟨h1, h2⟩ := isN_of (by simpa using hn)
  exact ⟨_, h2, rfl, Sm_succ H (by omega)⟩
omit H in
theorem bstr_ne {s : List UInt8} (h : s ≠ []) : bstr s ≠ bstr [] := fun e => h (bstr_inj.1 e)
omit H in
theorem nameB_ne {s : List UInt8} (h : nameB s = true) : s ≠ [] := by rintro rfl; revert h; decide
omit H in
theorem numB_ne {s : List UInt8} (h : numB s = true) : s ≠ [] := by rintro rfl; revert h; decide
omit H in
theorem bstr_dl (s : List UInt8) : (bstr s).data.toList = s := by simp [bstr]
theorem monoP_r {i : Nat} {neg : Bool} (h : (monoP ts [] false i neg).2.1 = 0) : rightMoB (monoP ts [] false i neg).2.2 = true ∧ (monoP ts [] false i neg).2.2.neg = neg ∧ Sm ts (monoP ts [] false i neg).1 = Sm ts i + (moText (monoP ts [] false i neg).2.2).length := by
 unfold monoP at h ⊢
 by_cases hk : (nx ts i).kind = 3
 ·rw [if_pos hk] at h ⊢
  have hn := H.num i hk
  have hs := Sm_succ H (i := i) (by omega)
  by_cases hm : isT ts (i + 1) [42] = true
  ·rw [if_pos hm] at h ⊢
   obtain ⟨s, h1, h2, h3⟩ := varP_r H h
   have h4 := Sm_isT H hm
   simp only [h2, h3]
   refine ⟨?_, trivial, ?_⟩
   ·unfold rightMoB
    simp only [bstr_dl, hn, h1]
    simp [bstr_ne (numB_ne hn)]
   ·unfold moText
    simp only [bstr_dl]
    rw [if_pos ⟨bstr_ne (numB_ne hn), bstr_ne (nameB_ne h1)⟩, h4, hs]
    simp only [List.length_append, List.length_cons, List.length_nil]
    omega
  ·rw [if_neg hm] at h ⊢
   refine ⟨?_, rfl, ?_⟩
   ·unfold rightMoB
    simp only [bstr_dl, hn]
    simp [bstr_ne (numB_ne hn)]
   ·unfold moText
    simp only [bstr_dl]
    rw [if_neg (fun e => e.2 rfl), hs]
    simp
 ·rw [if_neg hk] at h ⊢
  obtain ⟨s, h1, h2, h3⟩ := varP_r H h
  simp only [h2, h3]
  refine ⟨?_, trivial, ?_⟩
  ·unfold rightMoB
   simp only [bstr_dl, h1]
   simp [bstr_ne (nameB_ne h1)]
  ·unfold moText
   simp only [bstr_dl]
   rw [if_neg (fun e => e.1 rfl)]
   simp
def sepL (n : Nat) (neg : Bool) : Nat := if neg then (if n = 0 then 1 else 3) else if n = 0 then 0 else 3
omit H in
theorem sepL_pos {n : Nat} (h : n ≠ 0) (neg : Bool) : sepL n neg = 3 := by
 unfold sepL
 rw [if_neg h, if_neg h]
 cases neg <;> rfl
omit H in
theorem sepL_eq (n : Nat) (m : Mo) : (sepT n m).length = sepL n m.neg := by
 unfold sepT sepL
 cases m.neg <;> by_cases h : n = 0 <;> simp [h]
theorem sumL_r : ∀ (k : Nat) (out : List Mo) (neg : Bool) (i c : Nat), out.length + k = 64 → out.all rightMoB = true → (sumTx 0 out).length + sepL out.length neg + c ≤ 3 * Sm ts i → (sumL ts [] false k out neg i).2.1 = 0 →
  rsB (sumL ts [] false k out neg i).2.2 = true ∧ (sumTx 0 (sumL ts [] false k out neg i).2.2).length + c ≤ 3 * Sm ts (sumL ts [] false k out neg i).1
 | 0, out, neg, i, c, h1, h2, h3, h4 => by
  unfold sumL at h4
  split at h4
  ·exact absurd h4 (by simp)
  ·exact absurd h4 (by simp)
 | k + 1, out, neg, i, c, h1, h2, h3, h4 => by
  have ih := sumL_r k (out ++ [(monoP ts [] false i neg).2.2])
  unfold sumL at h4 ⊢
  by_cases hb : begP ts i = false
  ·rw [if_pos hb] at h4
   exact absurd h4 (by simp)
  rw [if_neg hb] at h4 ⊢
  simp only at h4 ⊢
  by_cases he : (monoP ts [] false i neg).2.1 = 0
  ·rw [if_neg (fun h => h he)] at h4 ⊢
   obtain ⟨g1, g2, g3⟩ := monoP_r H he
   have ha : (out ++ [(monoP ts [] false i neg).2.2]).all rightMoB = true := by simp only [List.all_append, h2, List.all_cons, g1, List.all_nil, Bool.and_self]
   have hl : (sumTx 0 (out ++ [(monoP ts [] false i neg).2.2])).length + c ≤ 3 * Sm ts (monoP ts [] false i neg).1 := by
    rw [sumTx_snoc, List.length_append, List.length_append, Nat.zero_add, sepL_eq, g2]
    omega
   have hlen : (out ++ [(monoP ts [] false i neg).2.2]).length = out.length + 1 := by simp
   by_cases h45 : isT ts (monoP ts [] false i neg).1 [45] = true
   ·rw [if_pos h45] at h4 ⊢
    refine ih true _ c (by omega) ha ?_ h4
    rw [Sm_isT H h45, hlen]
    rw [sepL_pos (show out.length + 1 ≠ 0 by omega)]
    simp only [List.length_cons, List.length_nil]
    omega
   ·rw [if_neg h45] at h4 ⊢
    by_cases h43 : isT ts (monoP ts [] false i neg).1 [43] = true
    ·rw [if_pos h43] at h4 ⊢
     refine ih false _ c (by omega) ha ?_ h4
     rw [Sm_isT H h43, hlen]
     rw [sepL_pos (show out.length + 1 ≠ 0 by omega)]
     simp only [List.length_cons, List.length_nil]
     omega
    ·rw [if_neg h43]
     refine ⟨?_, hl⟩
     unfold rsB
     simp only [ha, hlen]
     simp
     omega
  ·rw [if_pos he] at h4
   exact absurd h4 he
theorem sumP_r {i : Nat} (h : (sumP ts [] false i).2.1 = 0) : rsB (sumP ts [] false i).2.2 = true ∧ (sumTx 0 (sumP ts [] false i).2.2).length + 3 * Sm ts i ≤ 3 * Sm ts (sumP ts [] false i).1 := by
 unfold sumP at h ⊢
 by_cases h45 : isT ts i [45] = true
 ·rw [if_pos h45] at h ⊢
  have := Sm_isT H h45
  simp only [List.length_cons, List.length_nil] at this
  exact sumL_r H 64 [] true (i + 1) (3 * Sm ts i) rfl rfl (by simp [sumTx, sepL]; omega) h
 ·rw [if_neg h45] at h ⊢
  exact sumL_r H 64 [] false i (3 * Sm ts i) rfl rfl (by simp [sumTx, sepL]) h
omit H in
theorem opP_r {i n : Nat} (h : opP ts i = some n) : n < 6 ∧ isT ts i (opsL.getD n []) = true := by
 unfold opP at h
 obtain ⟨h1, h2, _⟩ := List.findIdx?_eq_some_iff_getElem.1 h
 refine ⟨h1, ?_⟩
 rw [List.getD_eq_getElem?_getD, List.getElem?_eq_getElem h1]
 exact h2
def lenO (x : Tr) : Nat := (txt x).length + if x.kind = 4 ∨ x.kind = 5 then 2 else 0
def lenW (x : Tr) : Nat := (txt x).length + if x.kind = 5 then 2 else 0
structure ROk (d s : Nat) (x : Tr) : Prop where
 r : rightB x d = true
 b : x.kind = 4 ∨ x.kind = 5 → d + 1 ≤ 60 ∧ rightB x (d + 1) = true
 l : lenO x ≤ s
structure RWk (d s : Nat) (x : Tr) : Prop where
 r : rightB x d = true
 b : x.kind = 5 → d + 1 ≤ 60 ∧ rightB x (d + 1) = true
 l : lenW x ≤ s
structure RCk (d s : Nat) (x : Tr) : Prop where
 r : rightB x d = true
 l : (txt x).length ≤ s
omit H in
theorem ROk.w {d s : Nat} {x : Tr} (h : ROk d s x) : RWk d s x := ⟨h.r, fun e => h.b (.inr e), by
 have := h.l
 unfold lenO at this
 unfold lenW
 split
 ·rename_i e; rw [if_pos (.inr e)] at this; exact this
 ·omega⟩
omit H in
theorem RWk.c {d s : Nat} {x : Tr} (h : RWk d s x) : RCk d s x := ⟨h.r, by
 have := h.l
 unfold lenW at this
 omega⟩
omit H in
theorem ro_plain {d s : Nat} {x : Tr} (h : rightB x d = true) (hk : x.kind ≠ 4 ∧ x.kind ≠ 5) (hl : (txt x).length ≤ s) : ROk d s x := ⟨h, fun e => by rcases e with e | e; exact absurd e hk.1; exact absurd e hk.2, by
 unfold lenO
 rw [if_neg (by rintro (e | e); exact hk.1 e; exact hk.2 e)]
 exact hl⟩
theorem cmpP_r {i d : Nat} (h : (cmpP ts [] false i).2.1 = 0) (hd : d ≤ 60) : ∀ c, c ≤ 3 * Sm ts i → ROk d (3 * Sm ts (cmpP ts [] false i).1 - c) (cmpP ts [] false i).2.2 ∧ Sm ts i ≤ Sm ts (cmpP ts [] false i).1 := by
 intro c hc
 unfold cmpP at h ⊢
 by_cases h1 : (sumP ts [] false i).2.1 = 0
 ·rw [if_neg (fun e => e h1)] at h ⊢
  obtain ⟨a1, a2⟩ := sumP_r H h1
  cases ho : opP ts (sumP ts [] false i).1 with
  | none =>
   rw [ho] at h
   exact absurd h (by simp)
  | some op =>
   rw [ho] at h
   simp only at h ⊢
   obtain ⟨o1, o2⟩ := opP_r ho
   have o3 := Sm_isT H o2
   by_cases h2 : (sumP ts [] false ((sumP ts [] false i).1 + 1)).2.1 = 0
   ·rw [if_neg (fun e => e h2)] at h ⊢
    obtain ⟨b1, b2⟩ := sumP_r H h2
    have hop : 1 ≤ (opsL.getD op []).length := by
     match op, o1 with
     | 0, _ => decide
     | 1, _ => decide
     | 2, _ => decide
     | 3, _ => decide
     | 4, _ => decide
     | 5, _ => decide
    have hr : rightB (.mk 2 (sumP ts [] false i).2.2 (sumP ts [] false ((sumP ts [] false i).1 + 1)).2.2 (op : Int) (bstr []) (bstr []) []) d = true := right_of hd (.cmp d a1 b1 (by omega) (by omega))
    refine ⟨ro_plain hr ⟨show (2 : Int) ≠ 4 by decide, show (2 : Int) ≠ 5 by decide⟩ ?_, by simp only; omega⟩
    have hc' : cmpB (.mk 2 (sumP ts [] false i).2.2 (sumP ts [] false ((sumP ts [] false i).1 + 1)).2.2 (op : Int) (bstr []) (bstr []) []) = true := by
     unfold cmpB
     simp [a1, b1]
     omega
    rw [txt, if_neg (by decide), if_pos rfl, if_pos hc']
    unfold cmpTx sumTxt
    rw [if_pos a1, if_pos b1, Int.toNat_natCast]
    simp only [List.length_append, List.length_cons, List.length_nil]
    omega
   ·rw [if_pos h2] at h
    exact absurd h h2
 ·rw [if_pos h1] at h
  exact absurd h h1
end
end Go.Proofs.YtlmhajfbpplpoaaGreat
namespace Go.Proofs.YtlmhajfbpplpoaaGreat
open Go.RowKit

theorem brT_len (b : Bool) (s : List UInt8) : (brT b s).length = s.length + if b then 2 else 0 := by
 cases b with
 | false => rfl
 | true =>
  unfold brT
  rw [if_pos rfl, if_pos rfl]
  simp
theorem brk3_len (x : Tr) : (brT (brk 3 0 x.kind) (txt x)).length = lenO x := by
 rw [brT_len, brk3]
 unfold lenO
 by_cases h1 : x.kind = 4 <;> by_cases h2 : x.kind = 5 <;> simp [h1, h2]
theorem brk40_len (x : Tr) : (brT (brk 4 0 x.kind) (txt x)).length = lenW x := by
 rw [brT_len, brk4]
 unfold lenW
 by_cases h2 : x.kind = 5 <;> simp [h2]
theorem brk41_len (x : Tr) : (brT (brk 4 1 x.kind) (txt x)).length = lenO x := by
 rw [brT_len, brk4]
 unfold lenO
 by_cases h1 : x.kind = 4 <;> by_cases h2 : x.kind = 5 <;> simp [h1, h2]
theorem brk51_len (x : Tr) : (brT (brk 5 1 x.kind) (txt x)).length = lenW x := by
 rw [brT_len, brk5]
 unfold lenW
 by_cases h2 : x.kind = 5 <;> simp [h2]
theorem txt_no (x : Tr) : (txt (.mk 3 [] [] 0 (bstr []) (bstr []) [x])).length = 1 + lenO x := by
 rw [txt, if_neg (by decide), if_neg (by decide), kidTx_cons]
 show ([33] ++ brT (brk 3 0 x.kind) (txt x)).length = _
 rw [List.length_append, brk3_len]
 rfl
theorem txt_and (x y : Tr) : (txt (.mk 4 [] [] 0 (bstr []) (bstr []) [x, y])).length = lenW x + 3 + lenO y := by
 rw [txt, if_neg (by decide), if_neg (by decide), kidTx_cons, kidTx_cons]
 show (brT (brk 4 0 x.kind) (txt x) ++ [32, 38, 32] ++ brT (brk 4 1 y.kind) (txt y)).length = _
 rw [List.length_append, List.length_append, brk40_len, brk41_len]
 rfl
theorem txt_or (x y : Tr) : (txt (.mk 5 [] [] 0 (bstr []) (bstr []) [x, y])).length = (txt x).length + 3 + lenW y := by
 rw [txt, if_neg (by decide), if_neg (by decide), kidTx_cons, kidTx_cons]
 show (brT (brk 5 0 x.kind) (txt x) ++ [32, 124, 32] ++ brT (brk 5 1 y.kind) (txt y)).length = _
 rw [List.length_append, List.length_append, brk51_len]
 rfl
theorem thenT_r {q : Nat × Nat × Tr} {k : Nat → Tr → Nat × Nat × Tr} (h : (thenT q k).2.1 = 0) : q.2.1 = 0 ∧ thenT q k = k q.1 q.2.2 := by
 unfold thenT at h ⊢
 by_cases h0 : q.2.1 = 0
 ·exact ⟨h0, if_pos h0⟩
 ·rw [if_neg h0] at h
  exact absurd h h0
theorem ro_no {d s : Nat} {x : Tr} (hd : d + 1 ≤ 60) (h : ROk (d + 1) s x) : ROk d (s + 3) (.mk 3 [] [] 0 (bstr []) (bstr []) [x]) := by
 have hb : upD (brk 3 0 x.kind) (d + 1) ≤ 60 ∧ rightB x (upD (brk 3 0 x.kind) (d + 1)) = true := by
  cases e : brk 3 0 x.kind with
  | false => exact ⟨hd, h.r⟩
  | true =>
   rw [brk3, Bool.or_eq_true, decide_eq_true_eq, decide_eq_true_eq] at e
   exact h.b e
 refine ro_plain (right_of (by omega) (.no d hb.1 hb.2)) ⟨show (3 : Int) ≠ 4 by decide, show (3 : Int) ≠ 5 by decide⟩ ?_
 rw [txt_no]
 have := h.l
 omega
theorem rw_and {d s s' : Nat} {x y : Tr} (hd : d ≤ 60) (h : RWk d s x) (g : ROk d s' y) : RWk d (s + 3 + s') (.mk 4 [] [] 0 (bstr []) (bstr []) [x, y]) := by
 have hb : upD (brk 4 0 x.kind) d ≤ 60 ∧ rightB x (upD (brk 4 0 x.kind) d) = true := by
  cases e : brk 4 0 x.kind with
  | false => exact ⟨hd, h.r⟩
  | true =>
   rw [brk4, Bool.or_eq_true, decide_eq_true_eq] at e
   exact h.b (e.resolve_right (by simp))
 have gb : upD (brk 4 1 y.kind) d ≤ 60 ∧ rightB y (upD (brk 4 1 y.kind) d) = true := by
  cases e : brk 4 1 y.kind with
  | false => exact ⟨hd, g.r⟩
  | true =>
   rw [brk4, Bool.or_eq_true, decide_eq_true_eq] at e
   exact g.b (by
    rcases e with e | e
    ·exact .inr e
    ·exact .inl (by simpa using e))
 refine ⟨right_of hd (.bin d (.inl rfl) hb.1 hb.2 gb.1 gb.2), fun e => absurd e (show (4 : Int) ≠ 5 by decide), ?_⟩
 have e5 : ¬(Tr.mk 4 [] [] 0 (bstr []) (bstr []) [x, y]).kind = 5 := show ¬(4 : Int) = 5 by decide
 rw [show lenW (Tr.mk 4 [] [] 0 (bstr []) (bstr []) [x, y]) = (txt (Tr.mk 4 [] [] 0 (bstr []) (bstr []) [x, y])).length + if (Tr.mk 4 [] [] 0 (bstr []) (bstr []) [x, y]).kind = 5 then 2 else 0 from rfl, txt_and, if_neg e5]
 have := h.l
 have := g.l
 omega
theorem rc_or {d s s' : Nat} {x y : Tr} (hd : d ≤ 60) (h : RCk d s x) (g : RWk d s' y) : RCk d (s + 3 + s') (.mk 5 [] [] 0 (bstr []) (bstr []) [x, y]) := by
 have gb : upD (brk 5 1 y.kind) d ≤ 60 ∧ rightB y (upD (brk 5 1 y.kind) d) = true := by
  cases e : brk 5 1 y.kind with
  | false => exact ⟨hd, g.r⟩
  | true =>
   rw [brk5] at e
   exact g.b (by simpa using e)
 refine ⟨right_of hd (.bin d (.inr rfl) hd h.r gb.1 gb.2), ?_⟩
 rw [txt_or]
 have := h.l
 have := g.l
 omega
theorem ROk.le {d s s' : Nat} {x : Tr} (h : ROk d s x) (hs : s ≤ s') : ROk d s' x := ⟨h.r, h.b, Nat.le_trans h.l hs⟩
theorem RWk.le {d s s' : Nat} {x : Tr} (h : RWk d s x) (hs : s ≤ s') : RWk d s' x := ⟨h.r, h.b, Nat.le_trans h.l hs⟩
theorem RCk.le {d s s' : Nat} {x : Tr} (h : RCk d s x) (hs : s ≤ s') : RCk d s' x := ⟨h.r, Nat.le_trans h.l hs⟩
def PreJ (d s : Nat) : Jb → Prop
 | .bothL x => RWk d s x
 | .condL x => RCk d s x
 | _ => True
def PostJ (d s : Nat) : Jb → Tr → Prop
 | .one, x => ROk d s x
 | .both, x => RWk d s x
 | .bothL _, x => RWk d s x
 | .cond, x => RCk d s x
 | .condL _, x => RCk d s x
section
variable {ts : List Tk} (H : TkN ts)
include H
theorem jb_r : ∀ (n : Nat) (jb : Jb) (i d c : Nat), d ≤ 60 → c ≤ 3 * Sm ts i → PreJ d (3 * Sm ts i - c) jb → (jbP ts [] false n jb i d).2.1 = 0 → PostJ d (3 * Sm ts (jbP ts [] false n jb i d).1 - c) jb (jbP ts [] false n jb i d).2.2 ∧ Sm ts i ≤ Sm ts (jbP ts [] false n jb i d).1 := by
 intro n
 induction n with
 | zero =>
  intro jb i d c hd hc hp h
  exact absurd h (by simp [jbP])
 | succ n ih =>
  intro jb i d c hd hc hp h
  cases jb with
  | one =>
   have e : jbP ts [] false (n + 1) .one i d = if (isT ts i [33] || isT ts i [40]) = true ∧ d = 60 then (i, 102, T0)
    else if isT ts i [116, 114, 117, 101] then (i + 1, 0, .mk 0 [] [] 0 (bstr []) (bstr []) [])
    else if isT ts i [102, 97, 108, 115, 101] then (i + 1, 0, .mk 1 [] [] 0 (bstr []) (bstr []) [])
    else if isT ts i [33] then thenT (jbP ts [] false n .one (i + 1) (d + 1)) fun j x => (j, 0, .mk 3 [] [] 0 (bstr []) (bstr []) [x])
    else if isT ts i [40] then thenT (jbP ts [] false n .cond (i + 1) (d + 1)) fun j x => if isT ts j [41] then (j + 1, 0, x) else (j, 101, T0)
    else cmpP ts [] false i := rfl
   rw [e] at h ⊢
   by_cases h1 : (isT ts i [33] || isT ts i [40]) = true ∧ d = 60
   ·rw [if_pos h1] at h
    exact absurd h (by simp)
   rw [if_neg h1] at h ⊢
   by_cases h2 : isT ts i [116, 114, 117, 101] = true
   ·rw [if_pos h2]
    have := Sm_isT H h2
    simp only [List.length_cons, List.length_nil] at this
    refine ⟨ro_plain (right_of hd (.tt d)) ⟨show (0 : Int) ≠ 4 by decide, show (0 : Int) ≠ 5 by decide⟩ ?_, by simp only; omega⟩
    show 4 ≤ _
    simp only
    omega
   rw [if_neg h2] at h ⊢
   by_cases h3 : isT ts i [102, 97, 108, 115, 101] = true
   ·rw [if_pos h3]
    have := Sm_isT H h3
    simp only [List.length_cons, List.length_nil] at this
    refine ⟨ro_plain (right_of hd (.ff d)) ⟨show (1 : Int) ≠ 4 by decide, show (1 : Int) ≠ 5 by decide⟩ ?_, by simp only; omega⟩
    show 5 ≤ _
    simp only
    omega
   rw [if_neg h3] at h ⊢
   by_cases h4 : isT ts i [33] = true
   ·rw [if_pos h4] at h ⊢
    have h60 : d ≠ 60 := fun e => h1 ⟨by rw [h4]; rfl, e⟩
    obtain ⟨k1, k2⟩ := thenT_r h
    rw [k2]
    have hs := Sm_isT H h4
    simp only [List.length_cons, List.length_nil] at hs
    obtain ⟨r1, r2⟩ := ih .one (i + 1) (d + 1) (3 * Sm ts (i + 1)) (by omega) (Nat.le_refl _) trivial k1
    have := ro_no (by omega) r1
    exact ⟨this.le (by simp only; omega), by simp only; omega⟩
   rw [if_neg h4] at h ⊢
   by_cases h5 : isT ts i [40] = true
   ·rw [if_pos h5] at h ⊢
    have h60 : d ≠ 60 := fun e => h1 ⟨by rw [h5]; simp, e⟩
    obtain ⟨k1, k2⟩ := thenT_r h
    rw [k2] at h ⊢
    have hs := Sm_isT H h5
    simp only [List.length_cons, List.length_nil] at hs
    obtain ⟨r1, r2⟩ := ih .cond (i + 1) (d + 1) (3 * Sm ts (i + 1)) (by omega) (Nat.le_refl _) trivial k1
    have r1 : RCk (d + 1) (3 * Sm ts (jbP ts [] false n .cond (i + 1) (d + 1)).1 - 3 * Sm ts (i + 1)) (jbP ts [] false n .cond (i + 1) (d + 1)).2.2 := r1
    by_cases h6 : isT ts (jbP ts [] false n .cond (i + 1) (d + 1)).1 [41] = true
    ·simp only [h6, if_true]
     have hs6 := Sm_isT H h6
     simp only [List.length_cons, List.length_nil] at hs6
     refine ⟨⟨right_mono _ _ d (Nat.lt_succ_self _) hd r1.r, fun _ => ⟨by omega, r1.r⟩, ?_⟩, by omega⟩
     have := r1.l
     unfold lenO
     split <;> omega
    ·simp only [h6] at h
     exact absurd h (by simp)
   rw [if_neg h5] at h ⊢
   exact cmpP_r H h hd c hc
  | both =>
   rw [jb_both] at h ⊢
   obtain ⟨k1, k2⟩ := thenT_r h
   rw [k2] at h ⊢
   obtain ⟨r1, r2⟩ := ih .one i d c hd hc trivial k1
   have r1 := ROk.w r1
   obtain ⟨r3, r4⟩ := ih (.bothL (jbP ts [] false n .one i d).2.2) (jbP ts [] false n .one i d).1 d c hd (by omega) r1 h
   exact ⟨r3, by omega⟩
  | bothL x =>
   have hp : RWk d (3 * Sm ts i - c) x := hp
   by_cases h38 : isT ts i [38] = true
   ·have e : jbP ts [] false (n + 1) (.bothL x) i d = thenT (jbP ts [] false n .one (i + 1) d) fun j y => jbP ts [] false n (.bothL (.mk 4 [] [] 0 (bstr []) (bstr []) [x, y])) j d := by
     show (if isT ts i [38] then _ else _) = _
     rw [h38]
     rfl
    rw [e] at h ⊢
    obtain ⟨k1, k2⟩ := thenT_r h
    rw [k2] at h ⊢
    have hs := Sm_isT H h38
    simp only [List.length_cons, List.length_nil] at hs
    obtain ⟨r1, r2⟩ := ih .one (i + 1) d (3 * Sm ts (i + 1)) hd (Nat.le_refl _) trivial k1
    have r5 := rw_and hd hp r1
    obtain ⟨r3, r4⟩ := ih (.bothL (.mk 4 [] [] 0 (bstr []) (bstr []) [x, (jbP ts [] false n .one (i + 1) d).2.2])) (jbP ts [] false n .one (i + 1) d).1 d c hd (by omega) (r5.le (by omega)) h
    exact ⟨r3, by omega⟩
   ·have e : jbP ts [] false (n + 1) (.bothL x) i d = (i, 0, x) := by
     show (if isT ts i [38] then _ else _) = _
     rw [if_neg h38]
    rw [e]
    exact ⟨hp, Nat.le_refl _⟩
  | cond =>
   rw [jb_cond] at h ⊢
   obtain ⟨k1, k2⟩ := thenT_r h
   rw [k2] at h ⊢
   obtain ⟨r1, r2⟩ := ih .both i d c hd hc trivial k1
   have r1 := RWk.c r1
   obtain ⟨r3, r4⟩ := ih (.condL (jbP ts [] false n .both i d).2.2) (jbP ts [] false n .both i d).1 d c hd (by omega) r1 h
   exact ⟨r3, by omega⟩
  | condL x =>
   have hp : RCk d (3 * Sm ts i - c) x := hp
   by_cases h124 : isT ts i [124] = true
   ·have e : jbP ts [] false (n + 1) (.condL x) i d = thenT (jbP ts [] false n .both (i + 1) d) fun j y => jbP ts [] false n (.condL (.mk 5 [] [] 0 (bstr []) (bstr []) [x, y])) j d := by
     show (if isT ts i [124] then _ else _) = _
     rw [h124]
     rfl
    rw [e] at h ⊢
    obtain ⟨k1, k2⟩ := thenT_r h
    rw [k2] at h ⊢
    have hs := Sm_isT H h124
    simp only [List.length_cons, List.length_nil] at hs
    obtain ⟨r1, r2⟩ := ih .both (i + 1) d (3 * Sm ts (i + 1)) hd (Nat.le_refl _) trivial k1
    have r5 := rc_or hd hp r1
    obtain ⟨r3, r4⟩ := ih (.condL (.mk 5 [] [] 0 (bstr []) (bstr []) [x, (jbP ts [] false n .both (i + 1) d).2.2])) (jbP ts [] false n .both (i + 1) d).1 d c hd (by omega) (r5.le (by omega)) h
    exact ⟨r3, by omega⟩
   ·have e : jbP ts [] false (n + 1) (.condL x) i d = (i, 0, x) := by
     show (if isT ts i [124] then _ else _) = _
     rw [if_neg h124]
    rw [e]
    exact ⟨hp, Nat.le_refl _⟩
end
theorem good_num {s : List UInt8} (h : Good 3 s) : numB s = true := by
 obtain ⟨⟨c, r, rfl, _⟩, h⟩ := h
 have h := h [] (.inl rfl)
 rw [List.append_nil, tok1_cons] at h
 by_cases h1 : lowB c = true
 ·rw [if_pos h1] at h
  split at h <;> cases h
 rw [if_neg h1] at h
 by_cases h2 : digB c = true
 ·rw [if_pos h2] at h
  split at h
  ·cases h
  split at h
  ·cases h
  rename_i h3 h4
  injection h with _ h5
  have ha : ∀ l : List UInt8, span digB l = l.length → l.all digB = true := fun l => by
   induction l with
   | nil => intro _; rfl
   | cons c l ih =>
    intro h
    unfold span at h
    by_cases hc : digB c = true
    ·rw [if_pos hc, List.length_cons] at h
     rw [List.all_cons, hc, ih (by omega)]
     rfl
    ·rw [if_neg hc, List.length_cons] at h
     omega
  have ha := ha _ h5
  rw [h5] at h3 h4
  unfold numB
  rw [ha]
  simp only [List.isEmpty_cons, Bool.not_false, Bool.true_and, Bool.and_true, Bool.and_eq_true, decide_eq_true_eq, Bool.not_eq_true', Bool.and_eq_false_iff, decide_eq_false_iff_not, beq_eq_false_iff_ne]
  refine ⟨by omega, ?_⟩
  by_cases h6 : 1 < (c :: r).length
  ·right
   intro h7
   exact h4 ⟨h6, h7⟩
  ·exact .inl h6
 ·rw [if_neg h2] at h
  split at h
  ·injection h with h _
   cases h
  ·split at h
   ·cases h
   ·injection h with h _
    cases h
theorem goodToks_mem : ∀ {ts : List Tk}, GoodToks ts → ∀ t ∈ ts, t.kind = 5 ∨ Good t.kind t.text
 | [], h, _, _ => h.elim
 | [u], h, t, ht => by
  obtain rfl : t = u := by simpa using ht
  exact .inl h.1
 | u :: v :: r, h, t, ht => by
  rcases List.mem_cons.1 ht with rfl | ht
  ·exact .inr h.1
  ·exact goodToks_mem h.2 t ht
theorem tkN_of {s : List UInt8} {ts : List Tk} (h : lexAll s = .ok ts) : TkN ts ∧ textSum ts ≤ s.length := by
 have hf := (lexAll_facts s).1 ts h
 have hg : GoodToks ts ∧ textSum ts ≤ s.length ∧ ts.length ≤ s.length + 1 := by
  unfold lexAll at h
  split at h
  ·cases h
  ·exact lexL_good _ _ _ _ (Nat.le_refl _) h
 refine ⟨⟨hf.last _, fun i hi => ?_⟩, hg.2.1⟩
 have := goodToks_mem hg.1 _ (nx_mem hf.ne i)
 rcases this with h5 | hgd
 ·omega
 ·rw [hi] at hgd
  exact good_num hgd
theorem pcond_right {s : List UInt8} (h : (pcondP s).2.2.2 = 0) : rightB (pcondP s).1 0 = true ∧ (txt (pcondP s).1).length ≤ 3 * s.length := by
 unfold pcondP at h ⊢
 cases e : lexAll s with
 | err c ln co =>
  rw [e] at h
  exact absurd h ((lexAll_facts s).2 c ln co e)
 | ok ts =>
  rw [e] at h
  obtain ⟨H, hsum⟩ := tkN_of e
  simp only at h ⊢
  have h0 : (condP ts [] false 0).2.1 = 0 := by
   unfold endP at h
   by_cases h0 : (condP ts [] false 0).2.1 = 0
   ·exact h0
   ·rw [if_neg h0] at h
    exact absurd h h0
  unfold condP at h0 ⊢
  rw [if_pos (Nat.zero_le _)] at h0 ⊢
  obtain ⟨r, _⟩ := jb_r H (4 * ts.length + 3) .cond 0 0 0 (by omega) (Nat.zero_le _) trivial h0
  have r : RCk 0 _ _ := r
  refine ⟨r.r, Nat.le_trans r.l ?_⟩
  have := Sm_le (ts := ts) (jbP ts [] false (4 * ts.length + 3) .cond 0 0).1
  omega
theorem adv_ge : ∀ (l : List UInt8) (p : Nat × Nat), 1 ≤ p.1 → 1 ≤ (adv p l).1
 | [], p, h => h
 | c :: l, p, h => by
  have : adv p (c :: l) = adv (adv1 p c) l := rfl
  rw [this]
  refine adv_ge l _ ?_
  unfold adv1
  split
  ·simp
  ·exact h
theorem lexL_ln : ∀ (n : Nat) (l : List UInt8) (p : Nat × Nat), l.length ≤ n → 1 ≤ p.1 → (∀ ts, lexL l p = .ok ts → ∀ t ∈ ts, 1 ≤ t.ln) ∧ ∀ c ln co, lexL l p = .err c ln co → 1 ≤ ln := by
 intro n
 induction n with
 | zero =>
  intro l p hl hp
  obtain rfl : l = [] := List.length_eq_zero_iff.1 (by omega)
  rw [lexL_eq]
  refine ⟨fun ts h t ht => ?_, fun c ln co h => by cases h⟩
  injection h with h
  rw [← h] at ht
  obtain rfl : t = _ := by simpa using ht
  exact hp
 | succ n ih =>
  intro l p hl hp
  have hq := adv_ge (l.take (gap false l)) p hp
  rw [lexL_eq]
  cases ht : tok1 (l.drop (gap false l)) with
  | fin =>
   refine ⟨fun ts h t ht => ?_, fun c ln co h => by cases h⟩
   injection h with h
   rw [← h] at ht
   obtain rfl : t = _ := by simpa using ht
   exact hq
  | err e =>
   refine ⟨fun ts h => (by cases h), fun c ln co h => ?_⟩
   injection h with _ h _
   rw [← h]
   exact hq
  | tok k m =>
   have h1 := tok1_len ht
   rw [List.length_drop] at h1
   obtain ⟨i1, i2⟩ := ih (l.drop (gap false l + m)) (adv (adv p (l.take (gap false l))) ((l.drop (gap false l)).take m)) (by rw [List.length_drop]; omega) (adv_ge _ _ hq)
   refine ⟨fun ts h t htm => ?_, fun c ln co h => i2 c ln co (more_err h)⟩
   obtain ⟨us, e1, rfl⟩ := more_ok h
   rcases List.mem_cons.1 htm with rfl | htm
   ·exact hq
   ·exact i1 us e1 t htm
theorem pcond_line {s : List UInt8} (h : (pcondP s).2.2.2 ≠ 0) : 1 ≤ (pcondP s).2.1 := by
 have hl : (∀ ts, lexAll s = .ok ts → ∀ t ∈ ts, 1 ≤ t.ln) ∧ ∀ c ln co, lexAll s = .err c ln co → 1 ≤ ln := by
  unfold lexAll
  split
  ·refine ⟨fun ts h => (by cases h), fun c ln co h => ?_⟩
   injection h with _ h _
   omega
  ·exact lexL_ln _ s (1, 1) (Nat.le_refl _) (Nat.le_refl _)
 unfold pcondP at h ⊢
 cases e : lexAll s with
 | err c ln co => exact hl.2 c ln co e
 | ok ts =>
  rw [e] at h
  have hf := (lexAll_facts s).1 ts e
  simp only at h ⊢
  have hn := hl.1 ts e _ (nx_mem hf.ne (condP ts [] false 0).1)
  unfold endP at h ⊢
  split at h
  ·split at h
   ·exact absurd rfl h
   ·rename_i h1 h2
    rw [if_pos h1, if_neg h2]
    exact hn
  ·rename_i h1
   rw [if_neg h1]
   exact hn
end Go.Proofs.YtlmhajfbpplpoaaGreat
namespace Go.Proofs.YtlmhajfbpplpoaaGreat
open Go.RowKit

theorem eOp_len (s : List UInt8) : (eOp s).length = 1 := rfl
structure SumF (D : Orc) : Prop where
 sum : ∀ ms : List Mo, rsB ms = true → D.ask (.fn 22) [.ls (ms.map eMo)] [] = some (sv (bstr (sumTxt ms)), [])
theorem mo_small {m : Mo} (h : rightMoB m = true) : m.num.size ≤ 60 ∧ m.var.size ≤ 20 := by
 obtain ⟨h1, h2, _⟩ := mo_parts h
 rw [size_list, size_list]
 constructor
 ·by_cases e : m.num = bstr []
  ·rw [e]; simp [bstr]
  ·exact numB_len (h1 e)
 ·by_cases e : m.var = bstr []
  ·rw [e]; simp [bstr]
  ·exact nameB_len (h2 e)
theorem rs_wz {ms : List Mo} (h : rsB ms = true) : ms.length < 4611686018427387904 ∧ ∀ m ∈ ms, m.num.size ≤ 9223372036854775807 ∧ m.var.size ≤ 9223372036854775807 := by
 obtain ⟨_, h2, h3⟩ := rsB_all h
 refine ⟨by omega, fun m hm => ?_⟩
 have := mo_small (List.all_eq_true.1 h3 m hm)
 omega
theorem right_wz : ∀ (n : Nat) (t : Tr) (d : Nat), SizeOf.sizeOf t < n → rightB t d = true → WzT t := by
 intro n
 induction n with
 | zero => intro t d h; omega
 | succ n ih =>
  intro t d hn h
  cases shape_of h with
  | tt => exact .mk (by simp) (by simp) (by simp) (by simp) (by simp) (by simp)
  | ff => exact .mk (by simp) (by simp) (by simp) (by simp) (by simp) (by simp)
  | @cmp _ l r op hl hr h1 h2 => exact .mk (rs_wz hl).1 (rs_wz hr).1 (by simp) (rs_wz hl).2 (rs_wz hr).2 (by simp)
  | @no _ x hd hx =>
   refine .mk (by simp) (by simp) (by simp) (by simp) (by simp) fun y hy => ?_
   obtain rfl : y = x := by simpa using hy
   exact ih y _ (by simp only [Tr.mk.sizeOf_spec, List.cons.sizeOf_spec] at hn; omega) hx
  | @bin _ k x y hk hd hx gd hy =>
   refine .mk (by simp) (by simp) (by simp) (by simp) (by simp) fun z hz => ?_
   simp only [List.mem_cons, List.not_mem_nil, or_false] at hz
   rcases hz with rfl | rfl
   ·exact ih z _ (by simp only [Tr.mk.sizeOf_spec, List.cons.sizeOf_spec] at hn; omega) hx
   ·exact ih z _ (by simp only [Tr.mk.sizeOf_spec, List.cons.sizeOf_spec] at hn; omega) hy
theorem lenO_ge (x : Tr) : (txt x).length ≤ lenO x := Nat.le_add_right _ _
theorem lenW_ge (x : Tr) : (txt x).length ≤ lenW x := Nat.le_add_right _ _
section
variable {D : Orc}
variable (K : Knows ownC tabTx D) (Kt : Knows ownC tabTa D) (L : LexN D) (Ke : Knows ownC tabEa D) (S : SumF D)
include K Kt L Ke S
theorem cmpText_ok {l r : List Mo} {op : Int} (hl : rsB l = true) (hr : rsB r = true) (h1 : 0 ≤ op) (h2 : op ≤ 5) : D.ask (.fn 47) [.agg (eTr (.mk 2 l r op (bstr []) (bstr []) []))] [] = some (sv (bstr (cmpTx l r op)), []) := by
 have hr0 : rightB (.mk 2 l r op (bstr []) (bstr []) []) 0 = true := right_of (by omega) (.cmp 0 hl hr h1 h2)
 have gc := treecmp_ok Kt L (.mk 2 l r op (bstr []) (bstr []) []) (right_wz _ _ 0 (Nat.lt_succ_self _) hr0)
 have hc : cmpB (.mk 2 l r op (bstr []) (bstr []) []) = true := by
  unfold cmpB
  simp [hl, hr, h1, h2]
 rw [hc] at gc
 have g1 := S.sum l hl
 have g2 := S.sum r hr
 have l1 := sumTx_len l 0 (rsB_all hl).2.2
 have l2 := sumTx_len r 0 (rsB_all hr).2.2
 have l3 := (rsB_all hl).2.1
 have l4 := (rsB_all hr).2.1
 have e1 : sumTxt l = sumTx 0 l := by unfold sumTxt; rw [if_pos hl]
 have e2 : sumTxt r = sumTx 0 r := by unfold sumTxt; rw [if_pos hr]
 rw [← e1] at l1
 rw [← e2] at l2
 obtain ⟨n, rfl⟩ : ∃ n : Nat, op = n := ⟨op.toNat, by omega⟩
 have hn : n < 6 := by omega
 have hop : opsL[n]? = some (opsL.getD n []) := by
  match n, hn with
  | 0, _ => rfl
  | 1, _ => rfl
  | 2, _ => rfl
  | 3, _ => rfl
  | 4, _ => rfl
  | 5, _ => rfl
 have hol : (opsL.getD n []).length ≤ 2 := by
  match n, hn with
  | 0, _ => decide
  | 1, _ => decide
  | 2, _ => decide
  | 3, _ => decide
  | 4, _ => decide
  | 5, _ => decide
 refine K.fn' hn47 _ rfl ((e47 ..).trans ?_)
 refine (askK_of gc _).trans ?_
 simp only [ND]
 refine (askK_of g1 _).trans ?_
 simp only [ND, r_slen, r_cat, cat_bs]
 have s1 : (bstr [32]).size = 1 := rfl
 refine (br_ble (by simp only [bstr_size, List.length_append, List.length_cons, List.length_nil]; omega) _ _).trans ?_
 refine (askK_of (compares_ok Ke) _).trans ?_
 simp only [ND]
 rw [unI_n, nthK_some hop]
 simp only [eOp, ND, r_slen, r_cat, cat_bs]
 refine (br_ble (by simp only [bstr_size, List.length_append, List.length_cons, List.length_nil]; omega) _ _).trans ?_
 refine (br_ble (by simp only [bstr_size, List.length_append, List.length_cons, List.length_nil]; omega) _ _).trans ?_
 refine (askK_of g2 _).trans ?_
 simp only [ND, r_slen, r_cat, cat_bs]
 refine (br_ble (by simp only [bstr_size, List.length_append, List.length_cons, List.length_nil]; omega) _ _).trans ?_
 rfl
theorem text_lp (t : Tr) (ks : List Tr) (hk : ks.length ≤ 2) (g : ∀ x ∈ ks, D.ask (.fn 63) [.agg (eTr x)] [] = some (sv (bstr (txt x)), []) ∧ (txt x).length ≤ 1000000000000) : ∀ (n i : Nat) (out : List (List UInt8)), ks.length - i = n → out.length + n ≤ 2 →
  D.ask (.lp 63 0) [.ptr 0 0, .sl 1 0 out.length 1, .ls (ks.map eTr), iv (ks.length : Int), iv (i : Int)] [boxT t, ABlk.mk (rowC eOp out) true true] =
   some (.tup [iv 0, .ptr 0 0, .sl 2 0 (out ++ kidTx t.kind i (ks.drop i)).length 1], [.set (boxT t), .del, .set (ABlk.mk (rowC eOp (out ++ kidTx t.kind i (ks.drop i))) true true)]) := by
 intro n
 obtain ⟨k, l, r, op, p, q, kz⟩ := t
 induction n with
 | zero =>
  intro i out hi ho
  refine K.lp' hn63 _ rfl (by kernel_rfl) ((e63_0 ..).trans ?_)
  rw [show ks.drop i = [] from List.drop_eq_nil_of_le (by omega), kidTx_nil, List.append_nil]
  refine (br_ltF (by omega)).trans ?_
  rfl
 | succ n ih =>
  intro i out hi ho
  have hlt : i < ks.length := by omega
  rw [show ks.drop i = ks[i] :: ks.drop (i + 1) from List.drop_eq_getElem_cons hlt]
  obtain ⟨gx, gl⟩ := g ks[i] (List.getElem_mem hlt)
  have hb := bracketed_ok Kt k i ks[i]
  refine K.lp' hn63 _ rfl (by kernel_rfl) ((e63_0 ..).trans ?_)
  refine (br_ltT (by omega)).trans ?_
  rw [unI_n, nthK_some (List.getElem?_eq_getElem hlt)]
  rw [kidTx_cons]
  have ih := ih (i + 1) (out ++ [brT (brk k i ks[i].kind) (txt ks[i])]) (by omega) (by simp; omega)
  rw [List.append_assoc, List.length_append, List.length_singleton] at ih
  revert gx hb gl ih
  generalize ks[i] = x
  obtain ⟨xk, xl, xr, xo, xp, xq, xs⟩ := x
  intro gx gl hb ih
  unfold Tr.kind
  unfold Tr.kind at hb ih
  simp only [eTr, ND] at gx hb ⊢
  refine (askK_of gx _).trans ?_
  simp only [ND]
  refine (askK_of hb _).trans ?_
  simp only [ND]
  rw [add1 (by omega)]
  have hf : fitsB (out.length + 1) 16 = true := fits_small (by omega) (by omega)
  have hb1 : Nat.ble (0 + out.length * 1) (rowC eOp out).length = true := ble_row eOp_len out (by omega)
  have e3 : ∀ s, List.drop 0 (List.take (0 + out.length * 1) (rowC eOp out)) ++ [sv (bstr s)] = rowC eOp (out ++ [s]) := fun s => by
   rw [List.drop_zero, rowC_all eOp_len out (by omega)]
   exact rowC_snoc eOp out s
  cases hbk : brk k i xk with
  | true =>
   rw [hbk] at ih
   refine (br_t _ _).trans ?_
   simp only [r_slen, r_cat, cat_bs]
   refine (br_ble (by simp only [bstr_size, List.length_cons, List.length_nil]; omega) _ _).trans ?_
   refine (br_ble (by simp only [bstr_size, List.length_append, List.length_cons, List.length_nil]; omega) _ _).trans ?_
   rw [hf, hb1, e3]
   refine (br_t _ _).trans ?_
   refine (br_t _ _).trans ?_
   refine (askK_of ih _).trans ?_
   rfl
  | false =>
   rw [hbk] at ih
   refine (br_f _ _).trans ?_
   rw [hf, hb1, e3]
   refine (br_t _ _).trans ?_
   refine (br_t _ _).trans ?_
   refine (askK_of ih _).trans ?_
   rfl
theorem text_ok : ∀ (n : Nat) (t : Tr) (d : Nat), SizeOf.sizeOf t < n → rightB t d = true → (txt t).length ≤ 1000000000000 → D.ask (.fn 63) [.agg (eTr t)] [] = some (sv (bstr (txt t)), []) := by
 intro n
 induction n with
 | zero => intro t d h; omega
 | succ n ih =>
  intro t d hn h hlen
  cases shape_of h with
  | tt =>
   have glp := text_lp K Kt L Ke S (.mk 0 [] [] 0 (bstr []) (bstr []) []) [] (by simp) (by simp) 0 0 [] rfl (by simp)
   refine K.fn' hn63 _ rfl ((e63 ..).trans ?_)
   refine (askK_of glp _).trans ?_
   rfl
  | ff =>
   have glp := text_lp K Kt L Ke S (.mk 1 [] [] 0 (bstr []) (bstr []) []) [] (by simp) (by simp) 0 0 [] rfl (by simp)
   refine K.fn' hn63 _ rfl ((e63 ..).trans ?_)
   refine (askK_of glp _).trans ?_
   rfl
  | @cmp _ l r op hl hr h1 h2 =>
   have glp := text_lp K Kt L Ke S (.mk 2 l r op (bstr []) (bstr []) []) [] (by simp) (by simp) 0 0 [] rfl (by simp)
   have gc := cmpText_ok K Kt L Ke S hl hr h1 h2
   have hc : cmpB (.mk 2 l r op (bstr []) (bstr []) []) = true := by
    unfold cmpB
    simp [hl, hr, h1, h2]
   have e : txt (.mk 2 l r op (bstr []) (bstr []) []) = cmpTx l r op := by rw [txt, if_neg (by decide), if_pos rfl, if_pos hc]
   rw [e]
   refine K.fn' hn63 _ rfl ((e63 ..).trans ?_)
   refine (askK_of glp _).trans ?_
   simp only [boxT, eTr, ND]
   refine (br_eqF (by decide)).trans ?_
   refine (br_eqT rfl).trans ?_
   simp only [eTr, eTrs] at gc
   refine (askK_of gc _).trans ?_
   rfl
  | @no _ x hd hx =>
   have hl := txt_no x
   have hg := lenO_ge x
   have gx := ih x _ (by simp only [Tr.mk.sizeOf_spec, List.cons.sizeOf_spec] at hn; omega) hx (by omega)
   have glp := text_lp K Kt L Ke S (.mk 3 [] [] 0 (bstr []) (bstr []) [x]) [x] (by simp) (by
    intro y hy
    obtain rfl : y = x := by simpa using hy
    exact ⟨gx, by omega⟩) 1 0 [] rfl (by simp)
   have ek : kidTx (Tr.mk 3 [] [] 0 (bstr []) (bstr []) [x]).kind 0 ([x].drop 0) = [brT (brk 3 0 x.kind) (txt x)] := by
    show kidTx 3 0 [x] = _
    rw [kidTx_cons, kidTx_nil]
   rw [ek] at glp
   have e : txt (.mk 3 [] [] 0 (bstr []) (bstr []) [x]) = [33] ++ brT (brk 3 0 x.kind) (txt x) := by
    rw [txt, if_neg (by decide), if_neg (by decide), kidTx_cons]
    rfl
   rw [e] at hlen ⊢
   rw [List.length_append] at hlen
   refine K.fn' hn63 _ rfl ((e63 ..).trans ?_)
   refine (askK_of glp _).trans ?_
   generalize brT (brk 3 0 x.kind) (txt x) = sx at *
   simp only [boxT, eTr, ND]
   refine (br_eqF (by decide)).trans ?_
   refine (br_eqF (by decide)).trans ?_
   refine (br_eqT rfl).trans ?_
   show br ((realA.slen (bstr [33]) + realA.slen (bstr sx)).ble 9223372036854775807) (some (sv (realA.cat (bstr [33]) (bstr sx)), [])) none = _
   rw [r_slen, r_slen, r_cat, cat_bs]
   refine (br_ble (by simp only [bstr_size, List.length_cons, List.length_nil]; omega) _ _).trans ?_
   rfl
  | @bin _ k x y hk hd hx gd hy =>
   have hlx : (txt x).length ≤ 1000000000000 ∧ (txt y).length ≤ 1000000000000 := by
    have o1 := lenO_ge y
    have o2 := lenW_ge x
    have o3 := lenW_ge y
    rcases hk with rfl | rfl
    ·rw [txt_and] at hlen; omega
    ·rw [txt_or] at hlen; omega
   have gx := ih x _ (by simp only [Tr.mk.sizeOf_spec, List.cons.sizeOf_spec] at hn; omega) hx hlx.1
   have gy := ih y _ (by simp only [Tr.mk.sizeOf_spec, List.cons.sizeOf_spec] at hn; omega) hy hlx.2
   have glp := text_lp K Kt L Ke S (.mk k [] [] 0 (bstr []) (bstr []) [x, y]) [x, y] (by simp) (by
    intro z hz
    simp only [List.mem_cons, List.not_mem_nil, or_false] at hz
    rcases hz with rfl | rfl
    ·exact ⟨gx, hlx.1⟩
    ·exact ⟨gy, hlx.2⟩) 2 0 [] rfl (by simp)
   have ek : kidTx (Tr.mk k [] [] 0 (bstr []) (bstr []) [x, y]).kind 0 ([x, y].drop 0) = [brT (brk k 0 x.kind) (txt x), brT (brk k 1 y.kind) (txt y)] := by
    show kidTx k 0 [x, y] = _
    rw [kidTx_cons, kidTx_cons, kidTx_nil]
   rw [ek] at glp
   have e : txt (.mk k [] [] 0 (bstr []) (bstr []) [x, y]) = brT (brk k 0 x.kind) (txt x) ++ [32, if k = 4 then 38 else 124, 32] ++ brT (brk k 1 y.kind) (txt y) := by
    rw [txt, if_neg (by omega), if_neg (by omega), kidTx_cons, kidTx_cons]
    rcases hk with rfl | rfl <;> rfl
   rw [e] at hlen ⊢
   rw [List.length_append, List.length_append] at hlen
   refine K.fn' hn63 _ rfl ((e63 ..).trans ?_)
   refine (askK_of glp _).trans ?_
   generalize brT (brk k 0 x.kind) (txt x) = sx at *
   generalize brT (brk k 1 y.kind) (txt y) = sy at *
   simp only [boxT, eTr, ND]
   refine (br_eqF (by omega)).trans ?_
   refine (br_eqF (by omega)).trans ?_
   refine (br_eqF (by omega)).trans ?_
   rcases hk with rfl | rfl
   ·refine (br_eqT rfl).trans ?_
    show br ((realA.slen (bstr sx) + realA.slen (bstr [32, 38, 32])).ble 9223372036854775807) (br ((realA.slen (realA.cat (bstr sx) (bstr [32, 38, 32])) + realA.slen (bstr sy)).ble 9223372036854775807) (some (sv (realA.cat (realA.cat (bstr sx) (bstr [32, 38, 32])) (bstr sy)), [])) none) none = _
    simp only [r_slen, r_cat, cat_bs]
    refine (br_ble (by simp only [bstr_size, List.length_cons, List.length_nil]; omega) _ _).trans ?_
    refine (br_ble (by simp only [bstr_size, List.length_append, List.length_cons, List.length_nil]; omega) _ _).trans ?_
    rfl
   ·refine (br_eqF (by decide)).trans ?_
    refine (br_eqT rfl).trans ?_
    show br ((realA.slen (bstr sx) + realA.slen (bstr [32, 124, 32])).ble 9223372036854775807) (br ((realA.slen (realA.cat (bstr sx) (bstr [32, 124, 32])) + realA.slen (bstr sy)).ble 9223372036854775807) (some (sv (realA.cat (realA.cat (bstr sx) (bstr [32, 124, 32])) (bstr sy)), [])) none) none = _
    simp only [r_slen, r_cat, cat_bs]
    refine (br_ble (by simp only [bstr_size, List.length_cons, List.length_nil]; omega) _ _).trans ?_
    refine (br_ble (by simp only [bstr_size, List.length_append, List.length_cons, List.length_nil]; omega) _ _).trans ?_
    rfl
theorem Text_ok (t : Tr) (h : rightB t 0 = true) (hlen : (txt t).length ≤ 1000000000000) : D.ask (.fn 25) [.agg (eTr t)] [] = some (sv (bstr (txt t)), []) := by
 have g1 := Right_ok Kt L t (right_wz _ t 0 (Nat.lt_succ_self _) h)
 have g2 := text_ok K Kt L Ke S _ t 0 (Nat.lt_succ_self _) h hlen
 rw [h] at g1
 obtain ⟨k, l, r, op, p, q, ks⟩ := t
 simp only [eTr] at g1 g2 ⊢
 refine K.fn' hn25 _ rfl ((e25 ..).trans ?_)
 refine (askK_of g1 _).trans ?_
 simp only [ND]
 refine (askK_of g2 _).trans ?_
 rfl
end
end Go.Proofs.YtlmhajfbpplpoaaGreat
namespace Go.Proofs.YtlmhajfbpplpoaaGreat
open Go.RowKit
def hs3 : Hints := []
noncomputable def mf3 : MFn := mfD Tryz.prog entsC hs3 false false 3
def hn3 : Hnt := ⟨[(14, (.bool, [])), (15, (.tup [.ls, .agg [.int .i64, .int .i64], .int .i64], [])), (16, (.tup [.ls, .agg [.int .i64, .int .i64], .int .i64], [])), (17, (.tup [.agg [.int .i64, .ls, .ls, .int .i64, .str, .str, .ls], .agg [.int .i64, .int .i64], .int .i64], [])), (18, (.tup [.agg [.int .i64, .ls, .ls, .int .i64, .str, .str, .ls], .agg [.int .i64, .int .i64], .int .i64], [])), (19, (.bool, [])), (20, (.bool, []))], [], [(45, [.int .i64, .int .i64]), (46, [.int .i64, .int .i64]), (60, [.int .i64, .int .i64]), (61, [.int .i64, .int .i64]), (65, [.int .i64, .ls, .ls, .int .i64, .str, .str, .ls]), (66, [.int .i64, .ls, .ls, .int .i64, .str, .str, .ls])]⟩
theorem e3 (A : Ar) (D : Orc) (x0 : ByteArray) : fnK A D ownC hn3 .n 3 mf3 [sv x0] [] =
 askK D (Key.fn 14) [] [] fun r o =>
 unBool r fun b =>
 unEnd o <|
 br b
 (askK D (Key.fn 15) [sv x0] [] fun r1 o1 =>
 unTup r1 fun cs =>
 cLs cs fun xs l =>
 unCons l fun c l1 =>
 unAgg c fun cs1 =>
 cInt IntKind.i64 cs1 fun n l2 =>
 cInt IntKind.i64 l2 fun n1 l3 =>
 unNil l3 <|
 cInt IntKind.i64 l1 fun n2 l4 =>
 unNil l4 <|
 unEnd o1 <|
 askK D (Key.fn 16) [sv x0] [] fun r2 o2 =>
 unTup r2 fun cs2 =>
 cLs cs2 fun xs1 l5 =>
 unCons l5 fun c1 l6 =>
 unAgg c1 fun cs3 =>
 cInt IntKind.i64 cs3 fun n3 l7 =>
 cInt IntKind.i64 l7 fun n4 l8 =>
 unNil l8 <|
 cInt IntKind.i64 l6 fun n5 l9 =>
 unNil l9 <|
 unEnd o2 <|
 askK D (Key.fn 17) [sv x0] [] fun r3 o3 =>
 unTup r3 fun cs4 =>
 unCons cs4 fun c2 l10 =>
 unAgg c2 fun cs5 =>
 cInt IntKind.i64 cs5 fun n6 l11 =>
 cLs l11 fun xs2 l12 =>
 cLs l12 fun xs3 l13 =>
 cInt IntKind.i64 l13 fun n7 l14 =>
 cStr l14 fun s l15 =>
 cStr l15 fun s1 l16 =>
 cLs l16 fun xs4 l17 =>
 unNil l17 <|
 unCons l10 fun c3 l18 =>
 unAgg c3 fun cs6 =>
 cInt IntKind.i64 cs6 fun n8 l19 =>
 cInt IntKind.i64 l19 fun n9 l20 =>
 unNil l20 <|
 cInt IntKind.i64 l18 fun n10 l21 =>
 unNil l21 <|
 unEnd o3 <|
 askK D (Key.fn 18) [sv x0] [] fun r4 o4 =>
 unTup r4 fun cs7 =>
 unCons cs7 fun c4 l22 =>
 unAgg c4 fun cs8 =>
 cInt IntKind.i64 cs8 fun n11 l23 =>
 cLs l23 fun xs5 l24 =>
 cLs l24 fun xs6 l25 =>
 cInt IntKind.i64 l25 fun n12 l26 =>
 cStr l26 fun s2 l27 =>
 cStr l27 fun s3 l28 =>
 cLs l28 fun xs7 l29 =>
 unNil l29 <|
 unCons l22 fun c5 l30 =>
 unAgg c5 fun cs9 =>
 cInt IntKind.i64 cs9 fun n13 l31 =>
 cInt IntKind.i64 l31 fun n14 l32 =>
 unNil l32 <|
 cInt IntKind.i64 l30 fun n15 l33 =>
 unNil l33 <|
 unEnd o4 <|
 br (A.eq n2 n5)
 (br (A.band (A.eq n n3) (A.band (A.eq n1 n4) true))
 (askK D (Key.fn 19) [AV.ls xs, AV.ls xs1] [] fun r5 o5 =>
 unBool r5 fun b1 =>
 unEnd o5 <|
 br b1
 (br (A.eq n10 n15)
 (br (A.band (A.eq n8 n13) (A.band (A.eq n9 n14) true))
 (askK D (Key.fn 20) [AV.agg [iv n6, AV.ls xs2, AV.ls xs3, iv n7, sv s, sv s1, AV.ls xs4], AV.agg [iv n11, AV.ls xs5, AV.ls xs6, iv n12, sv s2, sv s3, AV.ls xs7]] [] fun r6 o6 =>
 unBool r6 fun b2 =>
 unEnd o6 <|
 br b2
 (some ((bv true, [])))
 (some ((bv false, []))))
 (some ((bv false, []))))
 (some ((bv false, []))))
 (some ((bv false, []))))
 (some ((bv false, []))))
 (some ((bv false, []))))
 (some ((bv false, []))) := by kernel_rfl
end Go.Proofs.YtlmhajfbpplpoaaGreat
namespace Go.Proofs.YtlmhajfbpplpoaaGreat
open Go.RowKit

theorem pcondP_wf (s : List UInt8) : WfT (pcondP s).1 := by
 unfold pcondP
 split
 ·exact T0_wf
 ·exact condP_wf _ _ _ _
section
variable {D : Orc}
end
end Go.Proofs.YtlmhajfbpplpoaaGreat
namespace Go.Proofs.YtlmhajfbpplpoaaGreat
open Go.RowKit

section
variable {D : Orc}
theorem twice_ok (K : Knows ownC tabEa D) (Kb : Knows ownC tabEb D) (L : NameF D) (Kw : Knows ownC tabWa D) (Kx : Knows ownC tabWb D) (A : LexA D) (Ks : Knows ownC tabSa D) (Kt : Knows ownC tabTa D) (N : LexN D) (Ktx : Knows ownC tabTx D) (S : SumF D) (Kl : Knows ownC tabLc D)
  (ha : D.ask (.fn 14) [] [] = some (bv true, [])) (s : ByteArray) (hs : s.size ≤ 9223372036854775807) : D.ask (.fn 5) [sv s] [] = some (bv true, []) := by
 refine Kl.fn' hn5 _ rfl ((e5 ..).trans ?_)
 refine (askK_of ha _).trans ?_
 simp only [ND, r_slen]
 by_cases h4 : s.size ≤ 4000
 ·refine (br_ltF (by omega)).trans ?_
  have g := parseCond_ok K Kb L Kw Kx A s hs
  have wf := pcondP_wf s.data.toList
  have hr := pcond_right (s := s.data.toList)
  have hline := pcond_line (s := s.data.toList)
  rw [size_list] at h4
  unfold wholeA at g
  generalize pcondP s.data.toList = P at g wf hr hline
  obtain ⟨x, ln, co, e⟩ := P
  by_cases he : e = 0
  ·subst he
   obtain ⟨hr, hlen⟩ := hr rfl
   simp only at hr hlen
   have e1 : ifOk 0 x = x := rfl
   simp only [e1] at g wf
   have g1 := Text_ok Ktx Kt N K S x hr (by omega)
   have g2 := parseCond_ok K Kb L Kw Kx A (bstr (txt x)) (by rw [bstr_size]; omega)
   rw [bstr_data, pcond_back hr (by omega)] at g2
   have g3 := Right_ok Kt N x (right_wz _ x 0 (Nat.lt_succ_self _) hr)
   rw [hr] at g3
   have g4 := same_ok Ks _ x (Nat.lt_succ_self _) wf
   unfold wholeA at g2
   simp only [e1] at g2
   revert g g1 g2 g3 g4
   generalize txt x = tx
   obtain ⟨k, l, r, o, p, q, ks⟩ := x
   intro g g1 g3 g4 g2
   simp only [eTr] at g g1 g2 g3 g4
   refine (askK_of g _).trans ?_
   simp only [ND]
   refine (br_eqT rfl).trans ?_
   refine (askK_of g1 _).trans ?_
   simp only [ND]
   refine (askK_of g2 _).trans ?_
   simp only [ND]
   refine (askK_of g3 _).trans ?_
   simp only [ND]
   refine (br_eqT rfl).trans ?_
   refine (askK_of g4 _).trans ?_
   simp only [ND]
   refine (askK_of g1 _).trans ?_
   simp only [ND]
   refine (br_seqT rfl).trans ?_
   rfl
  ·have e1 : ifOk e x = T0 := by unfold ifOk; rw [if_neg he]
   have hl : 1 ≤ ln := hline he
   simp only [e1] at g
   have g4 := same_ok Ks _ T0 (Nat.lt_succ_self _) T0_wf
   simp only [T0, eTr, eTrs, List.map_nil] at g g4
   refine (askK_of g _).trans ?_
   simp only [ND]
   refine (br_eqF (by omega)).trans ?_
   rw [r_le, decide_eq_true (show (1 : Int) ≤ (ln : Int) by omega)]
   refine (br_t _ _).trans ?_
   refine (askK_of g4 _).trans ?_
   rfl
 ·refine (br_ltT (by omega)).trans ?_
  rfl
end
end Go.Proofs.YtlmhajfbpplpoaaGreat
