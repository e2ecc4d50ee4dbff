/-
  The text of a right tree, as tokens. No program in sight.
  Signs ahead and brackets of properties, nested: what the lexer and the parser make of them. No program in sight.
  What expr's tests of trees come to.
  Functions of the program as trees: what a call comes to.
  ExprDeep's law.
  What ltl's parser comes to: its small functions.
  What ltl's parser comes to: its jobs.
  Functions of the program as trees: what a call comes to.
  What the reference's parser of properties comes to.
  Whole texts as properties: the program's and the reference's Parse.
  Which properties are right. No program in sight.
  What ltl's tests of trees come to.
-/
import Derived.Test.YtlmhajfbpplpoaaGreatVBG
import Derived.Test.YtlmhajfbpplpoaaGreatVBH
import Derived.Test.YtlmhajfbpplpoaaGreatVBC
import Derived.Test.YtlmhajfbpplpoaaGreatVAU
import Derived.Test.YtlmhajfbpplpoaaGreatVAS
import Derived.Test.YtlmhajfbpplpoaaGreatVBA
import Derived.Test.YtlmhajfbpplpoaaGreatVBE
set_option linter.unusedSectionVars false
set_option linter.unusedSimpArgs false
set_option linter.unusedVariables false
namespace Go.Proofs.YtlmhajfbpplpoaaGreat
open Go.RowKit

theorem gap_sp (l : List UInt8) : gap false (32 :: l) = gap false l + 1 := by
 show (if _ then _ else _) = _
 rw [if_neg (by decide), if_neg (by decide), if_neg (by decide), if_pos (by decide)]
def StopB (rest : List UInt8) : Prop := rest = [] ∨ ∃ c r, rest = c :: r ∧ (c = 32 ∨ c = 41)
def StopN (rest : List UInt8) : Prop := rest = [] ∨ ∃ c r, rest = c :: r ∧ (c = 32 ∨ c = 41 ∨ c = 42)
theorem StopB.n {rest : List UInt8} (h : StopB rest) : StopN rest := by
 rcases h with h | ⟨c, r, h, h2⟩
 ·exact .inl h
 ·exact .inr ⟨c, r, h, by rcases h2 with h2 | h2 <;> simp [h2]⟩
def HdB (s : List UInt8) : Prop := ∃ d r, s = d :: r ∧ (lowB d = true ∨ digB d = true ∨ d = 45 ∨ d = 40 ∨ d = 33)
theorem two_hd {c d : UInt8} (hd : lowB d = true ∨ digB d = true ∨ d = 45 ∨ d = 40 ∨ d = 33) : twoB c d = false := by
 have : d.toNat ≠ 62 ∧ d.toNat ≠ 61 ∧ d.toNat ≠ 46 := by
  unfold lowB digB at hd
  simp only [Bool.and_eq_true, decide_eq_true_eq] at hd
  rcases hd with h | h | rfl | rfl | rfl
  ·omega
  ·omega
  ·decide
  ·decide
  ·decide
 unfold twoB sgnN
 rw [if_neg (fun h => this.1 h.2), if_neg (fun h => this.2.1 h.2), if_neg (fun h => this.2.1 h.2), if_neg (fun h => this.2.1 h.2), if_neg (fun h => this.2.1 h.2), if_neg (fun h => this.2.2 h.2)]
 split <;> rfl
theorem HdB.app {s : List UInt8} (h : HdB s) (r : List UInt8) : HdB (s ++ r) := by
 obtain ⟨d, r', rfl, h⟩ := h
 exact ⟨d, r' ++ r, rfl, h⟩
theorem HdB.two {s : List UInt8} (h : HdB s) (c : UInt8) : s = [] ∨ ∃ d r, s = d :: r ∧ twoB c d = false := by
 obtain ⟨d, r, rfl, h⟩ := h
 exact .inr ⟨d, r, rfl, two_hd h⟩
inductive ShapeT : Tr → Nat → Prop where
 | tt (d : Nat) : ShapeT (.mk 0 [] [] 0 (bstr []) (bstr []) []) d
 | ff (d : Nat) : ShapeT (.mk 1 [] [] 0 (bstr []) (bstr []) []) d
 | cmp (d : Nat) {l r : List Mo} {op : Int} (hl : rsB l = true) (hr : rsB r = true) (h1 : 0 ≤ op) (h2 : op ≤ 5) : ShapeT (.mk 2 l r op (bstr []) (bstr []) []) d
 | no (d : Nat) {x : Tr} (hd : upD (brk 3 0 x.kind) (d + 1) ≤ 60) (h : rightB x (upD (brk 3 0 x.kind) (d + 1)) = true) : ShapeT (.mk 3 [] [] 0 (bstr []) (bstr []) [x]) d
 | bin (d : Nat) {k : Int} {x y : Tr} (hk : k = 4 ∨ k = 5) (hd : upD (brk k 0 x.kind) d ≤ 60) (h : rightB x (upD (brk k 0 x.kind) d) = true) (gd : upD (brk k 1 y.kind) d ≤ 60) (g : rightB y (upD (brk k 1 y.kind) d) = true) : ShapeT (.mk k [] [] 0 (bstr []) (bstr []) [x, y]) d
end Go.Proofs.YtlmhajfbpplpoaaGreat
namespace Go.Proofs.YtlmhajfbpplpoaaGreat
open Go.RowKit

def opnB (b : Nat) : List UInt8 := if b = 0 then [40] else if b = 1 then [33] else if b = 2 then [88, 32] else if b = 3 then [71, 32] else [70, 32]
def opnC (b : Nat) : UInt8 := if b = 0 then 40 else if b = 1 then 33 else if b = 2 then 88 else if b = 3 then 71 else 70
def opnK (b : Nat) : Nat := if b = 0 then 2 else if b = 1 then 2 else 4
def opnL (b : Nat) : Nat := if b = 0 then 1 else if b = 1 then 1 else 2
def opnT (b : Nat) : Int := if b = 1 then 3 else if b = 2 then 8 else if b = 3 then 9 else 10
def cntN : List Nat → Nat
 | [] => 0
 | b :: r => (if b = 0 then 1 else 0) + cntN r
def lnestT : List Nat → Nat → Nat → List Tk
 | [], m, co => ⟨1, [116, 114, 117, 101], 1, co⟩ :: closes m (co + 4)
 | b :: r, m, co => ⟨opnK b, [opnC b], 1, co⟩ :: lnestT r m (co + opnL b)
def lnestS (bs : List Nat) (m : Nat) : List UInt8 := bs.flatMap opnB ++ ([116, 114, 117, 101] ++ List.replicate m 41)
def lnestX : List Nat → Tr
 | [] => lmk 0 []
 | 0 :: r => lnestX r
 | (b + 1) :: r => lmk (opnT (b + 1)) [lnestX r]
theorem opn_cases (b : Nat) : b = 0 ∨ b = 1 ∨ b = 2 ∨ b = 3 ∨ (opnB b = [70, 32] ∧ opnC b = 70 ∧ opnK b = 4 ∧ opnL b = 2 ∧ opnT b = 10 ∧ 0 < b) := by
 by_cases h0 : b = 0; · simp [h0]
 by_cases h1 : b = 1; · simp [h1]
 by_cases h2 : b = 2; · simp [h2]
 by_cases h3 : b = 3; · simp [h3]
 refine .inr (.inr (.inr (.inr ⟨?_, ?_, ?_, ?_, ?_, by omega⟩)))
 ·unfold opnB; rw [if_neg h0, if_neg h1, if_neg h2, if_neg h3]
 ·unfold opnC; rw [if_neg h0, if_neg h1, if_neg h2, if_neg h3]
 ·unfold opnK; rw [if_neg h0, if_neg h1]
 ·unfold opnL; rw [if_neg h0, if_neg h1]
 ·unfold opnT; rw [if_neg h1, if_neg h2, if_neg h3]
theorem lexL_sp (l : List UInt8) (p : Nat × Nat) : lexL (32 :: l) p = lexL l (adv1 p 32) := by
 rw [lexL_eq (32 :: l), lexL_eq l, gap_sp]
 rw [show List.drop (gap false l + 1) (32 :: l) = List.drop (gap false l) l from rfl]
 have e1 : adv p (List.take (gap false l + 1) (32 :: l)) = adv (adv1 p 32) (List.take (gap false l) l) := by
  rw [List.take_succ_cons]; rfl
 have e2 : List.drop (gap false l + 1) (32 :: l) = List.drop (gap false l) l := by rw [List.drop_succ_cons]
 rw [e1]
 cases ht : tok1 (l.drop (gap false l)) with
 | fin => rfl
 | err e => rfl
 | tok k m =>
  simp only
  rw [show gap false l + 1 + m = (gap false l + m) + 1 by omega, List.drop_succ_cons]
theorem lex_big (c : UInt8) (l : List UInt8) (co : Nat) (h1 : gap false (c :: 32 :: l) = 0) (h2 : tok1 (c :: 32 :: l) = .tok 4 1) (h3 : c.toNat ≠ 10) : lexL (c :: 32 :: l) (1, co) = (lexL l (1, co + 2)).more ⟨4, [c], 1, co⟩ := by
 rw [lexL_eq, h1]
 simp only [List.drop_zero, List.take_zero, h2, adv, List.foldl_nil, List.drop_one, List.tail_cons, List.take_succ_cons, List.foldl_cons, adv1, if_neg h3, Nat.zero_add]
 rw [lexL_sp]
 rfl
theorem lnest_head (bs : List Nat) (m : Nat) : ∃ d l, lnestS bs m = d :: l ∧ (d = 40 ∨ d = 33 ∨ d = 116 ∨ d = 88 ∨ d = 71 ∨ d = 70) := by
 cases bs with
 | nil => exact ⟨116, _, rfl, .inr (.inr (.inl rfl))⟩
 | cons b r =>
  unfold lnestS
  rw [List.flatMap_cons]
  rcases opn_cases b with rfl | rfl | rfl | rfl | ⟨e, _⟩
  ·exact ⟨_, _, rfl, .inl rfl⟩
  ·exact ⟨_, _, rfl, .inr (.inl rfl)⟩
  ·exact ⟨_, _, rfl, .inr (.inr (.inr (.inl rfl)))⟩
  ·exact ⟨_, _, rfl, .inr (.inr (.inr (.inr (.inl rfl))))⟩
  ·rw [e]; exact ⟨_, _, rfl, .inr (.inr (.inr (.inr (.inr rfl))))⟩
theorem lnestS_cons (b : Nat) (r : List Nat) (m : Nat) : lnestS (b :: r) m = opnB b ++ lnestS r m := by
 unfold lnestS
 rw [List.flatMap_cons, List.append_assoc]
theorem lex_lnest : ∀ (bs : List Nat) (m co : Nat), lexL (lnestS bs m) (1, co) = .ok (lnestT bs m co)
 | [], m, co => lex_true m co
 | b :: r, m, co => by
  obtain ⟨d, l, hd, hd2⟩ := lnest_head r m
  have ih := lex_lnest r m
  rw [lnestS_cons, hd] at *
  have one : ∀ c : UInt8, (c = 40 ∨ c = 33) → lexL ([c] ++ d :: l) (1, co) = (lexL (d :: l) (1, co + 1)).more ⟨2, [c], 1, co⟩ := fun c hc => by
   refine lex_one c (d :: l) co ?_ ?_ ?_
   ·rcases hc with rfl | rfl <;> rfl
   ·rw [tok1_cons, sgn_two]
    rcases hd2 with rfl | rfl | rfl | rfl | rfl | rfl <;> rcases hc with rfl | rfl <;> rfl
   ·rcases hc with rfl | rfl <;> decide
  have big : ∀ c : UInt8, (c = 88 ∨ c = 71 ∨ c = 70) → lexL ([c, 32] ++ d :: l) (1, co) = (lexL (d :: l) (1, co + 2)).more ⟨4, [c], 1, co⟩ := fun c hc => by
   refine lex_big c (d :: l) co ?_ ?_ ?_
   ·rcases hc with rfl | rfl | rfl <;> rfl
   ·rcases hc with rfl | rfl | rfl <;> rfl
   ·rcases hc with rfl | rfl | rfl <;> decide
  unfold lnestT
  rcases opn_cases b with rfl | rfl | rfl | rfl | ⟨e1, e2, e3, e4, _⟩
  ·exact (one 40 (.inl rfl)).trans (by rw [ih]; rfl)
  ·exact (one 33 (.inr rfl)).trans (by rw [ih]; rfl)
  ·exact (big 88 (.inl rfl)).trans (by rw [ih]; rfl)
  ·exact (big 71 (.inr (.inl rfl))).trans (by rw [ih]; rfl)
  ·rw [e1, e2, e3, e4]
   exact (big 70 (.inr (.inr rfl))).trans (by rw [ih]; rfl)
def sumN : List Nat → Nat
 | [] => 0
 | b :: r => opnL b + sumN r
theorem opnB_len (b : Nat) : (opnB b).length = opnL b := by
 rcases opn_cases b with rfl | rfl | rfl | rfl | ⟨e1, e2, e3, e4, _⟩
 ·rfl
 ·rfl
 ·rfl
 ·rfl
 ·rw [e1, e4]; rfl
theorem opnL_le (b : Nat) : 1 ≤ opnL b ∧ opnL b ≤ 2 := by
 rcases opn_cases b with rfl | rfl | rfl | rfl | ⟨e1, e2, e3, e4, _⟩
 ·decide
 ·decide
 ·decide
 ·decide
 ·omega
theorem flat_len : ∀ bs : List Nat, (bs.flatMap opnB).length = sumN bs
 | [] => rfl
 | b :: r => by rw [List.flatMap_cons, List.length_append, opnB_len, flat_len r]; rfl
theorem sumN_le : ∀ bs : List Nat, sumN bs ≤ 2 * bs.length
 | [] => Nat.le_refl _
 | b :: r => by
  have := sumN_le r
  have := opnL_le b
  unfold sumN
  rw [List.length_cons]
  omega
theorem cntN_le : ∀ bs : List Nat, cntN bs ≤ bs.length
 | [] => Nat.le_refl _
 | b :: r => by
  have := cntN_le r
  unfold cntN
  rw [List.length_cons]
  split <;> omega
theorem lnestS_len (bs : List Nat) (m : Nat) : (lnestS bs m).length = sumN bs + 4 + m := by
 unfold lnestS
 rw [List.length_append, flat_len, List.length_append, List.length_replicate]
 show _ + (4 + m) = _
 omega
theorem lexAll_lnest (bs : List Nat) (m : Nat) (h : 2 * bs.length + 4 + m ≤ 16384) : lexAll (lnestS bs m) = .ok (lnestT bs m 1) := by
 unfold lexAll
 have := sumN_le bs
 rw [if_neg (by rw [lnestS_len]; omega)]
 exact lex_lnest bs m 1
section
variable {ts : List Tk} {vars : List ByteArray} {kn : Bool} {ps : List Pr}
theorem lcloses_isT {i m co : Nat} (h : ts.drop i = closes m co) (s : List UInt8) (hs : s ≠ [41] ∧ s ≠ []) : isT ts i s = false := by
 cases m with
 | zero =>
  rw [isT_drop h]
  rw [decide_eq_false (fun e => hs.2 e.symm)]
  rfl
 | succ m =>
  rw [isT_drop h]
  rw [decide_eq_false (fun e => hs.1 e.symm)]
  rfl
theorem lpre_open {i b : Nat} {r : List Nat} {m co : Nat} (h : ts.drop i = lnestT (b :: r) m co) : lpreP ts i = (if b = 0 then none else some (opnT b)) ∧ isT ts i [40] = decide (b = 0) := by
 unfold lnestT at h
 have g := isT_drop h
 unfold lpreP
 rw [g, g, g, g, g]
 rcases opn_cases b with rfl | rfl | rfl | rfl | ⟨e1, e2, e3, e4, e5, e6⟩
 ·exact ⟨rfl, rfl⟩
 ·exact ⟨rfl, rfl⟩
 ·exact ⟨rfl, rfl⟩
 ·exact ⟨rfl, rfl⟩
 ·rw [e2, e3, e5, if_neg (show ¬ b = 0 by omega), decide_eq_false (show ¬ b = 0 by omega)]
  exact ⟨rfl, rfl⟩
theorem un_bracket {f i d j e : Nat} {x : Tr} (h : ljP ts vars kn ps f .un i d = (j, 0, x)) (he : ∀ s, s ≠ [41] ∧ s ≠ [] → isT ts j s = false) : ljP ts vars kn ps (f + 4) .prop i d = (j, 0, x) := by
 have h1 : ljP ts vars kn ps (f + 1) .bin i d = (j, 0, x) := by
  unfold ljP
  rw [h]
  unfold thenT
  rw [if_pos rfl]
  simp only
  rw [he [85] (by decide), he [82] (by decide)]
  rfl
 have l1 : ljP ts vars kn ps (f + 1) (.andL x) j d = (j, 0, x) := by
  unfold ljP
  rw [he [38] (by decide)]
  rfl
 have h2 : ljP ts vars kn ps (f + 2) .and i d = (j, 0, x) := by
  have : ljP ts vars kn ps (f + 2) .and i d = thenT (ljP ts vars kn ps (f + 1) .bin i d) fun j x => ljP ts vars kn ps (f + 1) (.andL x) j d := rfl
  rw [this, h1]
  exact l1
 have l2 : ljP ts vars kn ps (f + 2) (.orL x) j d = (j, 0, x) := by
  unfold ljP
  rw [he [124] (by decide)]
  rfl
 have h3 : ljP ts vars kn ps (f + 3) .or i d = (j, 0, x) := by
  have : ljP ts vars kn ps (f + 3) .or i d = thenT (ljP ts vars kn ps (f + 2) .and i d) fun j x => ljP ts vars kn ps (f + 2) (.orL x) j d := rfl
  rw [this, h2]
  exact l2
 have : ljP ts vars kn ps (f + 4) .prop i d = thenT (ljP ts vars kn ps (f + 3) .or i d) fun j x => if isT ts j [45, 62] then thenT (ljP ts vars kn ps (f + 3) .prop (j + 1) d) fun j2 y => (j2, 0, lmk 7 [x, y]) else (j, 0, x) := rfl
 rw [this, h3]
 unfold thenT
 rw [if_pos rfl]
 simp only
 rw [he [45, 62] (by decide)]
 rfl
theorem un_fails {f i d j e : Nat} (h : ljP ts vars kn ps f .un i d = (j, e + 1, T0)) : ljP ts vars kn ps (f + 4) .prop i d = (j, e + 1, T0) := by
 have h1 : ljP ts vars kn ps (f + 1) .bin i d = (j, e + 1, T0) := by
  unfold ljP
  rw [h]
  rfl
 have h2 : ljP ts vars kn ps (f + 2) .and i d = (j, e + 1, T0) := by
  have : ljP ts vars kn ps (f + 2) .and i d = thenT (ljP ts vars kn ps (f + 1) .bin i d) fun j x => ljP ts vars kn ps (f + 1) (.andL x) j d := rfl
  rw [this, h1]
  rfl
 have h3 : ljP ts vars kn ps (f + 3) .or i d = (j, e + 1, T0) := by
  have : ljP ts vars kn ps (f + 3) .or i d = thenT (ljP ts vars kn ps (f + 2) .and i d) fun j x => ljP ts vars kn ps (f + 2) (.orL x) j d := rfl
  rw [this, h2]
  rfl
 have : ljP ts vars kn ps (f + 4) .prop i d = thenT (ljP ts vars kn ps (f + 3) .or i d) fun j x => if isT ts j [45, 62] then thenT (ljP ts vars kn ps (f + 3) .prop (j + 1) d) fun j2 y => (j2, 0, lmk 7 [x, y]) else (j, 0, x) := rfl
 rw [this, h3]
 rfl
theorem lnest_ok : ∀ (bs : List Nat) (i d m co f : Nat), ts.drop i = lnestT bs m co → cntN bs ≤ m → d + bs.length ≤ 60 → 5 * bs.length + 1 ≤ f →
  ljP ts vars kn ps f .un i d = (i + bs.length + 1 + cntN bs, 0, lnestX bs) ∧ ∃ co', ts.drop (i + bs.length + 1 + cntN bs) = closes (m - cntN bs) co'
 | [], i, d, m, co, f, h, hm, hd, hf => by
  obtain ⟨f, rfl⟩ : ∃ k, f = k + 1 := ⟨f - 1, by omega⟩
  unfold lnestT at h
  have g := isT_drop h
  refine ⟨?_, co + 4, by simpa [cntN] using (nx_drop h).2⟩
  have hp : lpreP ts i = none := by
   unfold lpreP
   rw [g, g, g, g]
   rfl
  unfold ljP
  rw [hp, g [40], g [64], g [116, 114, 117, 101]]
  rfl
 | b :: r, i, d, m, co, f, h, hm, hd, hf => by
  rw [List.length_cons] at hd hf
  obtain ⟨f, rfl⟩ : ∃ k, f = k + 6 := ⟨f - 6, by omega⟩
  obtain ⟨hp, h40⟩ := lpre_open h
  unfold lnestT at h
  have hn := (nx_drop h).2
  unfold cntN at hm ⊢
  cases b with
  | zero =>
   rw [if_pos rfl] at hm hp ⊢
   rw [decide_eq_true rfl] at h40
   obtain ⟨ih, co', hc⟩ := lnest_ok r (i + 1) (d + 1) m _ (f + 1) hn (by omega) (by omega) (by omega)
   have hb := un_bracket (e := 0) ih (fun s hs => lcloses_isT hc s hs)
   obtain ⟨k, hk⟩ : ∃ k, m - cntN r = k + 1 := ⟨m - cntN r - 1, by omega⟩
   rw [hk] at hc
   unfold closes at hc
   have e41 := isT_drop hc [41]
   refine ⟨?_, co' + 1, ?_⟩
   ·unfold ljP
    rw [hp, h40]
    simp only
    rw [if_neg (by omega)]
    simp only [if_true]
    rw [hb]
    unfold thenT
    simp only [if_true, e41]
    rw [List.length_cons, show i + 1 + r.length + 1 + cntN r + 1 = i + (r.length + 1) + 1 + (1 + cntN r) by omega]
    rfl
   ·have := (nx_drop hc).2
    rw [List.length_cons, show i + (r.length + 1) + 1 + (1 + cntN r) = i + 1 + r.length + 1 + cntN r + 1 by omega, this]
    congr 1
    omega
  | succ b =>
   rw [if_neg (by omega)] at hm hp ⊢
   rw [decide_eq_false (by omega)] at h40
   obtain ⟨ih, co', hc⟩ := lnest_ok r (i + 1) (d + 1) m _ (f + 5) hn (by omega) (by omega) (by omega)
   refine ⟨?_, co', ?_⟩
   ·unfold ljP
    rw [hp, h40]
    simp only
    rw [if_neg (by omega), ih]
    unfold thenT
    rw [List.length_cons, show i + (r.length + 1) + 1 + (0 + cntN r) = i + 1 + r.length + 1 + cntN r by omega]
    rfl
   ·rw [List.length_cons, show i + (r.length + 1) + 1 + (0 + cntN r) = i + 1 + r.length + 1 + cntN r by omega, hc]
    congr 1
    omega
theorem lnest_deep : ∀ (bs : List Nat) (i d m co f : Nat), ts.drop i = lnestT bs m co → d ≤ 60 → 60 < d + bs.length → 5 * bs.length + 1 ≤ f → ljP ts vars kn ps f .un i d = (i + (60 - d), 102, T0)
 | [], i, d, m, co, f, h, hd, hd2, hf => by simp at hd2; omega
 | b :: r, i, d, m, co, f, h, hd, hd2, hf => by
  rw [List.length_cons] at hd2 hf
  obtain ⟨f, rfl⟩ : ∃ k, f = k + 6 := ⟨f - 6, by omega⟩
  obtain ⟨hp, h40⟩ := lpre_open h
  unfold lnestT at h
  have hn := (nx_drop h).2
  by_cases h60 : d = 60
  ·subst h60
   unfold ljP
   rw [hp, h40]
   cases b <;> rfl
  ·cases b with
   | succ b =>
    have ih := lnest_deep r (i + 1) (d + 1) m _ (f + 5) hn (by omega) (by omega) (by omega)
    rw [if_neg (by omega)] at hp
    unfold ljP
    rw [hp]
    simp only
    rw [if_neg (by omega), ih]
    unfold thenT failT
    rw [if_neg (by simp), show i + 1 + (60 - (d + 1)) = i + (60 - d) by omega]
   | zero =>
    have ih := lnest_deep r (i + 1) (d + 1) m _ (f + 1) hn (by omega) (by omega) (by omega)
    have hb := un_fails ih
    rw [if_pos rfl] at hp
    rw [decide_eq_true rfl] at h40
    unfold ljP
    rw [hp, h40]
    simp only
    rw [if_neg (by omega)]
    simp only [if_true]
    rw [hb]
    unfold thenT failT
    rw [if_neg (by simp), show i + 1 + (60 - (d + 1)) = i + (60 - d) by omega]
end
theorem closes_len : ∀ m co, (closes m co).length = m + 1
 | 0, co => rfl
 | m + 1, co => by rw [closes, List.length_cons, closes_len m]
theorem lnestT_len : ∀ (bs : List Nat) (m co : Nat), (lnestT bs m co).length = bs.length + m + 2
 | [], m, co => by rw [lnestT, List.length_cons, closes_len]; simp
 | b :: r, m, co => by rw [lnestT, List.length_cons, lnestT_len r]; simp; omega
theorem lnest_at : ∀ (bs : List Nat) (m co n : Nat), n < bs.length → ∃ t, (lnestT bs m co)[n]? = some t ∧ t.ln = 1 ∧ t.co = co + sumN (bs.take n)
 | [], m, co, n, h => by simp at h
 | b :: r, m, co, 0, h => ⟨_, rfl, rfl, rfl⟩
 | b :: r, m, co, n + 1, h => by
  obtain ⟨t, h1, h2, h3⟩ := lnest_at r m (co + opnL b) n (by simpa using h)
  refine ⟨t, by rw [lnestT, List.getElem?_cons_succ, h1], h2, ?_⟩
  rw [h3, List.take_succ_cons, sumN]
  omega
def lnestR (bs : List Nat) : Tr × (Nat × Nat × Nat) := if bs.length ≤ 60 then (lnestX bs, 0, 0, 0) else (T0, 1, 1 + sumN (bs.take 60), 102)
theorem lprop_nest (bs : List Nat) (vars : List ByteArray) (kn : Bool) (ps : List Pr) : ((lpropP (lnestT bs (cntN bs) 1) vars kn ps).2.2, endP (lnestT bs (cntN bs) 1) (lpropP (lnestT bs (cntN bs) 1) vars kn ps).1 (lpropP (lnestT bs (cntN bs) 1) vars kn ps).2.1) = lnestR bs := by
 have hl := lnestT_len bs (cntN bs) 1
 unfold lpropP lnestR
 obtain ⟨f, hf⟩ : ∃ f, 8 * (lnestT bs (cntN bs) 1).length + 5 = f + 4 := ⟨8 * (lnestT bs (cntN bs) 1).length + 1, by omega⟩
 rw [hf]
 by_cases h : bs.length ≤ 60
 ·rw [if_pos h]
  obtain ⟨h1, co', h2⟩ := lnest_ok (ts := lnestT bs (cntN bs) 1) (vars := vars) (kn := kn) (ps := ps) bs 0 0 (cntN bs) 1 f rfl (Nat.le_refl _) (by omega) (by omega)
  rw [un_bracket (e := 0) h1 (fun s hs => lcloses_isT h2 s hs)]
  rw [Nat.sub_self] at h2
  unfold closes at h2
  unfold endP
  rw [if_pos rfl, (nx_drop h2).1]
  rfl
 ·rw [if_neg h]
  have h1 := lnest_deep (ts := lnestT bs (cntN bs) 1) (vars := vars) (kn := kn) (ps := ps) bs 0 0 (cntN bs) 1 f rfl (by omega) (by omega) (by omega)
  rw [un_fails h1]
  obtain ⟨t, h2, h3, h4⟩ := lnest_at bs (cntN bs) 1 60 (by omega)
  unfold endP
  rw [if_neg (by simp)]
  simp only [Nat.zero_add, Nat.sub_zero]
  unfold nx
  rw [h2]
  simp only [h3, h4]
end Go.Proofs.YtlmhajfbpplpoaaGreat
namespace Go.Proofs.YtlmhajfbpplpoaaGreat
open Go.RowKit

section
variable {D : Orc}
variable (K : Knows ownC tabTa D)
include K
theorem bare_ok (t : Tr) : D.ask (.fn 45) [.agg (eTr t)] [] = some (bv (bareB t), []) := by
 obtain ⟨k, l, r, op, p, q, ks⟩ := t
 refine K.fn' hn45 _ rfl ((e45 ..).trans ?_)
 unfold bareB
 rw [lenR_map, lenR_map]
 simp only [r_eq, r_seq, br_if, decide_eq_true_eq, ci0]
 by_cases h1 : l.length = 0 <;> by_cases h2 : r.length = 0 <;> by_cases h3 : op = 0 <;> by_cases h4 : p = bstr [] <;> by_cases h5 : q = bstr [] <;> simp [h1, h2, h3, h4, h5]
theorem treecmp_ok (L : LexN D) (t : Tr) (hz : WzT t) : D.ask (.fn 46) [.agg (eTr t)] [] = some (bv (cmpB t), []) := by
 obtain ⟨k, l, r, op, p, q, ks⟩ := t
 obtain ⟨hl, hr, hk, zl, zr, _⟩ := hz
 have g1 := rightSum_ok K L l zl hl
 have g2 := rightSum_ok K L r zr hr
 refine K.fn' hn46 _ rfl ((e46 ..).trans ?_)
 unfold cmpB
 rw [eTrs_map, lenR_map]
 by_cases h0 : k = 2
 ·refine (br_eqT h0).trans ?_
  refine (askK_of g1 _).trans ?_
  simp only [ND]
  cases rsB l with
  | false => simp [h0, ND]
  | true =>
   simp only [ND]
   refine (askK_of g2 _).trans ?_
   simp only [ND]
   cases rsB r with
   | false => simp [h0, ND]
   | true =>
    simp only [ND, r_le, r_eq, r_seq, br_if, decide_eq_true_eq, ci0]
    by_cases h3 : 0 ≤ op <;> by_cases h4 : op ≤ 5 <;> by_cases h5 : p = bstr [] <;> by_cases h6 : q = bstr [] <;> by_cases h7 : ks.length = 0 <;> simp [h0, h3, h4, h5, h6, h7]
 ·refine (br_eqF h0).trans ?_
  simp [h0]
omit K in
theorem kids_mem {x : Tr} {ks : List Tr} (h : x ∈ ks) : SizeOf.sizeOf x < SizeOf.sizeOf ks := List.sizeOf_lt_of_mem h
def boxT (t : Tr) : ABlk := ABlk.mk (eTr t) true false
end
end Go.Proofs.YtlmhajfbpplpoaaGreat
namespace Go.Proofs.YtlmhajfbpplpoaaGreat
open Go.RowKit
def hs7 : Hints := [⟨56, [true, true, false, false, false, true, true, true], [], [], [(1, ([true, false, false, false, false, true, true], ([], [])))]⟩]
noncomputable def mf7 : MFn := mfD Tryz.prog entsC hs7 false false 7
def hn7 : Hnt := ⟨[(14, (.bool, [])), (17, (.tup [.agg [.int .i64, .ls, .ls, .int .i64, .str, .str, .ls], .agg [.int .i64, .int .i64], .int .i64], [])), (24, (.bool, []))], [(0, [(1, ([.int .i64, .str, .str], []))])], [(46, [.int .i64, .int .i64]), (53, [.int .i64, .ls, .ls, .int .i64, .str, .str, .ls])]⟩
theorem e7 (A : Ar) (D : Orc) (x0 : Int) (x1 : Int) : fnK A D ownC hn7 .n 7 mf7 [iv x0, iv x1] [] =
 askK D (Key.fn 14) [] [] fun r o =>
 unBool r fun b =>
 unEnd o <|
 br b
 (askK D (Key.lp 7 0) [iv (A.bits BinOp.and IntKind.i64 x0 127), iv x1, sv (bstr []), sv (bstr []), iv 0] [] fun r1 o1 =>
 unTup r1 fun cs =>
 unCons cs fun c l =>
 br (axIs 1 c)
 (cInt IntKind.i64 l fun n l1 =>
 cStr l1 fun s l2 =>
 cStr l2 fun s1 l3 =>
 unNil l3 <|
 unEnd o1 <|
 br ((A.slen s + A.slen (bstr [116, 114, 117, 101])).ble 9223372036854775807) (br ((A.slen (A.cat s (bstr [116, 114, 117, 101])) + A.slen s1).ble 9223372036854775807) (askK D (Key.fn 17) [sv (A.cat (A.cat s (bstr [116, 114, 117, 101])) s1)] [] fun r2 o2 =>
 unTup r2 fun cs1 =>
 unCons cs1 fun c1 l4 =>
 unAgg c1 fun cs2 =>
 cInt IntKind.i64 cs2 fun n1 l5 =>
 cLs l5 fun xs l6 =>
 cLs l6 fun xs1 l7 =>
 cInt IntKind.i64 l7 fun n2 l8 =>
 cStr l8 fun s2 l9 =>
 cStr l9 fun s3 l10 =>
 cLs l10 fun xs2 l11 =>
 unNil l11 <|
 unCons l4 fun c2 l12 =>
 unAgg c2 fun cs3 =>
 cInt IntKind.i64 cs3 fun n3 l13 =>
 cInt IntKind.i64 l13 fun n4 l14 =>
 unNil l14 <|
 cInt IntKind.i64 l12 fun n5 l15 =>
 unNil l15 <|
 unEnd o2 <|
 br (A.lt 60 n)
 (br (A.eq n5 102)
 (br (A.band (A.eq n3 1) (A.band (A.eq n4 61) true))
 (some ((bv true, [])))
 (some ((bv false, []))))
 (some ((bv false, []))))
 (br (A.eq n5 0)
 (askK D (Key.fn 24) [AV.agg [iv n1, AV.ls xs, AV.ls xs1, iv n2, sv s2, sv s3, AV.ls xs2]] [] fun r3 o3 =>
 unBool r3 fun b1 =>
 unEnd o3 <|
 br b1
 (some ((bv true, [])))
 (some ((bv false, []))))
 (some ((bv false, []))))) none) none)
 (none))
 (some ((bv false, []))) := by kernel_rfl

end Go.Proofs.YtlmhajfbpplpoaaGreat
namespace Go.Proofs.YtlmhajfbpplpoaaGreat
open Go.RowKit

theorem r_and127 (x : Int) : ∃ i : Nat, realA.bits .and .i64 x 127 = (i : Int) ∧ i ≤ 127 := by
 show ∃ i : Nat, IntKind.i64.wrap ((BitVec.ofInt 64 x &&& BitVec.ofInt 64 127).toNat : Int) = (i : Int) ∧ i ≤ 127
 have h : (BitVec.ofInt 64 x &&& BitVec.ofInt 64 127).toNat ≤ 127 := by
  rw [BitVec.toNat_and]
  exact Nat.le_trans Nat.and_le_right (by decide)
 refine ⟨_, ?_, h⟩
 rw [IntKind.wrap_i64]
 omega
theorem cat_bs (a b : List UInt8) : bstr a ++ bstr b = bstr (a ++ b) := by
 rw [cat_bstr, bstr_data, bstr_data]
section
variable {D : Orc}
end
end Go.Proofs.YtlmhajfbpplpoaaGreat
namespace Go.Proofs.YtlmhajfbpplpoaaGreat
open Go.RowKit

structure Sy where
 vars : List ByteArray
 s2 : List (List AV)
 s3 : Int
 s4 : List (List AV)
 s5 : Bool
 s6 : List (List AV)
 s7 : Bool
 s8 : List (List AV)
 ps : List Pr
 s10 : List (List AV)
def eSy (y : Sy) : List AV := [.ls (y.vars.map eS), .ls y.s2, iv y.s3, .ls y.s4, bv y.s5, .ls y.s6, bv y.s7, .ls y.s8, .ls (y.ps.map ePr), .ls y.s10]
def eLp (y : Sy) : AV := .agg (.ptr 0 0 :: eSy y)
structure PreT (ts : List Tk) : Prop where
 sg : ∀ i, (nx ts i).text = [33] ∨ (nx ts i).text = [40] → (nx ts i).kind = 2
 bg : ∀ i, (nx ts i).text = [88] ∨ (nx ts i).text = [71] ∨ (nx ts i).text = [70] → (nx ts i).kind = 4
theorem br_leT {a b : Int} (h : a ≤ b) {x y : KR} : br (realA.le a b) x y = x := by rw [r_le, decide_eq_true h]; rfl
theorem br_leF {a b : Int} (h : ¬ a ≤ b) {x y : KR} : br (realA.le a b) x y = y := by rw [r_le, decide_eq_false h]; rfl
theorem lfind_idx (s : ByteArray) : ∀ ps : List Pr, match (ps.map (·.name)).findIdx? (s = ·) with
  | none => lfindP ps s = none
  | some k => ∃ p, ps[k]? = some p ∧ p.name = s ∧ lfindP ps s = some p
 | [] => rfl
 | p :: r => by
  have ih := lfind_idx s r
  rw [List.map_cons, List.findIdx?_cons]
  unfold lfindP at ih ⊢
  by_cases h : s = p.name
  ·rw [if_pos (by simpa using h)]
   exact ⟨p, rfl, h.symm, by rw [List.find?_cons, decide_eq_true h.symm]⟩
  ·rw [if_neg (by simpa using h)]
   have h' : ¬ p.name = s := fun e => h e.symm
   rw [List.find?_cons, decide_eq_false h']
   cases e : (r.map (·.name)).findIdx? (s = ·) with
   | none => rw [e] at ih; exact ih
   | some k =>
    rw [e] at ih
    obtain ⟨q, h1, h2, h3⟩ := ih
    exact ⟨q, by simpa using h1, h2, h3⟩
theorem nidx_some {s : ByteArray} {xs : List ByteArray} {k : Nat} (h : xs.findIdx? (s = ·) = some k) : xs[k]? = some s := by
 obtain ⟨h1, h2, _⟩ := List.findIdx?_eq_some_iff_getElem.1 h
 have h2 : s = xs[k] := by simpa using h2
 rw [List.getElem?_eq_getElem h1, ← h2]
theorem nidx_none {s : ByteArray} {xs : List ByteArray} (h : xs.findIdx? (s = ·) = none) : s ∉ xs := fun hm => by
 have := List.findIdx?_eq_none_iff.1 h s hm
 simp at this
theorem nidx_mem {s : ByteArray} {xs : List ByteArray} {k : Nat} (h : xs.findIdx? (s = ·) = some k) : s ∈ xs := List.mem_of_getElem? (nidx_some h)
theorem eS_len1 (s : ByteArray) : (eS s).length = 1 := rfl
def preI : Option Int → Int
 | some k => k
 | none => -1
theorem preI_le {ts : List Tk} (i : Nat) : (0 ≤ preI (lpreP ts i)) ↔ (lpreP ts i).isSome := by
 unfold lpreP
 repeat' split
 all_goals simp [preI]
theorem lpreP_open {ts : List Tk} {i : Nat} {k : Int} (h : lpreP ts i = some k) : (nx ts i).text ≠ [40] ∧ isT ts i [40] = false := by
 have e : (nx ts i).text ≠ [40] := by
  intro e
  unfold lpreP isT at h
  rw [e] at h
  simp at h
 refine ⟨e, ?_⟩
 unfold isT
 rw [decide_eq_false e]
 rfl
theorem isT_sg {ts : List Tk} (P : PreT ts) (i : Nat) : isT ts i [40] = (decide ((nx ts i).kind = 2) && decide ((nx ts i).text = [40])) := by
 unfold isT
 by_cases h : (nx ts i).text = [40]
 ·simp [h, P.sg i (.inr h)]
 ·simp [h]
section
variable {D : Orc}
theorem ltree_ok (Kq : Knows ownC tabTq D) (k : Int) (ks : List Tr) : D.ask (.fn 126) [iv k, .ls (ks.map eTr)] [] = some (.agg (eTr (lmk k ks)), []) := by
 refine Kq.fn' hn126 _ rfl ((e126 ..).trans ?_)
 unfold lmk eTr
 rw [eTrs_map]
 rfl
theorem lprefix_ok (Kq : Knows ownC tabTq D) {ts : List Tk} (P : PreT ts) (i : Nat) : D.ask (.fn 265) [.agg (eTk (nx ts i))] [] = some (iv (preI (lpreP ts i)), []) := by
 have h1 := P.sg i
 have h2 := P.bg i
 refine Kq.fn' hn265 _ rfl ((e265 ..).trans ?_)
 unfold lpreP isT
 simp only [ci0, ci1, ci2, ci3, ci4, ci5, ci6, r_lt, r_le, r_eq, r_seq, r_slen, r_cat, r_beq, br_if, bstr_inj]
 generalize (nx ts i).kind = k at *
 generalize (nx ts i).text = s at *
 by_cases h33 : s = [33]
 ·have := h1 (.inl h33); subst this; subst h33; rfl
 by_cases h88 : s = [88]
 ·have := h2 (.inl h88); subst this; subst h88; rfl
 by_cases h71 : s = [71]
 ·have := h2 (.inr (.inl h71)); subst this; subst h71; rfl
 by_cases h70 : s = [70]
 ·have := h2 (.inr (.inr h70)); subst this; subst h70; rfl
 simp only [h33, h88, h71, h70, decide_false, Bool.false_and, Bool.false_eq_true, if_false]
 by_cases hk2 : k = 2
 ·simp [hk2, preI]
 ·by_cases hk4 : k = 4
  ·simp [hk4, preI]
  ·simp [hk2, hk4, preI]
theorem lprocs_lp (Kq : Knows ownC tabTq D) (ps : List Pr) (hp : ps.length ≤ 1000000) : ∀ (n i : Nat) (out : List ByteArray), ps.length - i = n → out.length + n ≤ 1000000 → D.ask (.lp 232 0) [.sl 0 0 out.length 1, .ls (ps.map ePr), iv (ps.length : Int), iv (i : Int)] [ABlk.mk (rowC eS out) true true]
  = some (.tup [iv 0, .sl 1 0 (out ++ (ps.drop i).map (·.name)).length 1], [.del, .set (ABlk.mk (rowC eS (out ++ (ps.drop i).map (·.name))) true true)]) := by
 intro n
 induction n with
 | zero =>
  intro i out hi ho
  refine Kq.lp' hn232 _ rfl (by kernel_rfl) ((e232_0 ..).trans ?_)
  rw [show ps.drop i = [] from List.drop_eq_nil_of_le (by omega), List.map_nil, List.append_nil]
  refine (br_ltF (by omega)).trans ?_
  rfl
 | succ n ih =>
  intro i out hi ho
  have hlt : i < ps.length := by omega
  have ih := ih (i + 1) (out ++ [ps[i].name]) (by omega) (by simp; omega)
  rw [show ps.drop i = ps[i] :: ps.drop (i + 1) from List.drop_eq_getElem_cons hlt]
  rw [List.append_assoc, List.length_append, List.length_singleton] at ih
  refine Kq.lp' hn232 _ rfl (by kernel_rfl) ((e232_0 ..).trans ?_)
  refine (br_ltT (by omega)).trans ?_
  rw [unI_n, nthK_some (List.getElem?_eq_getElem hlt)]
  have hf : fitsB (out.length + 1) 16 = true := fits_small (by omega) (by omega)
  have hb1 : Nat.ble (0 + out.length * 1) (rowC eS out).length = true := ble_row eS_len1 out (by omega)
  have e3 : ∀ s, List.drop 0 (List.take (0 + out.length * 1) (rowC eS out)) ++ [sv s] = rowC eS (out ++ [s]) := fun s => by
   rw [List.drop_zero, rowC_all eS_len1 out (by omega)]
   exact rowC_snoc eS out s
  simp only [ePr, ND]
  rw [add1 (by omega), hf, hb1, e3]
  refine (br_t _ _).trans ?_
  refine (br_t _ _).trans ?_
  refine (askK_of ih _).trans ?_
  rfl
theorem lprocs_ok (Kq : Knows ownC tabTq D) (y : Sy) (hp : y.ps.length ≤ 1000000) : D.ask (.fn 232) [.agg (eSy y)] [] = some (.ls ((y.ps.map (·.name)).map eS), []) := by
 refine Kq.fn' hn232 _ rfl ((e232 ..).trans ?_)
 rw [lenR_map]
 have g := lprocs_lp Kq y.ps hp _ 0 [] rfl (by simpa using hp)
 refine (askK_of g _).trans ?_
 simp only [ND, List.drop_zero, List.nil_append]
 rw [ble_row eS_len1 _ (by omega)]
 refine (br_t _ _).trans ?_
 rw [chunk_of eS_len1 _ rfl]
variable (K : Knows ownC tabEa D) (Kq : Knows ownC tabTq D) (L : NameF D) {ts : List Tk} (H : Toks ts) (y : Sy)
include K Kq L H
def lnamedP (ts : List Tk) (xs : List ByteArray) (i : Nat) : Nat × Nat × Int := if isN ts i = false then (i, 101, 0) else match xs.findIdx? (ltkB ts i = ·) with
 | none => (i, 110, 0)
 | some k => (i + 1, 0, (k : Int))
theorem lnamed_ok (kn : Bool) (xs : List ByteArray) (hx : xs.length < 4611686018427387904) (i : Nat) (hi : i ≤ ts.length) : D.ask (.fn 276) [eLp y, .ls (xs.map eS)] [cuB ts y.vars kn i]
  = some (.tup [iv (lnamedP ts xs i).2.2, iv ((lnamedP ts xs i).2.1 : Int)], [.set (cuB ts y.vars kn (lnamedP ts xs i).1)]) := by
 have hl := H.len
 refine Kq.fn' hn276 _ rfl ((e276 ..).trans ?_)
 refine (askK_of (at_ok K ts y.vars kn i (by omega) (by omega)) _).trans ?_
 unfold lnamedP isN
 simp only [eTk, cuB, ND]
 by_cases h : (nx ts i).kind = 1
 ·refine (br_eqT (by omega)).trans ?_
  refine (askK_of (L.name _ (H.short i)) _).trans ?_
  simp only [ND, h, decide_true, Bool.true_and]
  cases nameB (nx ts i).text with
  | false => rfl
  | true =>
   refine (br_t _ _).trans ?_
   rw [if_neg (by simp)]
   refine (askK_of (index_ok K xs hx _) _).trans ?_
   simp only [ND]
   unfold ltkB
   cases xs.findIdx? (bstr (nx ts i).text = ·) with
   | none => rfl
   | some k =>
    refine (br_ltF (show ¬ (k : Int) < 0 by omega)).trans ?_
    rw [add1 (by omega)]
    rfl
 ·refine (br_eqF (by omega)).trans ?_
  simp only [h, decide_false, Bool.false_and, if_true]
  rfl
theorem lplace_ok (kn : Bool) (hp : y.ps.length ≤ 1000000) (hq : ∀ p ∈ y.ps, p.locs.length < 4611686018427387904) (i : Nat) (hi : i ≤ ts.length) : D.ask (.fn 266) [eLp y] [cuB ts y.vars kn i]
  = some (.tup [.agg (eTr (lplaceP ts y.ps i).2.2), iv ((lplaceP ts y.ps i).2.1 : Int)], [.set (cuB ts y.vars kn (lplaceP ts y.ps i).1)]) := by
 have hl := H.len
 refine Kq.fn' hn266 _ rfl ((e266 ..).trans ?_)
 refine (askK_of (lprocs_ok Kq y hp) _).trans ?_
 simp only [ND]
 have g := lnamed_ok K Kq L H y kn (y.ps.map (·.name)) (by rw [List.length_map]; omega) i hi
 refine (askK_of g _).trans ?_
 simp only [cuB, ND]
 unfold lplaceP lnamedP
 have hf := lfind_idx (ltkB ts i) y.ps
 cases h1 : isN ts i with
 | false => rfl
 | true =>
  have l1 := H.isN h1
  simp only [Bool.true_eq_false, if_false]
  cases h2 : (y.ps.map (·.name)).findIdx? (ltkB ts i = ·) with
  | none =>
   rw [h2] at hf
   rw [hf]
   rfl
  | some k =>
   rw [h2] at hf
   obtain ⟨p, f1, f2, f3⟩ := hf
   rw [f3]
   refine (br_eqT rfl).trans ?_
   refine (askK_of (want_ok K ts y.vars kn (i + 1) (by omega) (by omega) [46]) _).trans ?_
   simp only [cuB, ND]
   cases h3 : isT ts (i + 1) [46] with
   | false => rfl
   | true =>
    have l2 := H.isT h3
    simp only [if_true, Bool.true_eq_false, if_false]
    refine (br_eqT rfl).trans ?_
    rw [unI_n, nthK_some f1]
    simp only [ePr, ND]
    have g := lnamed_ok K Kq L H y kn p.locs (hq p (List.mem_of_getElem? f1)) (i + 1 + 1) (by omega)
    refine (askK_of g _).trans ?_
    simp only [cuB, ND]
    unfold lnamedP
    cases h4 : isN ts (i + 2) with
    | false => rfl
    | true =>
     simp only [Bool.true_eq_false, if_false]
     cases h5 : p.locs.findIdx? (ltkB ts (i + 2) = ·) with
     | none =>
      rw [if_pos (nidx_none h5)]
      rfl
     | some m =>
      rw [if_neg (fun e => e (nidx_mem h5))]
      refine (br_eqT rfl).trans ?_
      rw [unI_n, nthK_some (nidx_some h5)]
      simp only [eS, ND, f2]
      rfl
theorem lcompare_ok (Kb : Knows ownC tabEb D) (kn : Bool) (hv : y.vars.length < 4611686018427387904) (i : Nat) (hi : i ≤ ts.length) : ∃ q : Nat × Nat × Tr, D.ask (.fn 267) [eLp y] [cuB ts y.vars kn i] = some (.tup [.agg (eTr q.2.2), iv (q.2.1 : Int)], [.set (cuB ts y.vars kn q.1)])
  ∧ q = (if isT ts i [116, 114, 117, 101] then (i + 1, 0, lmk 0 []) else if isT ts i [102, 97, 108, 115, 101] then (i + 1, 0, lmk 1 []) else cmpP ts y.vars kn i) := by
 have hl := H.len
 refine ⟨_, ?_, rfl⟩
 refine Kq.fn' hn267 _ rfl ((e267 ..).trans ?_)
 refine (askK_of (take_ok K ts y.vars kn i (by omega) (by omega) _) _).trans ?_
 simp only [cuB, ND]
 cases h1 : isT ts i [116, 114, 117, 101] with
 | true =>
  refine (br_t _ _).trans ?_
  refine (askK_of (ltree_ok Kq 0 []) _).trans ?_
  rfl
 | false =>
  refine (br_f _ _).trans ?_
  simp only [Bool.false_eq_true, if_false]
  refine (askK_of (take_ok K ts y.vars kn i (by omega) (by omega) _) _).trans ?_
  simp only [cuB, ND]
  cases h2 : isT ts i [102, 97, 108, 115, 101] with
  | true =>
   refine (br_t _ _).trans ?_
   refine (askK_of (ltree_ok Kq 1 []) _).trans ?_
   rfl
  | false =>
   refine (br_f _ _).trans ?_
   simp only [Bool.false_eq_true, if_false]
   refine (askK_of (compare_ok K Kb L H y.vars kn hv i hi) _).trans ?_
   rcases cmpP ts y.vars kn i with ⟨j, e, ⟨k, l, r, o, p, q, ks⟩⟩
   rfl
end
end Go.Proofs.YtlmhajfbpplpoaaGreat
namespace Go.Proofs.YtlmhajfbpplpoaaGreat
open Go.RowKit
set_option linter.unusedSectionVars false
section
variable {D : Orc}
def lpB (y : Sy) : ABlk := ABlk.mk (.ptr 0 0 :: eSy y) true false
def okL (D : Orc) (ts : List Tk) (y : Sy) (kn : Bool) : LJ → Nat → Nat → Nat × Nat × Tr → Prop
 | .un, i, d, q => ∃ z, (q.2.1 = 0 → z = q.2.2) ∧ D.ask (.fn 252) [eLp y, iv (d : Int)] [cuB ts y.vars kn i] = some (.tup [.agg (eTr z), iv (q.2.1 : Int)], [.set (cuB ts y.vars kn q.1)])
 | .bin, i, d, q => ∃ z, (q.2.1 = 0 → z = q.2.2) ∧ D.ask (.fn 230) [eLp y, iv (d : Int)] [cuB ts y.vars kn i] = some (.tup [.agg (eTr z), iv (q.2.1 : Int)], [.set (cuB ts y.vars kn q.1)])
 | .and, i, d, q => ∃ z, (q.2.1 = 0 → z = q.2.2) ∧ D.ask (.fn 186) [eLp y, iv (d : Int)] [cuB ts y.vars kn i] = some (.tup [.agg (eTr z), iv (q.2.1 : Int)], [.set (cuB ts y.vars kn q.1)])
 | .or, i, d, q => ∃ z, (q.2.1 = 0 → z = q.2.2) ∧ D.ask (.fn 125) [eLp y, iv (d : Int)] [cuB ts y.vars kn i] = some (.tup [.agg (eTr z), iv (q.2.1 : Int)], [.set (cuB ts y.vars kn q.1)])
 | .prop, i, d, q => ∃ z, (q.2.1 = 0 → z = q.2.2) ∧ D.ask (.fn 70) [eLp y, iv (d : Int)] [cuB ts y.vars kn i] = some (.tup [.agg (eTr z), iv (q.2.1 : Int)], [.set (cuB ts y.vars kn q.1)])
 | .andL x, i, d, q => ∃ z, (q.2.1 = 0 → z = q.2.2) ∧ D.ask (.lp 185 0) [eLp y, sv (bstr [38]), iv 4, iv (d : Int), .fn (.func 230) [eLp y] [], .ptr 1 0, .ptr 2 0, .ptr 3 0, iv 0] [cuB ts y.vars kn i, lpB y, trB T0, trB x]
   = some (.tup [iv 0, eLp y, .ptr 2 0, .ptr 3 0, iv (q.2.1 : Int)], [.set (cuB ts y.vars kn q.1), .del, .set (trB T0), .set (trB z)])
 | .orL x, i, d, q => ∃ z, (q.2.1 = 0 → z = q.2.2) ∧ D.ask (.lp 185 0) [eLp y, sv (bstr [124]), iv 5, iv (d : Int), .fn (.func 186) [eLp y] [], .ptr 1 0, .ptr 2 0, .ptr 3 0, iv 0] [cuB ts y.vars kn i, lpB y, trB T0, trB x]
   = some (.tup [iv 0, eLp y, .ptr 2 0, .ptr 3 0, iv (q.2.1 : Int)], [.set (cuB ts y.vars kn q.1), .del, .set (trB T0), .set (trB z)])
theorem lrow_errb (Kq : Knows ownC tabTq D) (ts : List Tk) (y : Sy) (kn : Bool) (i d e : Nat) (x : Tr) (he : e ≠ 0) : D.ask (.lp 185 0) [eLp y, sv (bstr [38]), iv 4, iv (d : Int), .fn (.func 230) [eLp y] [], .ptr 1 0, .ptr 2 0, .ptr 3 0, iv (e : Int)] [cuB ts y.vars kn i, lpB y, trB T0, trB x]
  = some (.tup [iv 0, eLp y, .ptr 2 0, .ptr 3 0, iv (e : Int)], [.set (cuB ts y.vars kn i), .del, .set (trB T0), .set (trB x)]) := by
 obtain ⟨k, l, r, o, p, q, ks⟩ := x
 refine Kq.lp' hn185 _ rfl (by kernel_rfl) ((e185b_0 ..).trans ?_)
 refine (br_eqF (by omega)).trans ?_
 rfl
theorem lrow_okb (Kq : Knows ownC tabTq D) (ts : List Tk) (y : Sy) (kn : Bool) (i d j e : Nat) (x : Tr) (q : Nat × Nat × Tr)
  (h1 : D.ask (.fn 230) [eLp y, iv (d : Int)] [cuB ts y.vars kn i] = some (.tup [.agg (eTr x), iv (e : Int)], [.set (cuB ts y.vars kn j)]))
  (h2 : e ≠ 0 → q = (j, e, T0)) (h3 : e = 0 → okL D ts y kn (.andL x) j d q) :
  ∃ z, (q.2.1 = 0 → z = q.2.2) ∧ D.ask (.fn 185) [eLp y, sv (bstr [38]), iv 4, iv (d : Int), .fn (.func 230) [eLp y] []] [cuB ts y.vars kn i] = some (.tup [.agg (eTr z), iv (q.2.1 : Int)], [.set (cuB ts y.vars kn q.1)]) := by
 by_cases he : e = 0
 ·subst he
  obtain ⟨z, hz, h4⟩ := h3 rfl
  refine ⟨z, hz, ?_⟩
  refine Kq.fn' hn185 _ rfl ((e185b ..).trans ?_)
  refine (askK_of h1 _).trans ?_
  obtain ⟨k, l, r, o, p, v, ks⟩ := x
  simp only [eTr, cuB, ND]
  refine (askK_of h4 _).trans ?_
  obtain ⟨k, l, r, o, p, v, ks⟩ := z
  rfl
 ·refine ⟨x, fun h => ?_, ?_⟩
  ·rw [h2 he] at h
   exact absurd h he
  refine Kq.fn' hn185 _ rfl ((e185b ..).trans ?_)
  refine (askK_of h1 _).trans ?_
  obtain ⟨k, l, r, o, p, v, ks⟩ := x
  simp only [eTr, cuB, ND]
  rw [h2 he]
  refine (askK_of (lrow_errb Kq ts y kn j d e (.mk k l r o p v ks) he) _).trans ?_
  rfl
theorem lrow_erra (Kq : Knows ownC tabTq D) (ts : List Tk) (y : Sy) (kn : Bool) (i d e : Nat) (x : Tr) (he : e ≠ 0) : D.ask (.lp 185 0) [eLp y, sv (bstr [124]), iv 5, iv (d : Int), .fn (.func 186) [eLp y] [], .ptr 1 0, .ptr 2 0, .ptr 3 0, iv (e : Int)] [cuB ts y.vars kn i, lpB y, trB T0, trB x]
  = some (.tup [iv 0, eLp y, .ptr 2 0, .ptr 3 0, iv (e : Int)], [.set (cuB ts y.vars kn i), .del, .set (trB T0), .set (trB x)]) := by
 obtain ⟨k, l, r, o, p, q, ks⟩ := x
 refine Kq.lp' hn185 _ rfl (by kernel_rfl) ((e185a_0 ..).trans ?_)
 refine (br_eqF (by omega)).trans ?_
 rfl
theorem lrow_oka (Kq : Knows ownC tabTq D) (ts : List Tk) (y : Sy) (kn : Bool) (i d j e : Nat) (x : Tr) (q : Nat × Nat × Tr)
  (h1 : D.ask (.fn 186) [eLp y, iv (d : Int)] [cuB ts y.vars kn i] = some (.tup [.agg (eTr x), iv (e : Int)], [.set (cuB ts y.vars kn j)]))
  (h2 : e ≠ 0 → q = (j, e, T0)) (h3 : e = 0 → okL D ts y kn (.orL x) j d q) :
  ∃ z, (q.2.1 = 0 → z = q.2.2) ∧ D.ask (.fn 185) [eLp y, sv (bstr [124]), iv 5, iv (d : Int), .fn (.func 186) [eLp y] []] [cuB ts y.vars kn i] = some (.tup [.agg (eTr z), iv (q.2.1 : Int)], [.set (cuB ts y.vars kn q.1)]) := by
 by_cases he : e = 0
 ·subst he
  obtain ⟨z, hz, h4⟩ := h3 rfl
  refine ⟨z, hz, ?_⟩
  refine Kq.fn' hn185 _ rfl ((e185a ..).trans ?_)
  refine (askK_of h1 _).trans ?_
  obtain ⟨k, l, r, o, p, v, ks⟩ := x
  simp only [eTr, cuB, ND]
  refine (askK_of h4 _).trans ?_
  obtain ⟨k, l, r, o, p, v, ks⟩ := z
  rfl
 ·refine ⟨x, fun h => ?_, ?_⟩
  ·rw [h2 he] at h
   exact absurd h he
  refine Kq.fn' hn185 _ rfl ((e185a ..).trans ?_)
  refine (askK_of h1 _).trans ?_
  obtain ⟨k, l, r, o, p, v, ks⟩ := x
  simp only [eTr, cuB, ND]
  rw [h2 he]
  refine (askK_of (lrow_erra Kq ts y kn j d e (.mk k l r o p v ks) he) _).trans ?_
  rfl
variable (K : Knows ownC tabEa D) (Kb : Knows ownC tabEb D) (Kq : Knows ownC tabTq D) (L : NameF D) {ts : List Tk} (H : Toks ts) (P : PreT ts) (y : Sy) (kn : Bool) (hv : y.vars.length < 4611686018427387904) (hp : y.ps.length ≤ 1000000) (hq : ∀ p ∈ y.ps, p.locs.length < 4611686018427387904)
include K Kb Kq L H P hv hp hq
theorem un_step (n : Nat) (ih : ∀ (j : LJ) (i d : Nat), i ≤ ts.length → d ≤ 60 → lneedJ ts j i ≤ n → okL D ts y kn j i d (ljP ts y.vars kn y.ps n j i d)) (i d : Nat) (hi : i ≤ ts.length) (hd : d ≤ 60) (hn : lneedJ ts .un i ≤ n + 1) : okL D ts y kn .un i d (ljP ts y.vars kn y.ps (n + 1) .un i d) := by
 have hl := H.len
 have hle := preI_le (ts := ts) i
 have hsg := isT_sg P i
 have eqn := fun z e j => (fun (h : _ = some (.tup [.agg (eTr z), iv e], [.set (cuB ts y.vars kn j)])) => Kq.fn' hn252 (args := [eLp y, iv (d : Int)]) (bs := [cuB ts y.vars kn i]) _ rfl ((e252 ..).trans ((askK_of (at_ok K ts y.vars kn i (by omega) (by omega)) _).trans h)))
 unfold okL ljP
 dsimp only
 cases hpre : lpreP ts i with
 | some k =>
  obtain ⟨ho, h40⟩ := lpreP_open hpre
  have hlt := lpreP_far H hpre
  rw [hpre] at hle
  have hk : 0 ≤ k := hle.2 rfl
  by_cases h60 : d = 60
  ·subst h60
   rw [if_pos ⟨by simp, rfl⟩]
   refine ⟨T0, fun _ => rfl, eqn _ _ _ ?_⟩
   simp only [eTk, cuB, ND]
   refine (askK_of (lprefix_ok Kq P i) _).trans ?_
   rw [hpre]
   simp only [preI, ND]
   by_cases h2 : (nx ts i).kind = 2
   ·refine (br_eqT (by omega)).trans ?_
    refine (br_seqF (fun e => ho (bstr_inj.1 e))).trans ?_
    refine (br_leT hk).trans ?_
    refine (br_eqT rfl).trans ?_
    rfl
   ·refine (br_eqF (by omega)).trans ?_
    refine (br_leT hk).trans ?_
    refine (br_eqT rfl).trans ?_
    rfl
  ·rw [if_neg (fun e => h60 e.2)]
   have g := ih .un (i + 1) (d + 1) (by omega) (by omega) (by simp only [lneedJ] at hn ⊢; omega)
   revert g
   rcases ljP ts y.vars kn y.ps n .un (i + 1) (d + 1) with ⟨j, e, t⟩
   intro g
   unfold okL at g
   obtain ⟨z, hz, g⟩ := g
   dsimp only at g hz
   have hq2 : (thenT (j, e, t) fun j x => (j, 0, lmk k [x]) : Nat × Nat × Tr).2.1 = e ∧ (thenT (j, e, t) fun j x => (j, 0, lmk k [x]) : Nat × Nat × Tr).1 = j := by
    unfold thenT
    by_cases h0 : e = 0
    ·rw [if_pos h0]; exact ⟨h0.symm, rfl⟩
    ·rw [if_neg h0]; exact ⟨rfl, rfl⟩
   simp only
   rw [hq2.1, hq2.2]
   refine ⟨lmk k [z], fun h => ?_, eqn _ _ _ ?_⟩
   ·unfold thenT
    rw [hz h, if_pos h]
   ·have run : ∀ X, (askK D (.fn 252) [eLp y, iv ((d + 1 : Nat) : Int)] [cuB ts y.vars kn (i + 1)] X = X (.tup [.agg (eTr z), iv (e : Int)]) [.set (cuB ts y.vars kn j)]) := fun X => askK_of g X
    simp only [eTk, cuB, ND]
    refine (askK_of (lprefix_ok Kq P i) _).trans ?_
    rw [hpre, add1 (show i < 4611686018427387904 by omega), add1 (show d < 4611686018427387904 by omega)]
    simp only [preI, ND]
    by_cases h2 : (nx ts i).kind = 2
    ·refine (br_eqT (by omega)).trans ?_
     refine (br_seqF (fun e => ho (bstr_inj.1 e))).trans ?_
     refine (br_leT hk).trans ?_
     refine (br_eqF (by omega)).trans ?_
     refine (br_leT hk).trans ?_
     refine (run _).trans ?_
     obtain ⟨k1, l1, r1, o1, p1, v1, ks1⟩ := z
     simp only [eTr, cuB, ND]
     refine (askK_of (ltree_ok Kq k [.mk k1 l1 r1 o1 p1 v1 ks1]) _).trans ?_
     simp only [lmk, eTr, ND]
     all_goals rfl
    ·refine (br_eqF (by omega)).trans ?_
     refine (br_leT hk).trans ?_
     refine (br_eqF (by omega)).trans ?_
     refine (br_leT hk).trans ?_
     refine (run _).trans ?_
     obtain ⟨k1, l1, r1, o1, p1, v1, ks1⟩ := z
     simp only [eTr, cuB, ND]
     refine (askK_of (ltree_ok Kq k [.mk k1 l1 r1 o1 p1 v1 ks1]) _).trans ?_
     simp only [lmk, eTr, ND]
     all_goals rfl
 | none =>
  cases h40 : isT ts i [40] with
  | true =>
   rw [h40] at hsg
   have hsg := hsg.symm
   simp only [Bool.and_eq_true, decide_eq_true_eq] at hsg
   have hlt := H.isT h40
   by_cases h60 : d = 60
   ·subst h60
    rw [if_pos ⟨by simp, rfl⟩]
    refine ⟨T0, fun _ => rfl, eqn _ _ _ ?_⟩
    simp only [eTk, cuB, ND]
    refine (askK_of (lprefix_ok Kq P i) _).trans ?_
    rw [hpre]
    simp only [preI, ND]
    refine (br_eqT (by omega)).trans ?_
    refine (br_seqT (by rw [hsg.2])).trans ?_
    refine (br_leF (by omega)).trans ?_
    refine (br_eqT rfl).trans ?_
    rfl
   ·rw [if_neg (fun e => h60 e.2)]
    have g := ih .prop (i + 1) (d + 1) (by omega) (by omega) (by simp only [lneedJ] at hn ⊢; omega)
    have f : Far ts (i + 1) _ _ := ljP_far H y.vars kn y.ps n .prop (i + 1) (d + 1) (by omega)
    revert g f
    rcases ljP ts y.vars kn y.ps n .prop (i + 1) (d + 1) with ⟨j, e, t⟩
    intro g f
    have hj : j ≤ ts.length := f.le
    unfold okL at g
    obtain ⟨z, hz, g⟩ := g
    dsimp only at g hz
    simp only [if_true]
    have start : ∀ (R : AV × List BO), ((askK D (.fn 70) [eLp y, iv ((d + 1 : Nat) : Int)] [cuB ts y.vars kn (i + 1)] fun r3 o3 => unTup r3 fun cs3 => unCons cs3 fun c2 l14 => unAgg c2 fun cs4 => cInt IntKind.i64 cs4 fun n6 l15 => cLs l15 fun xs4 l16 => cLs l16 fun xs5 l17 => cInt IntKind.i64 l17 fun n7 l18 => cStr l18 fun s11 l19 => cStr l19 fun s12 l20 => cLs l20 fun xs6 l21 => unNil l21 <| cInt IntKind.i64 l14 fun n8 l22 => unNil l22 <| unOut o3 fun c3 l23 => unSet true false c3 fun cs5 => cLs cs5 fun xs7 l24 => cInt IntKind.i64 l24 fun n9 l25 => cLs l25 fun xs8 l26 => cBool l26 fun b3 l27 => unNil l27 <| unEnd l23 <|
      br (realA.eq n8 0) (askK D (Key.fn 248) [AV.ptr 0 0, sv (bstr [41])] [ABlk.mk [AV.ls xs7, iv n9, AV.ls xs8, bv b3] true false] fun r4 o4 => unInt IntKind.i64 r4 fun n10 => unOut o4 fun c4 l28 => unSet true false c4 fun cs6 => cLs cs6 fun xs9 l29 => cInt IntKind.i64 l29 fun n11 l30 => cLs l30 fun xs10 l31 => cBool l31 fun b4 l32 => unNil l32 <| unEnd l28 <|
       some ((AV.tup [AV.agg [iv n6, AV.ls xs4, AV.ls xs5, iv n7, sv s11, sv s12, AV.ls xs6], iv n10], [BO.set (ABlk.mk [AV.ls xs9, iv n11, AV.ls xs10, bv b4] true false)])))
       (some ((AV.tup [AV.agg [iv n6, AV.ls xs4, AV.ls xs5, iv n7, sv s11, sv s12, AV.ls xs6], iv n8], [BO.set (ABlk.mk [AV.ls xs7, iv n9, AV.ls xs8, bv b3] true false)])))) = some R)
      → D.ask (.fn 252) [eLp y, iv (d : Int)] [cuB ts y.vars kn i] = some R := fun R hR => by
     refine Kq.fn' hn252 _ rfl ((e252 ..).trans ((askK_of (at_ok K ts y.vars kn i (by omega) (by omega)) _).trans ?_))
     simp only [eTk, cuB, ND]
     refine (askK_of (lprefix_ok Kq P i) _).trans ?_
     rw [hpre, add1 (show d < 4611686018427387904 by omega)]
     simp only [preI, ND]
     refine (br_eqT (by omega)).trans ?_
     refine (br_seqT (by rw [hsg.2])).trans ?_
     refine (br_leF (by omega)).trans ?_
     refine (br_eqF (by omega)).trans ?_
     refine (br_leF (by omega)).trans ?_
     refine (askK_of (take_ok K ts y.vars kn i (by omega) (by omega) _) _).trans ?_
     simp only [cuB, ND, h40, if_true]
     exact hR
    unfold thenT
    by_cases he : e = 0
    ·subst he
     obtain rfl := hz rfl
     rw [if_pos rfl]
     dsimp only
     refine ⟨z, fun h => ?_, start _ ?_⟩
     ·by_cases h41 : isT ts j [41] = true
      ·rw [if_pos h41]
      ·rw [if_neg h41] at h
       cases h
     ·refine (askK_of g _).trans ?_
      obtain ⟨k1, l1, r1, o1, p1, v1, ks1⟩ := z
      simp only [eTr, cuB, ND]
      refine (br_eqT rfl).trans ?_
      refine (askK_of (want_ok K ts y.vars kn j (by omega) (by omega) [41]) _).trans ?_
      cases isT ts j [41] <;> rfl
    ·rw [if_neg he]
     refine ⟨z, fun h => absurd h he, start _ ?_⟩
     refine (askK_of g _).trans ?_
     obtain ⟨k1, l1, r1, o1, p1, v1, ks1⟩ := z
     simp only [eTr, cuB, ND]
     refine (br_eqF (by omega)).trans ?_
     rfl
  | false =>
   rw [if_neg (fun e => by simp at e)]
   simp only [Bool.false_eq_true, if_false]
   have start : ∀ (R : AV × List BO), ((askK D (Key.fn 93) [AV.ptr 0 0, sv (bstr [64])] [cuB ts y.vars kn i] fun r3 o3 => unBool r3 fun b3 => unOut o3 fun c2 l14 => unSet true false c2 fun cs3 => cLs cs3 fun xs4 l15 => cInt IntKind.i64 l15 fun n6 l16 => cLs l16 fun xs5 l17 => cBool l17 fun b4 l18 => unNil l18 <| unEnd l14 <|
     br b3 (askK D (Key.fn 266) [eLp y] [ABlk.mk [AV.ls xs4, iv n6, AV.ls xs5, bv b4] true false] fun r4 o4 => unTup r4 fun cs4 => unCons cs4 fun c3 l19 => unAgg c3 fun cs5 => cInt IntKind.i64 cs5 fun n7 l20 => cLs l20 fun xs6 l21 => cLs l21 fun xs7 l22 => cInt IntKind.i64 l22 fun n8 l23 => cStr l23 fun s11 l24 => cStr l24 fun s12 l25 => cLs l25 fun xs8 l26 => unNil l26 <| cInt IntKind.i64 l19 fun n9 l27 => unNil l27 <| unOut o4 fun c4 l28 => unSet true false c4 fun cs6 => cLs cs6 fun xs9 l29 => cInt IntKind.i64 l29 fun n10 l30 => cLs l30 fun xs10 l31 => cBool l31 fun b5 l32 => unNil l32 <| unEnd l28 <|
       some ((AV.tup [AV.agg [iv n7, AV.ls xs6, AV.ls xs7, iv n8, sv s11, sv s12, AV.ls xs8], iv n9], [BO.set (ABlk.mk [AV.ls xs9, iv n10, AV.ls xs10, bv b5] true false)])))
      (askK D (Key.fn 267) [eLp y] [ABlk.mk [AV.ls xs4, iv n6, AV.ls xs5, bv b4] true false] fun r4 o4 => unTup r4 fun cs4 => unCons cs4 fun c3 l19 => unAgg c3 fun cs5 => cInt IntKind.i64 cs5 fun n7 l20 => cLs l20 fun xs6 l21 => cLs l21 fun xs7 l22 => cInt IntKind.i64 l22 fun n8 l23 => cStr l23 fun s11 l24 => cStr l24 fun s12 l25 => cLs l25 fun xs8 l26 => unNil l26 <| cInt IntKind.i64 l19 fun n9 l27 => unNil l27 <| unOut o4 fun c4 l28 => unSet true false c4 fun cs6 => cLs cs6 fun xs9 l29 => cInt IntKind.i64 l29 fun n10 l30 => cLs l30 fun xs10 l31 => cBool l31 fun b5 l32 => unNil l32 <| unEnd l28 <|
       some ((AV.tup [AV.agg [iv n7, AV.ls xs6, AV.ls xs7, iv n8, sv s11, sv s12, AV.ls xs8], iv n9], [BO.set (ABlk.mk [AV.ls xs9, iv n10, AV.ls xs10, bv b5] true false)])))) = some R)
     → D.ask (.fn 252) [eLp y, iv (d : Int)] [cuB ts y.vars kn i] = some R := fun R hR => by
    refine Kq.fn' hn252 _ rfl ((e252 ..).trans ((askK_of (at_ok K ts y.vars kn i (by omega) (by omega)) _).trans ?_))
    simp only [eTk, cuB, ND]
    refine (askK_of (lprefix_ok Kq P i) _).trans ?_
    rw [hpre]
    simp only [preI, ND]
    by_cases h2 : (nx ts i).kind = 2
    ·refine (br_eqT (by omega)).trans ?_
     have ho : (nx ts i).text ≠ [40] := fun e => by
      rw [h40, decide_eq_true h2, decide_eq_true e] at hsg
      cases hsg
     refine (br_seqF (fun e => ho (bstr_inj.1 e))).trans ?_
     refine (br_leF (by omega)).trans ?_
     refine (br_leF (by omega)).trans ?_
     refine (askK_of (take_ok K ts y.vars kn i (by omega) (by omega) _) _).trans ?_
     simp only [cuB, ND, h40, Bool.false_eq_true, if_false]
     exact hR
    ·refine (br_eqF (by omega)).trans ?_
     refine (br_leF (by omega)).trans ?_
     refine (br_leF (by omega)).trans ?_
     refine (askK_of (take_ok K ts y.vars kn i (by omega) (by omega) _) _).trans ?_
     simp only [cuB, ND, h40, Bool.false_eq_true, if_false]
     exact hR
   cases h64 : isT ts i [64] with
   | true =>
    simp only [if_true]
    refine ⟨(lplaceP ts y.ps (i + 1)).2.2, fun _ => rfl, start _ ?_⟩
    refine (askK_of (take_ok K ts y.vars kn i (by omega) (by omega) _) _).trans ?_
    simp only [cuB, ND, h64, if_true]
    have g := lplace_ok K Kq L H y kn hp hq (i + 1) (H.isT h64)
    refine (askK_of g _).trans ?_
    rcases lplaceP ts y.ps (i + 1) with ⟨j, e, ⟨k, l, r, o, p, q, ks⟩⟩
    rfl
   | false =>
    simp only [Bool.false_eq_true, if_false]
    obtain ⟨q, g, hq3⟩ := lcompare_ok K Kq L H y Kb kn hv i hi
    rw [← hq3]
    refine ⟨q.2.2, fun _ => rfl, start _ ?_⟩
    refine (askK_of (take_ok K ts y.vars kn i (by omega) (by omega) _) _).trans ?_
    simp only [cuB, ND, h64, Bool.false_eq_true, if_false]
    refine (askK_of g _).trans ?_
    obtain ⟨j, e, ⟨k, l, r, o, p, q, ks⟩⟩ := q
    rfl
theorem bin_step (n : Nat) (ih : ∀ (j : LJ) (i d : Nat), i ≤ ts.length → d ≤ 60 → lneedJ ts j i ≤ n → okL D ts y kn j i d (ljP ts y.vars kn y.ps n j i d)) (i d : Nat) (hi : i ≤ ts.length) (hd : d ≤ 60) (hn : lneedJ ts .bin i ≤ n + 1) : okL D ts y kn .bin i d (ljP ts y.vars kn y.ps (n + 1) .bin i d) := by
 have hl := H.len
 have g := ih .un i d hi hd (by simp only [lneedJ] at hn ⊢; omega)
 have f : Far ts i _ _ := ljP_far H y.vars kn y.ps n .un i d hi
 unfold okL ljP
 dsimp only
 revert f g
 rcases ljP ts y.vars kn y.ps n .un i d with ⟨j, e, t⟩
 intro g f
 have hj : j ≤ ts.length := f.le
 unfold okL at g
 obtain ⟨z, hz, g⟩ := g
 dsimp only at g hz
 by_cases he : e = 0
 ·subst he
  have hg := f.gt rfl
  obtain rfl := hz rfl
  have e0 : ∀ k, thenT (j, 0, z) k = k j z := fun k => rfl
  rw [e0]
  cases h85 : isT ts j [85] with
  | true =>
   simp only [if_true]
   have hlt := H.isT h85
   have g2 := ih .bin (j + 1) d (by omega) hd (by simp only [lneedJ] at hn ⊢; omega)
   revert g2
   rcases ljP ts y.vars kn y.ps n .bin (j + 1) d with ⟨j2, e2, t2⟩
   intro g2
   unfold okL at g2
   obtain ⟨z2, hz2, g2⟩ := g2
   dsimp only at g2 hz2
   unfold thenT
   refine ⟨lmk 11 [z, z2], fun h => ?_, ?_⟩
   ·by_cases h0 : e2 = 0
    ·rw [hz2 h0, if_pos h0]
    ·rw [if_neg h0] at h
     exact absurd h h0
   have hq2 : (if e2 = 0 then (j2, 0, lmk 11 [z, t2]) else failT (j2, e2, t2) : Nat × Nat × Tr).2.1 = e2 ∧ (if e2 = 0 then (j2, 0, lmk 11 [z, t2]) else failT (j2, e2, t2) : Nat × Nat × Tr).1 = j2 := by
    by_cases h0 : e2 = 0
    ·rw [if_pos h0]; exact ⟨h0.symm, rfl⟩
    ·rw [if_neg h0]; exact ⟨rfl, rfl⟩
   rw [hq2.1, hq2.2]
   refine Kq.fn' hn230 _ rfl ((e230 ..).trans ?_)
   refine (askK_of g _).trans ?_
   obtain ⟨k, l, r, o, p, q, ks⟩ := z
   simp only [eTr, cuB, ND]
   refine (br_eqT rfl).trans ?_
   refine (askK_of (take_ok K ts y.vars kn j (by omega) (by omega) _) _).trans ?_
   simp only [cuB, ND, h85, if_true]
   refine (askK_of g2 _).trans ?_
   obtain ⟨k2, l2, r2, o2, p2, q2, ks2⟩ := z2
   simp only [eTr, cuB, ND]
   refine (askK_of (ltree_ok Kq 11 [.mk k l r o p q ks, .mk k2 l2 r2 o2 p2 q2 ks2]) _).trans ?_
   simp only [lmk, eTr, ND]
   all_goals rfl
  | false =>
   simp only [Bool.false_eq_true, if_false]
   cases h82 : isT ts j [82] with
   | true =>
    simp only [if_true]
    have hlt := H.isT h82
    have g2 := ih .bin (j + 1) d (by omega) hd (by simp only [lneedJ] at hn ⊢; omega)
    revert g2
    rcases ljP ts y.vars kn y.ps n .bin (j + 1) d with ⟨j2, e2, t2⟩
    intro g2
    unfold okL at g2
    obtain ⟨z2, hz2, g2⟩ := g2
    dsimp only at g2 hz2
    unfold thenT
    refine ⟨lmk 12 [z, z2], fun h => ?_, ?_⟩
    ·by_cases h0 : e2 = 0
     ·rw [hz2 h0, if_pos h0]
     ·rw [if_neg h0] at h
      exact absurd h h0
    have hq2 : (if e2 = 0 then (j2, 0, lmk 12 [z, t2]) else failT (j2, e2, t2) : Nat × Nat × Tr).2.1 = e2 ∧ (if e2 = 0 then (j2, 0, lmk 12 [z, t2]) else failT (j2, e2, t2) : Nat × Nat × Tr).1 = j2 := by
     by_cases h0 : e2 = 0
     ·rw [if_pos h0]; exact ⟨h0.symm, rfl⟩
     ·rw [if_neg h0]; exact ⟨rfl, rfl⟩
    rw [hq2.1, hq2.2]
    refine Kq.fn' hn230 _ rfl ((e230 ..).trans ?_)
    refine (askK_of g _).trans ?_
    obtain ⟨k, l, r, o, p, q, ks⟩ := z
    simp only [eTr, cuB, ND]
    refine (br_eqT rfl).trans ?_
    refine (askK_of (take_ok K ts y.vars kn j (by omega) (by omega) _) _).trans ?_
    simp only [cuB, ND, h85, Bool.false_eq_true, if_false]
    refine (askK_of (take_ok K ts y.vars kn j (by omega) (by omega) _) _).trans ?_
    simp only [cuB, ND, h82, if_true]
    refine (askK_of g2 _).trans ?_
    obtain ⟨k2, l2, r2, o2, p2, q2, ks2⟩ := z2
    simp only [eTr, cuB, ND]
    refine (askK_of (ltree_ok Kq 12 [.mk k l r o p q ks, .mk k2 l2 r2 o2 p2 q2 ks2]) _).trans ?_
    simp only [lmk, eTr, ND]
    all_goals rfl
   | false =>
    simp only [Bool.false_eq_true, if_false]
    refine ⟨z, fun _ => rfl, ?_⟩
    refine Kq.fn' hn230 _ rfl ((e230 ..).trans ?_)
    refine (askK_of g _).trans ?_
    obtain ⟨k, l, r, o, p, q, ks⟩ := z
    simp only [eTr, cuB, ND]
    refine (br_eqT rfl).trans ?_
    refine (askK_of (take_ok K ts y.vars kn j (by omega) (by omega) _) _).trans ?_
    simp only [cuB, ND, h85, Bool.false_eq_true, if_false]
    refine (askK_of (take_ok K ts y.vars kn j (by omega) (by omega) _) _).trans ?_
    simp only [cuB, ND, h82, Bool.false_eq_true, if_false]
    all_goals rfl
 ·have e0 : ∀ k, thenT (j, e, t) k = (j, e, T0) := fun k => if_neg he
  rw [e0]
  refine ⟨z, fun h => absurd h he, ?_⟩
  refine Kq.fn' hn230 _ rfl ((e230 ..).trans ?_)
  refine (askK_of g _).trans ?_
  obtain ⟨k, l, r, o, p, q, ks⟩ := z
  simp only [eTr, cuB, ND]
  refine (br_eqF (by omega)).trans ?_
  rfl
theorem prop_step (n : Nat) (ih : ∀ (j : LJ) (i d : Nat), i ≤ ts.length → d ≤ 60 → lneedJ ts j i ≤ n → okL D ts y kn j i d (ljP ts y.vars kn y.ps n j i d)) (i d : Nat) (hi : i ≤ ts.length) (hd : d ≤ 60) (hn : lneedJ ts .prop i ≤ n + 1) : okL D ts y kn .prop i d (ljP ts y.vars kn y.ps (n + 1) .prop i d) := by
 have hl := H.len
 have g := ih .or i d hi hd (by simp only [lneedJ] at hn ⊢; omega)
 have f : Far ts i _ _ := ljP_far H y.vars kn y.ps n .or i d hi
 unfold okL ljP
 dsimp only
 revert f g
 rcases ljP ts y.vars kn y.ps n .or i d with ⟨j, e, t⟩
 intro g f
 have hj : j ≤ ts.length := f.le
 unfold okL at g
 obtain ⟨z, hz, g⟩ := g
 dsimp only at g hz
 by_cases he : e = 0
 ·subst he
  have hg := f.gt rfl
  obtain rfl := hz rfl
  have e0 : ∀ k, thenT (j, 0, z) k = k j z := fun k => rfl
  rw [e0]
  cases h45 : isT ts j [45, 62] with
  | true =>
   simp only [if_true]
   have hlt := H.isT h45
   have g2 := ih .prop (j + 1) d (by omega) hd (by simp only [lneedJ] at hn ⊢; omega)
   revert g2
   rcases ljP ts y.vars kn y.ps n .prop (j + 1) d with ⟨j2, e2, t2⟩
   intro g2
   unfold okL at g2
   obtain ⟨z2, hz2, g2⟩ := g2
   dsimp only at g2 hz2
   unfold thenT
   refine ⟨lmk 7 [z, z2], fun h => ?_, ?_⟩
   ·by_cases h0 : e2 = 0
    ·rw [hz2 h0, if_pos h0]
    ·rw [if_neg h0] at h
     exact absurd h h0
   have hq2 : (if e2 = 0 then (j2, 0, lmk 7 [z, t2]) else failT (j2, e2, t2) : Nat × Nat × Tr).2.1 = e2 ∧ (if e2 = 0 then (j2, 0, lmk 7 [z, t2]) else failT (j2, e2, t2) : Nat × Nat × Tr).1 = j2 := by
    by_cases h0 : e2 = 0
    ·rw [if_pos h0]; exact ⟨h0.symm, rfl⟩
    ·rw [if_neg h0]; exact ⟨rfl, rfl⟩
   rw [hq2.1, hq2.2]
   refine Kq.fn' hn70 _ rfl ((e70 ..).trans ?_)
   refine (askK_of g _).trans ?_
   obtain ⟨k, l, r, o, p, q, ks⟩ := z
   simp only [eTr, cuB, ND]
   refine (br_eqT rfl).trans ?_
   refine (askK_of (take_ok K ts y.vars kn j (by omega) (by omega) _) _).trans ?_
   simp only [cuB, ND, h45, if_true]
   refine (askK_of g2 _).trans ?_
   obtain ⟨k2, l2, r2, o2, p2, q2, ks2⟩ := z2
   simp only [eTr, cuB, ND]
   refine (askK_of (ltree_ok Kq 7 [.mk k l r o p q ks, .mk k2 l2 r2 o2 p2 q2 ks2]) _).trans ?_
   simp only [lmk, eTr, ND]
   all_goals rfl
  | false =>
   simp only [Bool.false_eq_true, if_false]
   refine ⟨z, fun _ => rfl, ?_⟩
   refine Kq.fn' hn70 _ rfl ((e70 ..).trans ?_)
   refine (askK_of g _).trans ?_
   obtain ⟨k, l, r, o, p, q, ks⟩ := z
   simp only [eTr, cuB, ND]
   refine (br_eqT rfl).trans ?_
   refine (askK_of (take_ok K ts y.vars kn j (by omega) (by omega) _) _).trans ?_
   simp only [cuB, ND, h45, Bool.false_eq_true, if_false]
   all_goals rfl
 ·have e0 : ∀ k, thenT (j, e, t) k = (j, e, T0) := fun k => if_neg he
  rw [e0]
  refine ⟨z, fun h => absurd h he, ?_⟩
  refine Kq.fn' hn70 _ rfl ((e70 ..).trans ?_)
  refine (askK_of g _).trans ?_
  obtain ⟨k, l, r, o, p, q, ks⟩ := z
  simp only [eTr, cuB, ND]
  refine (br_eqF (by omega)).trans ?_
  rfl
theorem lloop_stepb (n : Nat) (ih : ∀ (j : LJ) (i d : Nat), i ≤ ts.length → d ≤ 60 → lneedJ ts j i ≤ n → okL D ts y kn j i d (ljP ts y.vars kn y.ps n j i d)) (x : Tr) (i d : Nat) (hi : i ≤ ts.length) (hd : d ≤ 60) (hn : lneedJ ts (.andL x) i ≤ n + 1) : okL D ts y kn (.andL x) i d (ljP ts y.vars kn y.ps (n + 1) (.andL x) i d) := by
 have hl := H.len
 unfold okL ljP
 dsimp only
 obtain ⟨k1, l1, r1, o1, p1, v1, ks1⟩ := x
 cases hT : isT ts i [38] with
 | false =>
  refine ⟨_, fun _ => rfl, ?_⟩
  refine Kq.lp' hn185 _ rfl (by kernel_rfl) ((e185b_0 ..).trans ?_)
  refine (br_eqT rfl).trans ?_
  refine (askK_of (take_ok K ts y.vars kn i (by omega) (by omega) _) _).trans ?_
  simp only [cuB, ND, hT]
  all_goals rfl
 | true =>
  rw [if_pos rfl]
  have hlt := H.isT hT
  have g := ih .bin (i + 1) d (by omega) hd (by simp only [lneedJ] at hn ⊢; omega)
  have f : Far ts (i + 1) _ _ := ljP_far H y.vars kn y.ps n .bin (i + 1) d (by omega)
  revert f g
  rcases ljP ts y.vars kn y.ps n .bin (i + 1) d with ⟨j, e, t⟩
  intro g f
  have hj : j ≤ ts.length := f.le
  have hg : i + 1 ≤ j := f.ge
  unfold thenT
  dsimp only
  unfold okL at g
  obtain ⟨z, hz, g⟩ := g
  dsimp only at g hz
  by_cases he : e = 0
  ·subst he
   rw [if_pos rfl]
   obtain rfl := hz rfl
   obtain ⟨w, hw, h4⟩ := ih (.andL (lmk 4 [.mk k1 l1 r1 o1 p1 v1 ks1, z])) j d hj hd (by simp only [lneedJ] at hn ⊢; omega)
   refine ⟨w, hw, ?_⟩
   refine Kq.lp' hn185 _ rfl (by kernel_rfl) ((e185b_0 ..).trans ?_)
   refine (br_eqT rfl).trans ?_
   refine (askK_of (take_ok K ts y.vars kn i (by omega) (by omega) _) _).trans ?_
   simp only [cuB, ND, hT, if_true]
   refine (askK_of g _).trans ?_
   obtain ⟨k, l, r, o, p, v, ks⟩ := z
   simp only [eTr, cuB, ND]
   refine (br_eqT rfl).trans ?_
   refine (askK_of (ltree_ok Kq 4 [.mk k1 l1 r1 o1 p1 v1 ks1, .mk k l r o p v ks]) _).trans ?_
   simp only [lmk, eTr, ND]
   refine (askK_of h4 _).trans ?_
   obtain ⟨k, l, r, o, p, v, ks⟩ := w
   rfl
  ·rw [if_neg he]
   refine ⟨.mk k1 l1 r1 o1 p1 v1 ks1, fun h => absurd h he, ?_⟩
   refine Kq.lp' hn185 _ rfl (by kernel_rfl) ((e185b_0 ..).trans ?_)
   refine (br_eqT rfl).trans ?_
   refine (askK_of (take_ok K ts y.vars kn i (by omega) (by omega) _) _).trans ?_
   simp only [cuB, ND, hT, if_true]
   refine (askK_of g _).trans ?_
   obtain ⟨k, l, r, o, p, v, ks⟩ := z
   simp only [eTr, cuB, ND]
   refine (br_eqF (by omega)).trans ?_
   refine (askK_of (lrow_errb Kq ts y kn j d e (.mk k1 l1 r1 o1 p1 v1 ks1) he) _).trans ?_
   rfl
theorem lall_stepb (n : Nat) (ih : ∀ (j : LJ) (i d : Nat), i ≤ ts.length → d ≤ 60 → lneedJ ts j i ≤ n → okL D ts y kn j i d (ljP ts y.vars kn y.ps n j i d)) (i d : Nat) (hi : i ≤ ts.length) (hd : d ≤ 60) (hn : lneedJ ts .and i ≤ n + 1) : okL D ts y kn .and i d (ljP ts y.vars kn y.ps (n + 1) .and i d) := by
 have g := ih .bin i d hi hd (by simp only [lneedJ] at hn ⊢; omega)
 have f : Far ts i _ _ := ljP_far H y.vars kn y.ps n .bin i d hi
 have hr : ljP ts y.vars kn y.ps (n + 1) .and i d = thenT (ljP ts y.vars kn y.ps n .bin i d) fun j x => ljP ts y.vars kn y.ps n (.andL x) j d := rfl
 rw [hr]
 revert f g
 rcases ljP ts y.vars kn y.ps n .bin i d with ⟨j, e, t⟩
 intro g f
 have hj : j ≤ ts.length := f.le
 unfold okL at g
 obtain ⟨z, hz, g⟩ := g
 unfold okL thenT
 dsimp only at g hz f ⊢
 obtain ⟨w, hw, hrow⟩ := lrow_okb Kq ts y kn i d j e z (if e = 0 then ljP ts y.vars kn y.ps n (.andL t) j d else failT (j, e, t)) g (fun he => by rw [if_neg he]; rfl) (fun he => by
  have hg := f.gt he
  rw [hz he, if_pos he]
  exact ih (.andL t) j d hj hd (by simp only [lneedJ] at hn ⊢; omega))
 refine ⟨w, hw, ?_⟩
 refine Kq.fn' hn186 _ rfl ((e186 ..).trans ?_)
 refine (askK_of hrow _).trans ?_
 rcases (if e = 0 then ljP ts y.vars kn y.ps n (.andL t) j d else failT (j, e, t)) with ⟨j2, e2, _⟩
 obtain ⟨k, l, r, o, p, v, ks⟩ := w
 rfl
theorem lloop_stepa (n : Nat) (ih : ∀ (j : LJ) (i d : Nat), i ≤ ts.length → d ≤ 60 → lneedJ ts j i ≤ n → okL D ts y kn j i d (ljP ts y.vars kn y.ps n j i d)) (x : Tr) (i d : Nat) (hi : i ≤ ts.length) (hd : d ≤ 60) (hn : lneedJ ts (.orL x) i ≤ n + 1) : okL D ts y kn (.orL x) i d (ljP ts y.vars kn y.ps (n + 1) (.orL x) i d) := by
 have hl := H.len
 unfold okL ljP
 dsimp only
 obtain ⟨k1, l1, r1, o1, p1, v1, ks1⟩ := x
 cases hT : isT ts i [124] with
 | false =>
  refine ⟨_, fun _ => rfl, ?_⟩
  refine Kq.lp' hn185 _ rfl (by kernel_rfl) ((e185a_0 ..).trans ?_)
  refine (br_eqT rfl).trans ?_
  refine (askK_of (take_ok K ts y.vars kn i (by omega) (by omega) _) _).trans ?_
  simp only [cuB, ND, hT]
  all_goals rfl
 | true =>
  rw [if_pos rfl]
  have hlt := H.isT hT
  have g := ih .and (i + 1) d (by omega) hd (by simp only [lneedJ] at hn ⊢; omega)
  have f : Far ts (i + 1) _ _ := ljP_far H y.vars kn y.ps n .and (i + 1) d (by omega)
  revert f g
  rcases ljP ts y.vars kn y.ps n .and (i + 1) d with ⟨j, e, t⟩
  intro g f
  have hj : j ≤ ts.length := f.le
  have hg : i + 1 ≤ j := f.ge
  unfold thenT
  dsimp only
  unfold okL at g
  obtain ⟨z, hz, g⟩ := g
  dsimp only at g hz
  by_cases he : e = 0
  ·subst he
   rw [if_pos rfl]
   obtain rfl := hz rfl
   obtain ⟨w, hw, h4⟩ := ih (.orL (lmk 5 [.mk k1 l1 r1 o1 p1 v1 ks1, z])) j d hj hd (by simp only [lneedJ] at hn ⊢; omega)
   refine ⟨w, hw, ?_⟩
   refine Kq.lp' hn185 _ rfl (by kernel_rfl) ((e185a_0 ..).trans ?_)
   refine (br_eqT rfl).trans ?_
   refine (askK_of (take_ok K ts y.vars kn i (by omega) (by omega) _) _).trans ?_
   simp only [cuB, ND, hT, if_true]
   refine (askK_of g _).trans ?_
   obtain ⟨k, l, r, o, p, v, ks⟩ := z
   simp only [eTr, cuB, ND]
   refine (br_eqT rfl).trans ?_
   refine (askK_of (ltree_ok Kq 5 [.mk k1 l1 r1 o1 p1 v1 ks1, .mk k l r o p v ks]) _).trans ?_
   simp only [lmk, eTr, ND]
   refine (askK_of h4 _).trans ?_
   obtain ⟨k, l, r, o, p, v, ks⟩ := w
   rfl
  ·rw [if_neg he]
   refine ⟨.mk k1 l1 r1 o1 p1 v1 ks1, fun h => absurd h he, ?_⟩
   refine Kq.lp' hn185 _ rfl (by kernel_rfl) ((e185a_0 ..).trans ?_)
   refine (br_eqT rfl).trans ?_
   refine (askK_of (take_ok K ts y.vars kn i (by omega) (by omega) _) _).trans ?_
   simp only [cuB, ND, hT, if_true]
   refine (askK_of g _).trans ?_
   obtain ⟨k, l, r, o, p, v, ks⟩ := z
   simp only [eTr, cuB, ND]
   refine (br_eqF (by omega)).trans ?_
   refine (askK_of (lrow_erra Kq ts y kn j d e (.mk k1 l1 r1 o1 p1 v1 ks1) he) _).trans ?_
   rfl
theorem lall_stepa (n : Nat) (ih : ∀ (j : LJ) (i d : Nat), i ≤ ts.length → d ≤ 60 → lneedJ ts j i ≤ n → okL D ts y kn j i d (ljP ts y.vars kn y.ps n j i d)) (i d : Nat) (hi : i ≤ ts.length) (hd : d ≤ 60) (hn : lneedJ ts .or i ≤ n + 1) : okL D ts y kn .or i d (ljP ts y.vars kn y.ps (n + 1) .or i d) := by
 have g := ih .and i d hi hd (by simp only [lneedJ] at hn ⊢; omega)
 have f : Far ts i _ _ := ljP_far H y.vars kn y.ps n .and i d hi
 have hr : ljP ts y.vars kn y.ps (n + 1) .or i d = thenT (ljP ts y.vars kn y.ps n .and i d) fun j x => ljP ts y.vars kn y.ps n (.orL x) j d := rfl
 rw [hr]
 revert f g
 rcases ljP ts y.vars kn y.ps n .and i d with ⟨j, e, t⟩
 intro g f
 have hj : j ≤ ts.length := f.le
 unfold okL at g
 obtain ⟨z, hz, g⟩ := g
 unfold okL thenT
 dsimp only at g hz f ⊢
 obtain ⟨w, hw, hrow⟩ := lrow_oka Kq ts y kn i d j e z (if e = 0 then ljP ts y.vars kn y.ps n (.orL t) j d else failT (j, e, t)) g (fun he => by rw [if_neg he]; rfl) (fun he => by
  have hg := f.gt he
  rw [hz he, if_pos he]
  exact ih (.orL t) j d hj hd (by simp only [lneedJ] at hn ⊢; omega))
 refine ⟨w, hw, ?_⟩
 refine Kq.fn' hn125 _ rfl ((e125 ..).trans ?_)
 refine (askK_of hrow _).trans ?_
 rcases (if e = 0 then ljP ts y.vars kn y.ps n (.orL t) j d else failT (j, e, t)) with ⟨j2, e2, _⟩
 obtain ⟨k, l, r, o, p, v, ks⟩ := w
 rfl
theorem lj_ok : ∀ (n : Nat) (j : LJ) (i d : Nat), i ≤ ts.length → d ≤ 60 → lneedJ ts j i ≤ n → okL D ts y kn j i d (ljP ts y.vars kn y.ps n j i d) := by
 intro n
 induction n with
 | zero => intro j i d _ _ hn; cases j <;> simp [lneedJ] at hn
 | succ n ih =>
  intro j i d hi hd hn
  cases j with
  | un => exact un_step K Kb Kq L H P y kn hv hp hq n ih i d hi hd hn
  | bin => exact bin_step K Kb Kq L H P y kn hv hp hq n ih i d hi hd hn
  | and => exact lall_stepb K Kb Kq L H P y kn hv hp hq n ih i d hi hd hn
  | or => exact lall_stepa K Kb Kq L H P y kn hv hp hq n ih i d hi hd hn
  | prop => exact prop_step K Kb Kq L H P y kn hv hp hq n ih i d hi hd hn
  | andL x => exact lloop_stepb K Kb Kq L H P y kn hv hp hq n ih x i d hi hd hn
  | orL x => exact lloop_stepa K Kb Kq L H P y kn hv hp hq n ih x i d hi hd hn
end
end Go.Proofs.YtlmhajfbpplpoaaGreat
namespace Go.Proofs.YtlmhajfbpplpoaaGreat
open Go.RowKit
def hs128 : Hints := []
noncomputable def mf128 : MFn := mfD Tryz.prog entsC hs128 false false 128
def hs268 : Hints := []
noncomputable def mf268 : MFn := mfD Tryz.prog entsC hs268 false false 268
def hs192 : Hints := [⟨22, [false, true, true, false, false, true], [], [2], [(0, ([false, false, false, false, true], ([], [2]))), (1, ([], ([], [2])))]⟩]
noncomputable def mf192 : MFn := mfD Tryz.prog entsC hs192 false false 192
def hs269 : Hints := []
noncomputable def mf269 : MFn := mfD Tryz.prog entsC hs269 false false 269
def hs71 : Hints := []
noncomputable def mf71 : MFn := mfD Tryz.prog entsC hs71 false false 71
def hs127 : Hints := [⟨45, [false, false, true, true, true, false, true, true, false, true, true], [], [3, 4, 6, 7, 9], [(1, ([false, false, false, true, false, false, true, true, false, true, true], ([], [4])))]⟩]
noncomputable def mf127 : MFn := mfD Tryz.prog entsC hs127 false false 127
def hs187 : Hints := [⟨45, [false, false, true, true, true, false, true, true, false, true, true], [], [3, 4, 6, 7, 9], [(1, ([false, false, false, true, false, false, true, true, false, true, true], ([], [4])))]⟩]
noncomputable def mf187 : MFn := mfD Tryz.prog entsC hs187 false false 187
def hs231 : Hints := []
noncomputable def mf231 : MFn := mfD Tryz.prog entsC hs231 false false 231
def hs253 : Hints := []
noncomputable def mf253 : MFn := mfD Tryz.prog entsC hs253 false false 253
def hs33 : Hints := []
noncomputable def mf33 : MFn := mfD Tryz.prog entsC hs33 false false 33
noncomputable def tabRl : List (Nat × MFn) := [(128, mf128), (268, mf268), (192, mf192), (269, mf269), (71, mf71), (127, mf127), (187, mf187), (231, mf231), (253, mf253), (33, mf33)]
end Go.Proofs.YtlmhajfbpplpoaaGreat
namespace Go.Proofs.YtlmhajfbpplpoaaGreat
open Go.RowKit
set_option linter.unusedSectionVars false
section
variable {D : Orc}
def sysB (y : Sy) : ABlk := ABlk.mk (eSy y) true false
variable (K : Knows ownC tabRa D) (Kl : Knows ownC tabRl D) (L : RNameF D) {ts : List Tk} (H : Toks ts) (y : Sy) (kn : Bool) (hv : y.vars.length < 4611686018427387904) (hp : y.ps.length ≤ 1000000) (hq : ∀ p ∈ y.ps, p.locs.length < 4611686018427387904)
include K Kl L H hp hq
omit K Kl L H hp hq
variable (hnum : ∀ i, (nx ts i).kind = 3 → (nx ts i).text ≠ [])
include K Kl L H hnum hv hp hq
end
end Go.Proofs.YtlmhajfbpplpoaaGreat
namespace Go.Proofs.YtlmhajfbpplpoaaGreat
open Go.RowKit

def kindC (c : UInt8) : Nat := if lowB c then 1 else if digB c then 3 else if bigB c then 4 else 2
theorem tok1_kd {c : UInt8} {l : List UInt8} {k n : Nat} (h : tok1 (c :: l) = .tok k n) : k = kindC c := by
 rw [tok1_cons] at h
 unfold kindC
 by_cases h1 : lowB c = true
 ·rw [if_pos h1] at h ⊢
  split at h
  ·cases h
  ·injection h with h1 h2; exact h1.symm
 rw [if_neg h1] at h ⊢
 by_cases h2 : digB c = true
 ·rw [if_pos h2] at h ⊢
  split at h
  ·cases h
  ·split at h
   ·cases h
   ·injection h with h1 h2; exact h1.symm
 rw [if_neg h2] at h ⊢
 by_cases h3 : bigB c = true
 ·rw [if_pos h3] at h ⊢
  injection h with h1 h2; exact h1.symm
 rw [if_neg h3] at h ⊢
 split at h
 ·cases h
 ·injection h with h1 h2; exact h1.symm
def KdF (t : Tk) : Prop := (t.kind = 5 ∧ t.text = []) ∨ ∃ c r, t.text = c :: r ∧ t.kind = kindC c
theorem lexL_kinds : ∀ (n : Nat) (l : List UInt8) (p : Nat × Nat), l.length ≤ n → ∀ ts, lexL l p = .ok ts → ∀ t ∈ ts, KdF t := by
 intro n
 induction n with
 | zero =>
  intro l p hl ts h t ht
  obtain rfl : l = [] := List.length_eq_zero_iff.1 (by omega)
  rw [lexL_eq] at h
  have h : LexR.ok [⟨5, [], (adv p []).1, (adv p []).2⟩] = .ok ts := h
  injection h with h
  subst h
  obtain rfl := List.mem_singleton.1 ht
  exact .inl ⟨rfl, rfl⟩
 | succ n ih =>
  intro l p hl ts h t ht
  rw [lexL_eq] at h
  cases hk : tok1 (l.drop (gap false l)) with
  | fin =>
   rw [hk] at h
   injection h with h
   subst h
   obtain rfl := List.mem_singleton.1 ht
   exact .inl ⟨rfl, rfl⟩
  | err e => rw [hk] at h; cases h
  | tok k m =>
   rw [hk] at h
   have hm := tok1_len hk
   rw [List.length_drop] at hm
   obtain ⟨us, hu, rfl⟩ := more_ok h
   rcases List.mem_cons.1 ht with rfl | ht
   ·right
    cases e : l.drop (gap false l) with
    | nil =>
     have := congrArg List.length e
     rw [List.length_drop] at this
     simp at this
     omega
    | cons c r =>
     rw [e] at hk
     obtain ⟨m, rfl⟩ : ∃ q, m = q + 1 := ⟨m - 1, by omega⟩
     exact ⟨c, r.take m, rfl, tok1_kd hk⟩
   ·exact ih _ _ (by rw [List.length_drop]; omega) us hu t ht
theorem lexAll_kinds {l : List UInt8} {ts : List Tk} (h : lexAll l = .ok ts) : ∀ t ∈ ts, KdF t := by
 unfold lexAll at h
 split at h
 ·cases h
 ·exact lexL_kinds _ _ _ (Nat.le_refl _) ts h
theorem lexAll_pre {l : List UInt8} {ts : List Tk} (h : lexAll l = .ok ts) : PreT ts := by
 have hk := lexAll_kinds h
 have hn := ((lexAll_facts l).1 ts h).ne
 have one : ∀ (i : Nat) (c : UInt8), (nx ts i).text = [c] → (nx ts i).kind = kindC c := fun i c hc => by
  rcases hk _ (nx_mem hn i) with ⟨_, h2⟩ | ⟨d, r, h1, h2⟩
  ·rw [hc] at h2; cases h2
  ·rw [hc] at h1
   injection h1 with h1 _
   rw [h1]
   exact h2
 refine ⟨fun i h => ?_, fun i h => ?_⟩
 ·rcases h with h | h
  ·rw [one i _ h]; rfl
  ·rw [one i _ h]; rfl
 ·rcases h with h | h | h
  ·rw [one i _ h]; rfl
  ·rw [one i _ h]; rfl
  ·rw [one i _ h]; rfl
def lparseP (s : List UInt8) (vars : List ByteArray) (ps : List Pr) : Tr × (Nat × Nat × Nat) := match lexAll s with
 | .err c ln co => (T0, (ln, co, c))
 | .ok ts => ((lpropP ts vars true ps).2.2, endP ts (lpropP ts vars true ps).1 (lpropP ts vars true ps).2.1)
theorem lpropP_le {ts : List Tk} (H : Toks ts) (vars : List ByteArray) (kn : Bool) (ps : List Pr) : (lpropP ts vars kn ps).1 ≤ ts.length := by
 have f : Far ts 0 _ _ := ljP_far H vars kn ps (8 * ts.length + 5) .prop 0 0 (Nat.zero_le _)
 exact f.le
section
variable {D : Orc}
theorem lwhole_err (Kw : Knows ownC tabWa D) (s : ByteArray) (y : Sy) (x : List (List AV)) (ln co e : Nat) (he : e ≠ 0) (hall : D.ask (.fn 91) [sv s] [] = some (.tup [.ls x, .agg [iv (ln : Int), iv (co : Int)], iv (e : Int)], [])) : D.ask (.fn 53) [sv s, .ls (y.vars.map eS), bv true, .fn (.func 69) [] [.ptr 0 0]] [sysB y] = some (wholeA T0 (ln, co, e), [.keep]) := by
 refine Kw.fn' hn53 _ rfl ((e53l ..).trans ?_)
 refine (askK_of hall _).trans ?_
 simp only [ND]
 refine (br_eqF (by omega)).trans ?_
 unfold wholeA ifOk
 rw [if_neg he]
 rfl
set_option linter.unusedSectionVars false
variable (K : Knows ownC tabEa D) (Kb : Knows ownC tabEb D) (Kq : Knows ownC tabTq D) (Kr : Knows ownC tabTr D) (Kw : Knows ownC tabWa D) (L : NameF D) (y : Sy) (hv : y.vars.length < 4611686018427387904) (hp : y.ps.length ≤ 1000000) (hq : ∀ p ∈ y.ps, p.locs.length < 4611686018427387904)
include K Kb Kq Kr Kw L hv hp hq
theorem parse1_ok {ts : List Tk} (H : Toks ts) (P : PreT ts) : ∃ z, ((lpropP ts y.vars true y.ps).2.1 = 0 → z = (lpropP ts y.vars true y.ps).2.2) ∧ D.ask (.fn 69) [.ptr 0 0, .ptr 1 0] [cuB ts y.vars true 0, sysB y]
  = some (.tup [.agg (eTr z), iv ((lpropP ts y.vars true y.ps).2.1 : Int)], [.set (cuB ts y.vars true (lpropP ts y.vars true y.ps).1), .keep]) := by
 obtain ⟨z, hz, g⟩ := lj_ok K Kb Kq L H P y true hv hp hq (8 * ts.length + 5) .prop 0 0 (Nat.zero_le _) (by omega) (by simp only [lneedJ]; omega)
 refine ⟨z, hz, ?_⟩
 refine Kr.fn' hn69 _ rfl ((e69 ..).trans ?_)
 refine (askK_of g _).trans ?_
 unfold lpropP
 rcases ljP ts y.vars true y.ps (8 * ts.length + 5) .prop 0 0 with ⟨j, e, _⟩
 obtain ⟨k, l, r, o, p, q, ks⟩ := z
 rfl
theorem lwhole_ok (s : ByteArray) {ts : List Tk} (H : Toks ts) (P : PreT ts) (hall : D.ask (.fn 91) [sv s] [] = some (.tup [.ls (ts.map eTk), .agg [iv 0, iv 0], iv 0], [])) : D.ask (.fn 53) [sv s, .ls (y.vars.map eS), bv true, .fn (.func 69) [] [.ptr 0 0]] [sysB y]
  = some (wholeA (lpropP ts y.vars true y.ps).2.2 (endP ts (lpropP ts y.vars true y.ps).1 (lpropP ts y.vars true y.ps).2.1), [.keep]) := by
 have hl := H.len
 have hf := lpropP_le H y.vars true y.ps
 obtain ⟨z, hz, g⟩ := parse1_ok K Kb Kq Kr Kw L y hv hp hq H P
 refine Kw.fn' hn53 _ rfl ((e53l ..).trans ?_)
 refine (askK_of hall _).trans ?_
 simp only [ND]
 refine (br_eqT rfl).trans ?_
 refine (askK_of g _).trans ?_
 revert hf hz
 rcases lpropP ts y.vars true y.ps with ⟨j, e, t⟩
 intro hf hz
 have hj : j ≤ ts.length := hf
 have ha := at_ok K ts y.vars true j (by omega) (by omega)
 dsimp only at hz ⊢
 unfold wholeA endP ifOk
 by_cases h0 : e = 0
 ·obtain rfl := hz h0
  obtain ⟨k, l, r, o, p, q, ks⟩ := z
  simp only [eTr, cuB, ND]
  refine (br_eqT (by omega)).trans ?_
  refine (askK_of ha _).trans ?_
  simp only [eTk, cuB, ND]
  by_cases h5 : (nx ts j).kind = 5
  ·refine (br_eqT (by omega)).trans ?_
   refine (br_eqT (by omega)).trans ?_
   simp only [h0, h5, if_true]
   all_goals rfl
  ·refine (br_eqF (by omega)).trans ?_
   refine (br_eqF (by omega)).trans ?_
   refine (askK_of ha _).trans ?_
   simp only [eTk, cuB, ND, h0, h5, if_true, if_false]
   all_goals rfl
 ·obtain ⟨k, l, r, o, p, q, ks⟩ := z
  simp only [eTr, cuB, ND]
  refine (br_eqF (by omega)).trans ?_
  first | refine (br_eqF (by omega)).trans ?_ | skip
  refine (askK_of ha _).trans ?_
  simp only [eTk, cuB, ND, h0, if_false]
  all_goals rfl
theorem lparse_ok (A : LexA D) (s : ByteArray) (hs : s.size ≤ 9223372036854775807) : D.ask (.fn 32) [sv s, .agg (eSy y)] [] = some (wholeA (lparseP s.data.toList y.vars y.ps).1 (lparseP s.data.toList y.vars y.ps).2, []) := by
 refine Kr.fn' hn32 _ rfl ((e32 ..).trans ?_)
 unfold lparseP
 cases h : lexAll s.data.toList with
 | err c ln co =>
  have hc := (lexAll_facts s.data.toList).2 c ln co h
  have g := lwhole_err Kw s y _ ln co c hc (A.err s c ln co hs h)
  refine (askK_of g _).trans ?_
  unfold wholeA ifOk
  simp only [hc, if_false, T0, eTr, ND]
  all_goals rfl
 | ok ts =>
  have f := (lexAll_facts s.data.toList).1 ts h
  have hn := lexAll_len h
  have g := lwhole_ok K Kb Kq Kr Kw L y hv hp hq s (f.toks (by omega)) (lexAll_pre h) (A.ok s ts hs h)
  refine (askK_of g _).trans ?_
  unfold wholeA
  simp only
  rcases ifOk (endP ts (lpropP ts y.vars true y.ps).1 (lpropP ts y.vars true y.ps).2.1).2.2 (lpropP ts y.vars true y.ps).2.2 with ⟨k, l, r, o, p, q, ks⟩
  rfl
end
section
variable {D : Orc}
set_option linter.unusedSectionVars false
variable (K : Knows ownC tabRa D) (Kl : Knows ownC tabRl D) (R : RNameF D) (A : LexF D) (y : Sy) (hv : y.vars.length < 4611686018427387904) (hp : y.ps.length ≤ 1000000) (hq : ∀ p ∈ y.ps, p.locs.length < 4611686018427387904)
include K Kl R A hv hp hq
end
end Go.Proofs.YtlmhajfbpplpoaaGreat
namespace Go.Proofs.YtlmhajfbpplpoaaGreat
open Go.RowKit

def larI (k : Int) : Int := if k = 0 then 0 else if k = 1 then 0 else if k = 2 then 0 else if k = 6 then 0 else if k = 3 then 1 else if k = 8 then 1 else if k = 9 then 1 else if k = 10 then 1 else if k = 4 then 2 else if k = 5 then 2 else if k = 7 then 2 else if k = 11 then 2 else if k = 12 then 2 else -1
def tgtI (k : Int) : Int := if k = 7 then 1 else if k = 5 then 2 else if k = 4 then 3 else if k = 11 then 4 else if k = 12 then 4 else 5
def lbrk (p : Int) (i : Nat) (k : Int) : Bool := if larI p = 1 then decide (tgtI k < 5) else if tgtI p = tgtI k then ((decide (tgtI p = 1) || decide (tgtI p = 4)) == decide (i = 0)) else decide (tgtI k < tgtI p)
def leafB : Tr → Bool
 | .mk k l r op p q ks => if k = 2 then cmpB (.mk k l r op p q ks) else if k = 6 then decide (l.length = 0) && decide (r.length = 0) && decide (op = 0) && nameB p.data.toList && nameB q.data.toList else bareB (.mk k l r op p q ks)
mutual
def lrightB : Tr → Nat → Bool
 | .mk k l r op p q ks, d => if (ks.length : Int) = larI k then (if larI k = 0 then leafB (.mk k l r op p q ks) else decide (upD (decide (larI k = 1)) d ≤ 60) && bareB (.mk k l r op p q ks) && lkidsB k (upD (decide (larI k = 1)) d) 0 ks) else false
def lkidsB (k : Int) (d : Nat) : Nat → List Tr → Bool
 | _, [] => true
 | i, x :: r => (decide (upD (lbrk k i x.kind) d ≤ 60) && lrightB x (upD (lbrk k i x.kind) d)) && lkidsB k d (i + 1) r
end
inductive WzP : Tr → Prop where
 | mk {k : Int} {l r : List Mo} {op : Int} {p q : ByteArray} {ks : List Tr} (zp : p.size ≤ 9223372036854775807) (zq : q.size ≤ 9223372036854775807) (h : ∀ x ∈ ks, WzP x) : WzP (.mk k l r op p q ks)
end Go.Proofs.YtlmhajfbpplpoaaGreat
namespace Go.Proofs.YtlmhajfbpplpoaaGreat
open Go.RowKit

theorem ite_iv (c : Prop) [Decidable c] (a b : Int) : (if c then some (iv a, ([] : List BO)) else some (iv b, [])) = some (iv (if c then a else b), []) := by
 by_cases h : c
 ·rw [if_pos h, if_pos h]
 ·rw [if_neg h, if_neg h]
section
variable {D : Orc}
variable (K : Knows ownC tabTl D)
include K
theorem larity_ok (k : Int) : D.ask (.fn 132) [iv k] [] = some (iv (larI k), []) := by
 refine K.fn' hn132 _ rfl ((e132 ..).trans ?_)
 unfold larI
 simp only [r_eq, br_if, decide_eq_true_eq, ite_iv]
theorem ltight_ok (k : Int) : D.ask (.fn 194) [iv k] [] = some (iv (tgtI k), []) := by
 refine K.fn' hn194 _ rfl ((e194 ..).trans ?_)
 unfold tgtI
 simp only [r_eq, br_if, decide_eq_true_eq, ite_iv]
theorem lbracketed_ok (p : Int) (i : Nat) (t : Tr) : D.ask (.fn 134) [iv p, iv (i : Int), .agg (eTr t)] [] = some (bv (lbrk p i t.kind), []) := by
 obtain ⟨k, l, r, op, q, v, ks⟩ := t
 refine K.fn' hn134 _ rfl ((e134 ..).trans ?_)
 refine (askK_of (ltight_ok K p) _).trans ?_
 simp only [ND]
 refine (askK_of (ltight_ok K k) _).trans ?_
 simp only [ND]
 refine (askK_of (larity_ok K p) _).trans ?_
 simp only [ND]
 unfold lbrk Tr.kind
 have e1 : realA.beq true true = true := rfl
 have e2 : realA.beq true false = false := rfl
 have e3 : realA.beq false true = false := rfl
 have e4 : realA.beq false false = true := rfl
 simp only [r_eq, r_lt, br_if, decide_eq_true_eq, e1, e2, e3, e4, ci0]
 generalize tgtI p = a
 generalize tgtI k = b
 by_cases h1 : larI p = 1
 ·by_cases h2 : b < 5 <;> simp [h1, h2]
 ·by_cases h2 : a = b
  ·by_cases h3 : a = 1
   ·by_cases h5 : i = 0 <;> simp_all
   ·by_cases h4 : a = 4 <;> by_cases h5 : i = 0 <;> simp_all
  ·by_cases h3 : b < a <;> simp [h1, h2, h3]
theorem lright_lp (t : Tr) (d : Nat) (hd : d ≤ 60) (ks : List Tr) (hk : ks.length < 4611686018427387904) (g : ∀ x ∈ ks, ∀ d : Nat, d ≤ 60 → D.ask (.fn 74) [.agg (eTr x), iv (d : Int)] [] = some (bv (lrightB x d), [])) : ∀ (n i : Nat), ks.length - i = n →
  D.ask (.lp 74 0) [iv (d : Int), .ptr 0 0, .ls (ks.map eTr), iv (ks.length : Int), iv (i : Int)] [boxT t] = some (if lkidsB t.kind d i (ks.drop i) then .tup [iv 0] else .tup [bv true, bv false], [.del]) := by
 intro n
 obtain ⟨k, l, r, op, p, q, kz⟩ := t
 induction n with
 | zero =>
  intro i hi
  refine K.lp' hn74 _ rfl (by kernel_rfl) ((e74_0 ..).trans ?_)
  rw [show ks.drop i = [] from List.drop_eq_nil_of_le (by omega)]
  refine (br_ltF (by omega)).trans ?_
  rfl
 | succ n ih =>
  intro i hi
  have hlt : i < ks.length := by omega
  have ih := ih (i + 1) (by omega)
  rw [show ks.drop i = ks[i] :: ks.drop (i + 1) from List.drop_eq_getElem_cons hlt]
  have gx := g ks[i] (List.getElem_mem hlt)
  have hb := lbracketed_ok K k i ks[i]
  refine K.lp' hn74 _ rfl (by kernel_rfl) ((e74_0 ..).trans ?_)
  refine (br_ltT (by omega)).trans ?_
  rw [unI_n, nthK_some (List.getElem?_eq_getElem hlt)]
  revert gx hb
  generalize ks[i] = x
  obtain ⟨xk, xl, xr, xo, xp, xq, xs⟩ := x
  intro gx hb
  unfold lkidsB Tr.kind
  unfold Tr.kind at hb ih
  simp only [eTr, ND]
  refine (askK_of hb _).trans ?_
  simp only [ND]
  have tl : ∀ (b : Bool), (if b = true then lkidsB k d (i + 1) (ks.drop (i + 1)) = true else False) → True := fun _ _ => trivial
  cases hbk : lbrk k i xk with
  | true =>
   refine (br_t _ _).trans ?_
   rw [add1 (by omega)]
   by_cases h60 : d + 1 ≤ 60
   ·refine (br_ltF (by omega)).trans ?_
    refine (askK_of (gx (d + 1) h60) _).trans ?_
    simp only [ND]
    rw [show upD true d = d + 1 from rfl, decide_eq_true h60, Bool.true_and]
    cases lrightB (.mk xk xl xr xo xp xq xs) (d + 1) with
    | false => rfl
    | true =>
     refine (br_t _ _).trans ?_
     rw [add1 (by omega)]
     refine (askK_of ih _).trans ?_
     rw [Bool.true_and]
     cases lkidsB k d (i + 1) (ks.drop (i + 1)) <;> rfl
   ·refine (br_ltT (by omega)).trans ?_
    rw [show upD true d = d + 1 from rfl, decide_eq_false h60, Bool.false_and, Bool.false_and]
    rfl
  | false =>
   refine (br_f _ _).trans ?_
   refine (br_ltF (by omega)).trans ?_
   refine (askK_of (gx d hd) _).trans ?_
   simp only [ND]
   rw [show upD false d = d from rfl, decide_eq_true hd, Bool.true_and]
   cases lrightB (.mk xk xl xr xo xp xq xs) d with
   | false => rfl
   | true =>
    refine (br_t _ _).trans ?_
    rw [add1 (by omega)]
    refine (askK_of ih _).trans ?_
    rw [Bool.true_and]
    cases lkidsB k d (i + 1) (ks.drop (i + 1)) <;> rfl
theorem lleaf_ok (Kt : Knows ownC tabTa D) (L : LexN D) (t : Tr) (hz : WzT t) (hp : WzP t) : D.ask (.fn 133) [.agg (eTr t)] [] = some (bv (leafB t), []) := by
 have gb := bare_ok Kt t
 have gc := treecmp_ok Kt L t hz
 obtain ⟨k, l, r, op, p, q, ks⟩ := t
 obtain ⟨z1, z2, _⟩ := hp
 have gp := L.name p z1
 have gq := L.name q z2
 refine K.fn' hn133 _ rfl ((e133 ..).trans ?_)
 rw [leafB]
 rw [lenR_map, lenR_map]
 simp only [eTr] at gb gc
 by_cases h2 : k = 2
 ·refine (br_eqT h2).trans ?_
  refine (askK_of gc _).trans ?_
  rw [if_pos h2]
  cases cmpB (.mk k l r op p q ks) <;> rfl
 ·refine (br_eqF h2).trans ?_
  rw [if_neg h2]
  by_cases h6 : k = 6
  ·refine (br_eqT h6).trans ?_
   rw [if_pos h6]
   by_cases h3 : l.length = 0
   ·refine (br_eqT (by omega)).trans ?_
    by_cases h4 : r.length = 0
    ·refine (br_eqT (by omega)).trans ?_
     by_cases h5 : op = 0
     ·refine (br_eqT h5).trans ?_
      refine (askK_of gp _).trans ?_
      simp only [ND]
      rw [decide_eq_true h3, decide_eq_true h4, decide_eq_true h5]
      cases nameB p.data.toList with
      | false => rfl
      | true =>
       refine (br_t _ _).trans ?_
       refine (askK_of gq _).trans ?_
       cases nameB q.data.toList <;> rfl
     ·refine (br_eqF h5).trans ?_
      simp [h5]
    ·refine (br_eqF (by omega)).trans ?_
     simp [h4]
   ·refine (br_eqF (by omega)).trans ?_
    simp [h3]
  ·refine (br_eqF h6).trans ?_
   rw [if_neg h6]
   refine (askK_of gb _).trans ?_
   cases bareB (.mk k l r op p q ks) <;> rfl
theorem lright_ok (Kt : Knows ownC tabTa D) (L : LexN D) : ∀ (n : Nat) (t : Tr), SizeOf.sizeOf t < n → WzT t → WzP t → ∀ d : Nat, d ≤ 60 → D.ask (.fn 74) [.agg (eTr t), iv (d : Int)] [] = some (bv (lrightB t d), []) := by
 intro n
 induction n with
 | zero => intro t h; omega
 | succ n ih =>
  intro t ht hz hp d hd
  have gb := bare_ok Kt t
  have gl := lleaf_ok K Kt L t hz hp
  obtain ⟨k, l, r, op, p, q, ks⟩ := t
  obtain ⟨hl, hr, hk, zl, zr, hx⟩ := hz
  obtain ⟨_, _, hy⟩ := hp
  have ga := larity_ok K k
  have gk : ∀ x ∈ ks, ∀ d : Nat, d ≤ 60 → D.ask (.fn 74) [.agg (eTr x), iv (d : Int)] [] = some (bv (lrightB x d), []) := fun x hm d hd => ih x (by
   have h1 := kids_mem hm
   simp only [Tr.mk.sizeOf_spec] at ht
   omega) (hx x hm) (hy x hm) d hd
  have glp := fun (d : Nat) (hd : d ≤ 60) => lright_lp K (.mk k l r op p q ks) d hd ks hk gk _ 0 rfl
  simp only [List.drop_zero, Tr.kind, boxT, eTr] at glp
  refine K.fn' hn74 _ rfl ((e74 ..).trans ?_)
  rw [lrightB]
  rw [eTrs_map] at glp ⊢
  rw [lenR_map]
  simp only [eTr, eTrs_map] at gb gl
  refine (askK_of ga _).trans ?_
  simp only [ND]
  by_cases h4 : (ks.length : Int) = larI k
  ·refine (br_eqT h4).trans ?_
   rw [if_pos h4]
   by_cases h0 : larI k = 0
   ·refine (br_eqT h0).trans ?_
    rw [if_pos h0]
    refine (askK_of gl _).trans ?_
    cases leafB (.mk k l r op p q ks) <;> rfl
   ·refine (br_eqF h0).trans ?_
    rw [if_neg h0]
    by_cases h1 : larI k = 1
    ·refine (br_eqT h1).trans ?_
     rw [decide_eq_true h1, add1 (by omega)]
     by_cases h60 : d + 1 ≤ 60
     ·refine (br_ltF (by omega)).trans ?_
      rw [show upD true d = d + 1 from rfl, decide_eq_true h60, Bool.true_and]
      refine (askK_of gb _).trans ?_
      simp only [ND]
      cases bareB (.mk k l r op p q ks) with
      | false => rfl
      | true =>
       refine (br_t _ _).trans ?_
       refine (askK_of (glp (d + 1) h60) _).trans ?_
       rw [Bool.true_and]
       cases lkidsB k (d + 1) 0 ks <;> rfl
     ·refine (br_ltT (by omega)).trans ?_
      rw [show upD true d = d + 1 from rfl, decide_eq_false h60, Bool.false_and, Bool.false_and]
    ·refine (br_eqF h1).trans ?_
     rw [decide_eq_false h1]
     refine (br_ltF (by omega)).trans ?_
     rw [show upD false d = d from rfl, decide_eq_true hd, Bool.true_and]
     refine (askK_of gb _).trans ?_
     simp only [ND]
     cases bareB (.mk k l r op p q ks) with
     | false => rfl
     | true =>
      refine (br_t _ _).trans ?_
      refine (askK_of (glp d hd) _).trans ?_
      rw [Bool.true_and]
      cases lkidsB k d 0 ks <;> rfl
  ·refine (br_eqF h4).trans ?_
   rw [if_neg h4]
theorem lRight_ok (Kt : Knows ownC tabTa D) (L : LexN D) (t : Tr) (hz : WzT t) (hp : WzP t) : D.ask (.fn 36) [.agg (eTr t)] [] = some (bv (lrightB t 0), []) := by
 have g := lright_ok K Kt L _ t (Nat.lt_succ_self _) hz hp 0 (by omega)
 obtain ⟨k, l, r, op, p, q, ks⟩ := t
 refine K.fn' hn36 _ rfl ((e36 ..).trans ?_)
 refine (askK_of g _).trans ?_
 simp only [ND]
 cases lrightB (.mk k l r op p q ks) 0 <;> rfl
end
end Go.Proofs.YtlmhajfbpplpoaaGreat
