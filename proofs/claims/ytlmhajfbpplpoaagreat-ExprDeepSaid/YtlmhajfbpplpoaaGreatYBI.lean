/-
  Signs ahead and brackets, nested: what the lexer and the parser make of them. No program in sight.
  ExprDeep's law.
-/
import Derived.Test.YtlmhajfbpplpoaaGreatYBE
import Derived.Test.YtlmhajfbpplpoaaGreatYBH
import Derived.Test.YtlmhajfbpplpoaaGreatYBG
import Derived.Test.YtlmhajfbpplpoaaGreatYBB
set_option linter.unusedSectionVars false
set_option linter.unusedSimpArgs false
set_option linter.unusedVariables false
namespace Go.Proofs.YtlmhajfbpplpoaaGreat
open Go.RowKit

def openC (b : Bool) : UInt8 := if b then 40 else 33
def cntB : List Bool → Nat
 | [] => 0
 | b :: r => (if b then 1 else 0) + cntB r
def closes : Nat → Nat → List Tk
 | 0, co => [⟨5, [], 1, co⟩]
 | m + 1, co => ⟨2, [41], 1, co⟩ :: closes m (co + 1)
def nestT : List Bool → Nat → Nat → List Tk
 | [], m, co => ⟨1, [116, 114, 117, 101], 1, co⟩ :: closes m (co + 4)
 | b :: r, m, co => ⟨2, [openC b], 1, co⟩ :: nestT r m (co + 1)
def nestS (bs : List Bool) (m : Nat) : List UInt8 := bs.map openC ++ ([116, 114, 117, 101] ++ List.replicate m 41)
def nestX : List Bool → Tr
 | [] => .mk 0 [] [] 0 (bstr []) (bstr []) []
 | true :: r => nestX r
 | false :: r => .mk 3 [] [] 0 (bstr []) (bstr []) [nestX r]
theorem lex_one (c : UInt8) (l : List UInt8) (co : Nat) (h1 : gap false (c :: l) = 0) (h2 : tok1 (c :: l) = .tok 2 1) (h3 : c.toNat ≠ 10) : lexL (c :: l) (1, co) = (lexL l (1, co + 1)).more ⟨2, [c], 1, co⟩ := by
 rw [lexL_eq, h1]
 simp only [List.drop_zero, List.take_zero, h2, adv, List.foldl_nil, List.drop_one, List.tail_cons, List.take_succ_cons, List.foldl_cons, adv1, if_neg h3, Nat.zero_add]
theorem lex_closes : ∀ (m co : Nat), lexL (List.replicate m 41) (1, co) = .ok (closes m co)
 | 0, co => by
  rw [lexL_eq]
  rfl
 | m + 1, co => by
  rw [List.replicate_succ, lex_one 41 _ co rfl ?_ (by decide), lex_closes m (co + 1)]
  ·rfl
  ·cases m with
   | zero => decide
   | succ m =>
    rw [List.replicate_succ, tok1_cons, sgn_two]
    rfl
theorem lex_true (m co : Nat) : lexL ([116, 114, 117, 101] ++ List.replicate m 41) (1, co) = .ok (nestT [] m co) := by
 have h : tok1 ([116, 114, 117, 101] ++ List.replicate m 41) = .tok 1 4 := by
  cases m with
  | zero => decide
  | succ m =>
   rw [List.replicate_succ]
   rfl
 have hg : gap false ([116, 114, 117, 101] ++ List.replicate m 41) = 0 := rfl
 rw [lexL_eq, hg]
 simp only [List.drop_zero, h]
 have e1 : ([116, 114, 117, 101] ++ List.replicate m 41 : List UInt8).drop (0 + 4) = List.replicate m 41 := rfl
 have e2 : ([116, 114, 117, 101] ++ List.replicate m 41 : List UInt8).take 4 = [116, 114, 117, 101] := rfl
 rw [e1, e2]
 have e3 : adv (adv (1, co) (List.take 0 ([116, 114, 117, 101] ++ List.replicate m 41 : List UInt8))) [116, 114, 117, 101] = (1, co + 4) := rfl
 rw [e3, lex_closes]
 rfl
theorem nest_head (bs : List Bool) (m : Nat) : ∃ d l, nestS bs m = d :: l ∧ (d = 40 ∨ d = 33 ∨ d = 116) := by
 cases bs with
 | nil => exact ⟨116, _, rfl, .inr (.inr rfl)⟩
 | cons b r =>
  refine ⟨openC b, _, rfl, ?_⟩
  cases b
  ·exact .inr (.inl rfl)
  ·exact .inl rfl
theorem lex_nest : ∀ (bs : List Bool) (m co : Nat), lexL (nestS bs m) (1, co) = .ok (nestT bs m co)
 | [], m, co => lex_true m co
 | b :: r, m, co => by
  obtain ⟨d, l, hd, hd2⟩ := nest_head r m
  have e : nestS (b :: r) m = openC b :: nestS r m := rfl
  have ih := lex_nest r m (co + 1)
  rw [e, hd] at *
  rw [lex_one (openC b) (d :: l) co ?_ ?_ ?_, ih]
  ·rfl
  ·cases b <;> rfl
  ·rw [tok1_cons, sgn_two]
   rcases hd2 with rfl | rfl | rfl <;> cases b <;> rfl
  ·cases b <;> decide
theorem nestS_len (bs : List Bool) (m : Nat) : (nestS bs m).length = bs.length + 4 + m := by
 unfold nestS
 simp
 omega
theorem lexAll_nest (bs : List Bool) (m : Nat) (h : bs.length + 4 + m ≤ 16384) : lexAll (nestS bs m) = .ok (nestT bs m 1) := by
 unfold lexAll
 rw [if_neg (by rw [nestS_len]; omega)]
 exact lex_nest bs m 1
section
variable {ts : List Tk} {vars : List ByteArray} {kn : Bool}
theorem nx_drop {i : Nat} {t : Tk} {r : List Tk} (h : ts.drop i = t :: r) : nx ts i = t ∧ ts.drop (i + 1) = r := by
 have h1 : ts[i]? = some t := by
  have := congrArg (fun l => l[0]?) h
  simpa using this
 refine ⟨by unfold nx; rw [h1], ?_⟩
 have := congrArg (List.drop 1) h
 rw [List.drop_drop] at this
 simpa [Nat.add_comm] using this
theorem isT_drop {i : Nat} {t : Tk} {r : List Tk} (h : ts.drop i = t :: r) (s : List UInt8) : isT ts i s = (decide (t.text = s) && (decide (t.kind = 1) || decide (t.kind = 2) || decide (t.kind = 4))) := by
 unfold isT
 rw [(nx_drop h).1]
theorem closes_isT {i m co : Nat} (h : ts.drop i = closes m co) (s : List UInt8) (hs : s = [38] ∨ s = [124]) : isT ts i s = false := by
 cases m with
 | zero =>
  rw [isT_drop h]
  rcases hs with rfl | rfl <;> rfl
 | succ m =>
  rw [isT_drop h]
  rcases hs with rfl | rfl <;> rfl
theorem nest_ok : ∀ (bs : List Bool) (i d m co f : Nat), ts.drop i = nestT bs m co → cntB bs ≤ m → d + bs.length ≤ 60 → 3 * bs.length + 1 ≤ f →
  jbP ts vars kn f .one i d = (i + bs.length + 1 + cntB bs, 0, nestX bs) ∧ ∃ co', ts.drop (i + bs.length + 1 + cntB bs) = closes (m - cntB bs) co'
 | [], i, d, m, co, f, h, hm, hd, hf => by
  obtain ⟨f, rfl⟩ : ∃ k, f = k + 1 := ⟨f - 1, by omega⟩
  unfold nestT at h
  have h33 := isT_drop h [33]
  have h40 := isT_drop h [40]
  have hT := isT_drop h [116, 114, 117, 101]
  refine ⟨?_, co + 4, by simpa [cntB] using (nx_drop h).2⟩
  unfold jbP
  rw [h33, h40, hT]
  rfl
 | true :: r, i, d, m, co, f, h, hm, hd, hf => by
  rw [List.length_cons] at hd hf
  obtain ⟨f, rfl⟩ : ∃ k, f = k + 4 := ⟨f - 4, by omega⟩
  unfold nestT at h
  have h33 := isT_drop h [33]
  have h40 := isT_drop h [40]
  have hT := isT_drop h [116, 114, 117, 101]
  have hF := isT_drop h [102, 97, 108, 115, 101]
  have hn := (nx_drop h).2
  unfold cntB at hm ⊢
  rw [if_pos rfl] at hm ⊢
  obtain ⟨ih, co', hc⟩ := nest_ok r (i + 1) (d + 1) m (co + 1) (f + 1) hn (by omega) (by omega) (by omega)
  have e38 := closes_isT hc [38] (.inl rfl)
  have e124 := closes_isT hc [124] (.inr rfl)
  obtain ⟨k, hk⟩ : ∃ k, m - cntB r = k + 1 := ⟨m - cntB r - 1, by omega⟩
  rw [hk] at hc
  unfold closes at hc
  have e41 := isT_drop hc [41]
  have hb : jbP ts vars kn (f + 1 + 1) .both (i + 1) (d + 1) = (i + 1 + r.length + 1 + cntB r, 0, nestX r) := by
   have : jbP ts vars kn (f + 1 + 1) .both (i + 1) (d + 1) = thenT (jbP ts vars kn (f + 1) .one (i + 1) (d + 1)) fun j x => jbP ts vars kn (f + 1) (.bothL x) j (d + 1) := rfl
   rw [this, ih]
   unfold thenT jbP
   simp only [e38, if_true, Bool.false_eq_true, if_false]
  have hcd : jbP ts vars kn (f + 3) .cond (i + 1) (d + 1) = (i + 1 + r.length + 1 + cntB r, 0, nestX r) := by
   have : jbP ts vars kn (f + 3) .cond (i + 1) (d + 1) = thenT (jbP ts vars kn (f + 1 + 1) .both (i + 1) (d + 1)) fun j x => jbP ts vars kn (f + 2) (.condL x) j (d + 1) := rfl
   rw [this, hb]
   unfold thenT jbP
   simp only [e124, if_true, Bool.false_eq_true, if_false]
  refine ⟨?_, co' + 1, ?_⟩
  ·unfold jbP
   rw [h33, h40, hT, hF, hcd]
   unfold thenT
   simp only [e41]
   rw [List.length_cons, show i + 1 + r.length + 1 + cntB r + 1 = i + (r.length + 1) + 1 + (1 + cntB r) by omega]
   rw [if_neg (by omega)]
   rfl
  ·have := (nx_drop hc).2
   rw [List.length_cons, show i + (r.length + 1) + 1 + (1 + cntB r) = i + 1 + r.length + 1 + cntB r + 1 by omega, this]
   congr 1
   omega
 | false :: r, i, d, m, co, f, h, hm, hd, hf => by
  rw [List.length_cons] at hd hf
  obtain ⟨f, rfl⟩ : ∃ k, f = k + 1 := ⟨f - 1, by omega⟩
  unfold nestT at h
  have h33 := isT_drop h [33]
  have h40 := isT_drop h [40]
  have hT := isT_drop h [116, 114, 117, 101]
  have hF := isT_drop h [102, 97, 108, 115, 101]
  have hn := (nx_drop h).2
  unfold cntB at hm ⊢
  rw [if_neg (by simp)] at hm ⊢
  obtain ⟨ih, co', hc⟩ := nest_ok r (i + 1) (d + 1) m (co + 1) f hn (by omega) (by omega) (by omega)
  refine ⟨?_, co', ?_⟩
  ·unfold jbP
   rw [h33, h40, hT, hF, ih]
   unfold thenT
   rw [List.length_cons, show i + (r.length + 1) + 1 + (0 + cntB r) = i + 1 + r.length + 1 + cntB r by omega]
   rw [if_neg (by omega)]
   rfl
  ·rw [List.length_cons, show i + (r.length + 1) + 1 + (0 + cntB r) = i + 1 + r.length + 1 + cntB r by omega, hc]
   congr 1
   omega
theorem nest_deep : ∀ (bs : List Bool) (i d m co f : Nat), ts.drop i = nestT bs m co → d ≤ 60 → 60 < d + bs.length → 3 * bs.length + 1 ≤ f → jbP ts vars kn f .one i d = (i + (60 - d), 102, T0)
 | [], i, d, m, co, f, h, hd, hd2, hf => by simp at hd2; omega
 | b :: r, i, d, m, co, f, h, hd, hd2, hf => by
  rw [List.length_cons] at hd2 hf
  obtain ⟨f, rfl⟩ : ∃ k, f = k + 4 := ⟨f - 4, by omega⟩
  unfold nestT at h
  have h33 := isT_drop h [33]
  have h40 := isT_drop h [40]
  have hT := isT_drop h [116, 114, 117, 101]
  have hF := isT_drop h [102, 97, 108, 115, 101]
  have hn := (nx_drop h).2
  by_cases h60 : d = 60
  ·subst h60
   unfold jbP
   rw [h33, h40]
   cases b <;> rfl
  ·cases b with
   | false =>
    have ih := nest_deep r (i + 1) (d + 1) m (co + 1) (f + 3) hn (by omega) (by omega) (by omega)
    unfold jbP
    rw [h33, h40, hT, hF, ih]
    unfold thenT failT
    rw [if_neg (by omega), show i + 1 + (60 - (d + 1)) = i + (60 - d) by omega]
    rfl
   | true =>
    have ih := nest_deep r (i + 1) (d + 1) m (co + 1) (f + 1) hn (by omega) (by omega) (by omega)
    have hb : jbP ts vars kn (f + 1 + 1) .both (i + 1) (d + 1) = (i + (60 - d), 102, T0) := by
     have : jbP ts vars kn (f + 1 + 1) .both (i + 1) (d + 1) = thenT (jbP ts vars kn (f + 1) .one (i + 1) (d + 1)) fun j x => jbP ts vars kn (f + 1) (.bothL x) j (d + 1) := rfl
     rw [this, ih, show i + 1 + (60 - (d + 1)) = i + (60 - d) by omega]
     rfl
    have hcd : jbP ts vars kn (f + 3) .cond (i + 1) (d + 1) = (i + (60 - d), 102, T0) := by
     have : jbP ts vars kn (f + 3) .cond (i + 1) (d + 1) = thenT (jbP ts vars kn (f + 1 + 1) .both (i + 1) (d + 1)) fun j x => jbP ts vars kn (f + 2) (.condL x) j (d + 1) := rfl
     rw [this, hb]
     rfl
    unfold jbP
    rw [h33, h40, hT, hF, hcd]
    rw [if_neg (by omega)]
    rfl
end
theorem nestT_len : ∀ (bs : List Bool) (m co : Nat), (nestT bs m co).length = bs.length + 2 + m
 | [], m, co => by
  have : ∀ m co, (closes m co).length = m + 1 := fun m => by
   induction m with
   | zero => intro co; rfl
   | succ m ih => intro co; rw [closes, List.length_cons, ih]
  rw [nestT, List.length_cons, this]
  simp
  omega
 | b :: r, m, co => by
  rw [nestT, List.length_cons, nestT_len r m (co + 1), List.length_cons]
  omega
theorem nestT_at : ∀ (bs : List Bool) (m co k : Nat), k < bs.length → ∃ t r, (nestT bs m co).drop k = t :: r ∧ t.ln = 1 ∧ t.co = co + k
 | [], m, co, k, h => by simp at h
 | b :: r, m, co, 0, h => ⟨_, _, rfl, rfl, rfl⟩
 | b :: r, m, co, k + 1, h => by
  obtain ⟨t, r', h1, h2, h3⟩ := nestT_at r m (co + 1) k (by simpa using h)
  refine ⟨t, r', by rw [nestT, List.drop_succ_cons]; exact h1, h2, by rw [h3]; omega⟩
theorem pcond_nest (bs : List Bool) (h : bs.length ≤ 127) : pcondP (nestS bs (cntB bs)) = if bs.length ≤ 60 then (nestX bs, 0, 0, 0) else (T0, 1, 61, 102) := by
 have hc : ∀ bs : List Bool, cntB bs ≤ bs.length := fun bs => by
  induction bs with
  | nil => exact Nat.le_refl _
  | cons b r ih => unfold cntB; rw [List.length_cons]; split <;> omega
 have hcb := hc bs
 have hl := lexAll_nest bs (cntB bs) (by omega)
 have hlen := nestT_len bs (cntB bs) 1
 unfold pcondP
 rw [hl]
 simp only
 generalize hts : nestT bs (cntB bs) 1 = ts at *
 have hd : ts.drop 0 = nestT bs (cntB bs) 1 := by rw [List.drop_zero, hts]
 have hcond : condP ts [] false 0 = jbP ts [] false (4 * ts.length + 3) .cond 0 0 := by unfold condP; rw [if_pos (by omega)]
 have e1 : jbP ts [] false (4 * ts.length + 3) .cond 0 0 = thenT (jbP ts [] false (4 * ts.length + 1 + 1) .both 0 0) fun j x => jbP ts [] false (4 * ts.length + 2) (.condL x) j 0 := rfl
 have e2 : jbP ts [] false (4 * ts.length + 1 + 1) .both 0 0 = thenT (jbP ts [] false (4 * ts.length + 1) .one 0 0) fun j x => jbP ts [] false (4 * ts.length + 1) (.bothL x) j 0 := rfl
 by_cases h60 : bs.length ≤ 60
 ·rw [if_pos h60]
  obtain ⟨g, co', hc'⟩ := nest_ok (vars := []) (kn := false) bs 0 0 (cntB bs) 1 (4 * ts.length + 1) hd (Nat.le_refl _) (by omega) (by omega)
  have e38 := closes_isT hc' [38] (.inl rfl)
  have e124 := closes_isT hc' [124] (.inr rfl)
  rw [Nat.sub_self] at hc'
  have hk := (nx_drop (t := ⟨5, [], 1, co'⟩) (r := []) hc').1
  have hfin : condP ts [] false 0 = (0 + bs.length + 1 + cntB bs, 0, nestX bs) := by
   rw [hcond, e1, e2, g]
   unfold thenT jbP
   simp only [e38, e124, if_true, Bool.false_eq_true, if_false]
  rw [hfin]
  unfold endP
  simp only [if_true, hk]
 ·rw [if_neg h60]
  have g := nest_deep (vars := []) (kn := false) bs 0 0 (cntB bs) 1 (4 * ts.length + 1) hd (by omega) (by omega) (by omega)
  have hfin : condP ts [] false 0 = (60, 102, T0) := by
   rw [hcond, e1, e2, g]
   rfl
  rw [hfin]
  obtain ⟨t, r, h1, h2, h3⟩ := nestT_at bs (cntB bs) 1 60 (by omega)
  rw [hts] at h1
  have hk := (nx_drop h1).1
  unfold endP
  simp only [hk, h2, h3]
  rfl
end Go.Proofs.YtlmhajfbpplpoaaGreat
namespace Go.Proofs.YtlmhajfbpplpoaaGreat
open Go.RowKit

theorem r_and127 (x : Int) : ∃ i : Nat, realA.bits .and .i64 x 127 = (i : Int) ∧ i ≤ 127 := by
 show ∃ i : Nat, IntKind.i64.wrap ((BitVec.ofInt 64 x &&& BitVec.ofInt 64 127).toNat : Int) = (i : Int) ∧ i ≤ 127
 have h : (BitVec.ofInt 64 x &&& BitVec.ofInt 64 127).toNat ≤ 127 := by
  rw [BitVec.toNat_and]
  exact Nat.le_trans Nat.and_le_right (by decide)
 refine ⟨_, ?_, h⟩
 rw [IntKind.wrap_i64]
 omega
theorem r_and31 (x : Int) : ∃ i : Nat, realA.bits .and .i64 x 31 = (i : Int) ∧ i ≤ 31 := by
 show ∃ i : Nat, IntKind.i64.wrap ((BitVec.ofInt 64 x &&& BitVec.ofInt 64 31).toNat : Int) = (i : Int) ∧ i ≤ 31
 have h : (BitVec.ofInt 64 x &&& BitVec.ofInt 64 31).toNat ≤ 31 := by
  rw [BitVec.toNat_and]
  exact Nat.le_trans Nat.and_le_right (by decide)
 refine ⟨_, ?_, h⟩
 rw [IntKind.wrap_i64]
 omega
theorem cat_bs (a b : List UInt8) : bstr a ++ bstr b = bstr (a ++ b) := by
 rw [cat_bstr, bstr_data, bstr_data]
def turnB (turn : Int) (i : Nat) : Bool := decide (realA.bits .and .i64 (realA.shr .i64 turn (realA.bits .and .i64 (i : Int) 31)) 1 = 0)
def turns (turn : Int) (n : Nat) : List Bool := (List.range n).map (turnB turn)
theorem turns_succ (turn : Int) (i : Nat) : turns turn (i + 1) = turns turn i ++ [turnB turn i] := by
 unfold turns
 rw [List.range_succ, List.map_append]
 rfl
theorem turns_len (turn : Int) (n : Nat) : (turns turn n).length = n := by simp [turns]
theorem cnt_snoc (b : Bool) : ∀ l : List Bool, cntB (l ++ [b]) = cntB l + (if b then 1 else 0)
 | [] => by simp [cntB]
 | c :: r => by rw [List.cons_append, cntB, cntB, cnt_snoc b r]; omega
theorem cnt_le : ∀ l : List Bool, cntB l ≤ l.length
 | [] => Nat.le_refl _
 | b :: r => by
  have := cnt_le r
  unfold cntB
  rw [List.length_cons]
  split <;> omega
theorem nestX_wz : ∀ bs, WzT (nestX bs)
 | [] => .mk (by simp) (by simp) (by simp) (by simp) (by simp) (by simp)
 | true :: r => nestX_wz r
 | false :: r => .mk (by simp) (by simp) (by simp) (by simp) (by simp) (by simpa using nestX_wz r)
theorem nestX_kind : ∀ bs, (nestX bs).kind = 0 ∨ (nestX bs).kind = 3
 | [] => .inl rfl
 | true :: r => nestX_kind r
 | false :: r => .inr rfl
theorem nestX_right : ∀ (bs : List Bool) (d : Nat), d + bs.length ≤ 60 → rightB (nestX bs) d = true
 | [], d, h => by
  have h0 : d ≤ 60 := by simpa using h
  unfold nestX rightB
  simp [bareB, arI, upD, h0, kidsB]
 | true :: r, d, h => by
  rw [List.length_cons] at h
  unfold nestX
  exact nestX_right r d (by omega)
 | false :: r, d, h => by
  rw [List.length_cons] at h
  have ih := nestX_right r (d + 1) (by omega)
  have h0 : d + 1 ≤ 60 := by omega
  have hb : brk 3 0 (nestX r).kind = false := by
   rcases nestX_kind r with h | h <;> rw [h] <;> rfl
  unfold nestX rightB
  rw [if_neg (by decide)]
  unfold kidsB kidsB
  rw [hb]
  simp [bareB, arI, upD, h0, ih]
section
variable {D : Orc}
theorem deep_lp (Kl : Knows ownC tabLd D) (turn : Int) (n : Nat) (hn : n ≤ 127) : ∀ (k i : Nat), i ≤ n → n - i = k → D.ask (.lp 7 0) [iv (n : Int), iv turn, sv (bstr ((turns turn i).map openC)), sv (bstr (List.replicate (cntB (turns turn i)) 41)), iv (i : Int)] [] =
  some (.tup [iv 0, iv (n : Int), sv (bstr ((turns turn n).map openC)), sv (bstr (List.replicate (cntB (turns turn n)) 41))], []) := by
 intro k
 induction k with
 | zero =>
  intro i hi hk
  obtain rfl : i = n := by omega
  refine Kl.lp' hn7 _ rfl (by kernel_rfl) ((e7_0 ..).trans ?_)
  refine (br_ltF (by omega)).trans ?_
  rfl
 | succ k ih =>
  intro i hi hk
  have ih := ih (i + 1) (by omega) (by omega)
  refine Kl.lp' hn7 _ rfl (by kernel_rfl) ((e7_0 ..).trans ?_)
  refine (br_ltT (by omega)).trans ?_
  obtain ⟨j, hj, hj2⟩ := r_and31 (i : Int)
  have hnot : ¬ realA.bits .and .i64 (i : Int) 31 < 0 := by rw [hj]; omega
  refine (br_ltF hnot).trans ?_
  have hs : (bstr ((turns turn i).map openC)).size = i := by rw [bstr_size, List.length_map, turns_len]
  have hc := cnt_le (turns turn i)
  rw [turns_len] at hc
  have hs2 : (bstr (List.replicate (cntB (turns turn i)) 41)).size ≤ i := by rw [bstr_size, List.length_replicate]; exact hc
  have s1 : (bstr [40]).size = 1 := rfl
  have s2 : (bstr [41]).size = 1 := rfl
  have s3 : (bstr [33]).size = 1 := rfl
  rw [turns_succ, List.map_append, cnt_snoc] at ih
  rw [add1 (show i < 4611686018427387904 by omega)]
  simp only [r_slen, r_cat, cat_bs]
  by_cases hb : realA.bits .and .i64 (realA.shr .i64 turn (realA.bits .and .i64 (i : Int) 31)) 1 = 0
  ·have ht : turnB turn i = true := by unfold turnB; exact decide_eq_true hb
   rw [ht] at ih
   refine (br_eqT hb).trans ?_
   refine (br_ble (by rw [hs, s1]; omega) _ _).trans ?_
   refine (br_ble (by rw [s2]; omega) _ _).trans ?_
   have e : ([41] ++ List.replicate (cntB (turns turn i)) 41 : List UInt8) = List.replicate (cntB (turns turn i) + 1) 41 := rfl
   rw [e]
   refine (askK_of ih _).trans ?_
   rfl
  ·have ht : turnB turn i = false := by unfold turnB; exact decide_eq_false hb
   rw [ht] at ih
   refine (br_eqF hb).trans ?_
   refine (br_ble (by rw [hs, s3]; omega) _ _).trans ?_
   refine (askK_of ih _).trans ?_
   rfl
theorem deep_ok (K : Knows ownC tabEa D) (Kb : Knows ownC tabEb D) (L : NameF D) (Kw : Knows ownC tabWa D) (Kx : Knows ownC tabWb D) (A : LexA D) (Kt : Knows ownC tabTa D) (N : LexN D) (Kl : Knows ownC tabLd D)
  (ha : D.ask (.fn 14) [] [] = some (bv true, [])) (x turn : Int) : D.ask (.fn 7) [iv x, iv turn] [] = some (bv true, []) := by
 obtain ⟨n, hn, hn2⟩ := r_and127 x
 refine Kl.fn' hn7 _ rfl ((e7 ..).trans ?_)
 refine (askK_of ha _).trans ?_
 simp only [ND]
 rw [hn]
 have g := deep_lp Kl turn n hn2 n 0 (Nat.zero_le _) rfl
 refine (askK_of g _).trans ?_
 simp only [ND]
 have hs : (bstr ((turns turn n).map openC)).size = n := by rw [bstr_size, List.length_map, turns_len]
 have hc := cnt_le (turns turn n)
 rw [turns_len] at hc
 have hs2 : (bstr (List.replicate (cntB (turns turn n)) 41)).size ≤ n := by rw [bstr_size, List.length_replicate]; exact hc
 have s4 : (bstr [116, 114, 117, 101]).size = 4 := rfl
 simp only [r_slen, r_cat]
 refine (br_ble (by rw [hs, s4]; omega) _ _).trans ?_
 refine (br_ble (by rw [ByteArray.size_append, hs, s4]; omega) _ _).trans ?_
 have e : bstr ((turns turn n).map openC) ++ bstr [116, 114, 117, 101] ++ bstr (List.replicate (cntB (turns turn n)) 41) = bstr (nestS (turns turn n) (cntB (turns turn n))) := by
  rw [cat_bs, cat_bs, List.append_assoc]
  rfl
 rw [e]
 have hp := parseCond_ok K Kb L Kw Kx A (bstr (nestS (turns turn n) (cntB (turns turn n)))) (by rw [bstr_size, nestS_len, turns_len]; omega)
 rw [bstr_data, pcond_nest _ (by rw [turns_len]; exact hn2), turns_len] at hp
 by_cases h60 : n ≤ 60
 ·rw [if_pos h60] at hp
  have hr := Right_ok Kt N (nestX (turns turn n)) (nestX_wz _)
  rw [nestX_right _ 0 (by rw [turns_len]; omega)] at hr
  unfold wholeA ifOk at hp
  simp only [if_true] at hp
  revert hp hr
  rcases nestX (turns turn n) with ⟨k, l, r, o, p, q, ks⟩
  intro hr hp
  simp only [eTr] at hp hr
  refine (askK_of hp _).trans ?_
  simp only [ND]
  refine (br_ltF (by omega)).trans ?_
  refine (br_eqT rfl).trans ?_
  refine (askK_of hr _).trans ?_
  simp only [ND]
 ·rw [if_neg h60, show wholeA T0 (1, 61, 102) = .tup [.agg (eTr T0), .agg [iv 1, iv 61], iv 102] from rfl] at hp
  refine (askK_of hp _).trans ?_
  simp only [T0, eTr, ND]
  refine (br_ltT (by omega)).trans ?_
  rfl
end
end Go.Proofs.YtlmhajfbpplpoaaGreat
