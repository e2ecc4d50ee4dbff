/-
  What a text's tokens are: over lists of bytes. No program in sight.
  What a cursor takes off tokens: sums, comparisons, conditions; and how that lies in cells. No program in sight.
-/
import Derived.ProofKit
import Derived.Test.YtlmhajfbpplpoaaQ7
set_option linter.unusedSectionVars false
set_option linter.unusedSimpArgs false
set_option linter.unusedVariables false
namespace Go.Proofs.Ytlmhajfbpplpoaa

def lowB (c : UInt8) : Bool := decide (97 ≤ c.toNat) && decide (c.toNat ≤ 122)
def digB (c : UInt8) : Bool := decide (48 ≤ c.toNat) && decide (c.toNat ≤ 57)
def innB (c : UInt8) : Bool := lowB c || digB c || (c.toNat == 95)
def bigB (c : UInt8) : Bool := [88, 71, 70, 85, 82].contains c.toNat
/-- How many bytes at the front are so. -/
def span (p : UInt8 → Bool) : List UInt8 → Nat
  | [] => 0
  | c :: l => if p c then span p l + 1 else 0
/-- How many bytes at the front stand between tokens; in a remark or not. -/
def gap : Bool → List UInt8 → Nat
  | _, [] => 0
  | r, c :: l => if c.toNat = 10 then gap false l + 1 else if r then gap true l + 1 else if c.toNat = 35 then gap true l + 1 else if c.toNat = 32 ∨ c.toNat = 9 then gap false l + 1 else 0
/-- The place behind a byte. -/
def adv1 (p : Nat × Nat) (c : UInt8) : Nat × Nat := if c.toNat = 10 then (p.1 + 1, 1) else (p.1, p.2 + 1)
def adv (p : Nat × Nat) (l : List UInt8) : Nat × Nat := l.foldl adv1 p
/-- The signs, the longer ones ahead. -/
def sgns : List (List UInt8) := [[45, 62], [58, 61], [33, 61], [60, 61], [62, 61], [46, 46], [40], [41], [44], [59], [58], [46], [43], [42], [38], [124], [33], [64], [61], [60], [62], [47], [45]]
def sgnLen (l : List UInt8) : Nat := match sgns.find? (·.isPrefixOf l) with | some x => x.length | none => 0

inductive Tok1
  | fin
  | err (e : Nat)
  | tok (kind n : Nat)
  deriving DecidableEq
/-- What begins at the front. -/
def tok1 : List UInt8 → Tok1
  | [] => .fin
  | c :: l =>
    if lowB c then (if 20 < span innB (c :: l) then .err 2 else .tok 1 (span innB (c :: l)))
    else if digB c then (if 60 < span digB (c :: l) then .err 2 else if 1 < span digB (c :: l) ∧ c.toNat = 48 then .err 20 else .tok 3 (span digB (c :: l)))
    else if bigB c then .tok 4 1
    else if sgnLen (c :: l) = 0 then .err 100 else .tok 2 (sgnLen (c :: l))

theorem tok1_cons (c : UInt8) (l : List UInt8) : tok1 (c :: l) =
    if lowB c then (if 20 < span innB (c :: l) then .err 2 else .tok 1 (span innB (c :: l)))
    else if digB c then (if 60 < span digB (c :: l) then .err 2 else if 1 < span digB (c :: l) ∧ c.toNat = 48 then .err 20 else .tok 3 (span digB (c :: l)))
    else if bigB c then .tok 4 1
    else if sgnLen (c :: l) = 0 then .err 100 else .tok 2 (sgnLen (c :: l)) := rfl

def numB (l : List UInt8) : Bool := !l.isEmpty && decide (l.length ≤ 60) && !(decide (1 < l.length) && (l.getD 0 0).toNat == 48) && l.all digB
def wordB (l : List UInt8) : Bool := !l.isEmpty && decide (l.length ≤ 20) && lowB (l.getD 0 0) && l.all innB
def resL : List (List UInt8) := [[116, 114, 117, 101], [102, 97, 108, 115, 101], [118, 97, 114], [105, 110], [105, 110, 105, 116], [112, 114, 111, 99], [108, 111, 99], [101, 110, 100]]
def resB (l : List UInt8) : Bool := resL.contains l
def nameB (l : List UInt8) : Bool := wordB l && !resB l
structure Tk where
  kind : Nat
  text : List UInt8
  ln : Nat
  co : Nat
  deriving DecidableEq
inductive LexR
  | ok (ts : List Tk)
  | err (e ln co : Nat)
  deriving DecidableEq
def LexR.more (t : Tk) : LexR → LexR
  | .ok ts => .ok (t :: ts)
  | .err e ln co => .err e ln co

theorem span_le (p : UInt8 → Bool) : ∀ l : List UInt8, span p l ≤ l.length
  | [] => Nat.le_refl _
  | c :: l => by
    unfold span
    have := span_le p l
    split
    · simp; omega
    · simp
theorem gap_le : ∀ (r : Bool) (l : List UInt8), gap r l ≤ l.length
  | _, [] => Nat.le_refl _
  | r, c :: l => by
    have h1 := gap_le true l
    have h2 := gap_le false l
    unfold gap
    rw [List.length_cons]
    repeat' split
    all_goals omega
theorem sgnLen_le (l : List UInt8) : sgnLen l ≤ l.length := by
  unfold sgnLen
  split
  · rename_i x h
    have := List.find?_some h
    exact (List.isPrefixOf_iff_prefix.1 this).length_le
  · omega
theorem tok1_len {l : List UInt8} {k n : Nat} (h : tok1 l = .tok k n) : 0 < n ∧ n ≤ l.length := by
  cases l with
  | nil => simp [tok1] at h
  | cons c l =>
    have h1 := span_le innB (c :: l)
    have h2 := span_le digB (c :: l)
    have h3 := sgnLen_le (c :: l)
    rw [tok1_cons] at h
    split at h
    · rename_i hc
      have h4 : 0 < span innB (c :: l) := by unfold span; rw [if_pos (by simp [innB, hc])]; omega
      split at h
      · simp at h
      · simp at h; omega
    split at h
    · rename_i hc
      have h4 : 0 < span digB (c :: l) := by unfold span; rw [if_pos hc]; omega
      split at h
      · simp at h
      · split at h
        · simp at h
        · simp at h; omega
    split at h
    · simp at h
      rw [List.length_cons]; omega
    split at h
    · simp at h
    · simp at h; omega

/-- The tokens of what is left of a text; the place is that of its first byte. -/
def lexL (l : List UInt8) (p : Nat × Nat) : LexR :=
  let k := gap false l
  let q := adv p (l.take k)
  match _h : tok1 (l.drop k) with
  | .fin => .ok [⟨5, [], q.1, q.2⟩]
  | .err e => .err e q.1 q.2
  | .tok kind n => (lexL (l.drop (k + n)) (adv q ((l.drop k).take n))).more ⟨kind, (l.drop k).take n, q.1, q.2⟩
termination_by l.length
decreasing_by
  have h1 := tok1_len _h
  rw [List.length_drop] at h1 ⊢
  omega
def lexAll (s : List UInt8) : LexR := if 16384 < s.length then .err 2 1 1 else lexL s (1, 1)

theorem lexL_eq (l : List UInt8) (p : Nat × Nat) : lexL l p = match tok1 (l.drop (gap false l)) with
    | .fin => .ok [⟨5, [], (adv p (l.take (gap false l))).1, (adv p (l.take (gap false l))).2⟩]
    | .err e => .err e (adv p (l.take (gap false l))).1 (adv p (l.take (gap false l))).2
    | .tok kind n => (lexL (l.drop (gap false l + n)) (adv (adv p (l.take (gap false l))) ((l.drop (gap false l)).take n))).more ⟨kind, (l.drop (gap false l)).take n, (adv p (l.take (gap false l))).1, (adv p (l.take (gap false l))).2⟩ := by
  rw [lexL]
  split <;> rename_i h <;> simp only [h]
end Go.Proofs.Ytlmhajfbpplpoaa
namespace Go.Proofs.Ytlmhajfbpplpoaa
open Go.RowKit

def eS (s : ByteArray) : List AV := [sv s]
def eTk (t : Tk) : List AV := [iv t.kind, sv (bstr t.text), iv t.ln, iv t.co]
theorem bstr_inj {a b : List UInt8} : bstr a = bstr b ↔ a = b := by
  unfold bstr
  constructor
  · intro h
    simpa using h
  · intro h; rw [h]
structure Mo where
  neg : Bool
  num : ByteArray
  var : ByteArray
def eMo (m : Mo) : List AV := [bv m.neg, sv m.num, sv m.var]
inductive Tr where
  | mk (kind : Int) (l r : List Mo) (op : Int) (proc loc : ByteArray) (kids : List Tr)
mutual
def eTr : Tr → List AV
  | .mk k l r op p q ks => [iv k, .ls (l.map eMo), .ls (r.map eMo), iv op, sv p, sv q, .ls (eTrs ks)]
def eTrs : List Tr → List (List AV)
  | [] => []
  | x :: r => eTr x :: eTrs r
end
theorem eTrs_map : ∀ l, eTrs l = l.map eTr
  | [] => rfl
  | x :: r => by simp [eTrs, eTrs_map r]
def T0 : Tr := .mk 0 [] [] 0 (bstr []) (bstr []) []
/-- The token that is next. -/
def nx (ts : List Tk) (i : Nat) : Tk := match ts[i]? with
  | some t => t
  | none => ts.getLastD ⟨5, [], 0, 0⟩
def isT (ts : List Tk) (i : Nat) (s : List UInt8) : Bool := decide ((nx ts i).text = s) && (decide ((nx ts i).kind = 1) || decide ((nx ts i).kind = 2) || decide ((nx ts i).kind = 4))
def isN (ts : List Tk) (i : Nat) : Bool := decide ((nx ts i).kind = 1) && nameB (nx ts i).text
section
variable (ts : List Tk) (vars : List ByteArray) (kn : Bool)
/-- Where one stands, the error, the name. -/
def varP (i : Nat) : Nat × Nat × ByteArray := if isN ts i = false then (i, 101, bstr []) else if kn = true ∧ bstr (nx ts i).text ∉ vars then (i, 110, bstr []) else (i + 1, 0, bstr (nx ts i).text)
def monoP (i : Nat) (neg : Bool) : Nat × Nat × Mo :=
  if (nx ts i).kind = 3 then (if isT ts (i + 1) [42] then ((varP ts vars kn (i + 2)).1, (varP ts vars kn (i + 2)).2.1, ⟨neg, bstr (nx ts i).text, (varP ts vars kn (i + 2)).2.2⟩)
    else (i + 1, 0, ⟨neg, bstr (nx ts i).text, bstr []⟩))
  else ((varP ts vars kn i).1, (varP ts vars kn i).2.1, ⟨neg, bstr [], (varP ts vars kn i).2.2⟩)
def begP (i : Nat) : Bool := decide ((nx ts i).kind = 3) || isN ts i
/-- k more summands may come. -/
def sumL : Nat → List Mo → Bool → Nat → Nat × Nat × List Mo
  | k, out, neg, i => if begP ts i = false then (i, 101, []) else match k with
    | 0 => (i, 3, [])
    | k + 1 => if (monoP ts vars kn i neg).2.1 ≠ 0 then ((monoP ts vars kn i neg).1, (monoP ts vars kn i neg).2.1, [])
      else if isT ts (monoP ts vars kn i neg).1 [45] then sumL k (out ++ [(monoP ts vars kn i neg).2.2]) true ((monoP ts vars kn i neg).1 + 1)
      else if isT ts (monoP ts vars kn i neg).1 [43] then sumL k (out ++ [(monoP ts vars kn i neg).2.2]) false ((monoP ts vars kn i neg).1 + 1)
      else ((monoP ts vars kn i neg).1, 0, out ++ [(monoP ts vars kn i neg).2.2])
def sumP (i : Nat) : Nat × Nat × List Mo := if isT ts i [45] then sumL ts vars kn 64 [] true (i + 1) else sumL ts vars kn 64 [] false i
/-- The comparisons' signs, each at its number. -/
def opsL : List (List UInt8) := [[61], [33, 61], [60], [60, 61], [62], [62, 61]]
def opP (i : Nat) : Option Nat := opsL.findIdx? (isT ts i)
def cmpP (i : Nat) : Nat × Nat × Tr :=
  if (sumP ts vars kn i).2.1 ≠ 0 then ((sumP ts vars kn i).1, (sumP ts vars kn i).2.1, T0) else match opP ts (sumP ts vars kn i).1 with
    | none => ((sumP ts vars kn i).1, 101, T0)
    | some op => if (sumP ts vars kn ((sumP ts vars kn i).1 + 1)).2.1 ≠ 0 then ((sumP ts vars kn ((sumP ts vars kn i).1 + 1)).1, (sumP ts vars kn ((sumP ts vars kn i).1 + 1)).2.1, T0)
      else ((sumP ts vars kn ((sumP ts vars kn i).1 + 1)).1, 0, .mk 2 (sumP ts vars kn i).2.2 (sumP ts vars kn ((sumP ts vars kn i).1 + 1)).2.2 op (bstr []) (bstr []) [])
/-- What is to be taken. -/
inductive Jb where
  | one
  | both
  | bothL (x : Tr)
  | cond
  | condL (x : Tr)
def failT (q : Nat × Nat × Tr) : Nat × Nat × Tr := (q.1, q.2.1, T0)
def thenT (q : Nat × Nat × Tr) (k : Nat → Tr → Nat × Nat × Tr) : Nat × Nat × Tr := if q.2.1 = 0 then k q.1 q.2.2 else failT q
def jbP : Nat → Jb → Nat → Nat → Nat × Nat × Tr
  | 0, _, i, _ => (i, 999, T0)
  | n + 1, .one, i, d =>
    if (isT ts i [33] || isT ts i [40]) = true ∧ d = 60 then (i, 102, T0)
    else if isT ts i [116, 114, 117, 101] then (i + 1, 0, .mk 0 [] [] 0 (bstr []) (bstr []) [])
    else if isT ts i [102, 97, 108, 115, 101] then (i + 1, 0, .mk 1 [] [] 0 (bstr []) (bstr []) [])
    else if isT ts i [33] then thenT (jbP n .one (i + 1) (d + 1)) fun j x => (j, 0, .mk 3 [] [] 0 (bstr []) (bstr []) [x])
    else if isT ts i [40] then thenT (jbP n .cond (i + 1) (d + 1)) fun j x => if isT ts j [41] then (j + 1, 0, x) else (j, 101, T0)
    else cmpP ts vars kn i
  | n + 1, .both, i, d => thenT (jbP n .one i d) fun j x => jbP n (.bothL x) j d
  | n + 1, .bothL x, i, d => if isT ts i [38] then thenT (jbP n .one (i + 1) d) fun j y => jbP n (.bothL (.mk 4 [] [] 0 (bstr []) (bstr []) [x, y])) j d else (i, 0, x)
  | n + 1, .cond, i, d => thenT (jbP n .both i d) fun j x => jbP n (.condL x) j d
  | n + 1, .condL x, i, d => if isT ts i [124] then thenT (jbP n .both (i + 1) d) fun j y => jbP n (.condL (.mk 5 [] [] 0 (bstr []) (bstr []) [x, y])) j d else (i, 0, x)
/-- A cursor. -/
def cuB (i : Nat) : ABlk := ABlk.mk [.ls (ts.map eTk), iv (i : Int), .ls (vars.map eS), bv kn] true false
/-- A tape. -/
def cuA (i : Nat) : AV := .agg [.ls (ts.map eTk), iv (i : Int), .ls (vars.map eS), bv kn]
end
end Go.Proofs.Ytlmhajfbpplpoaa
