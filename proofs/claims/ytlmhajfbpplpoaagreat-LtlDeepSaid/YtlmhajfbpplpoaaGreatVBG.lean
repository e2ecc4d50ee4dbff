/-
  Which trees are right; what they are as text. No program in sight.
  Signs ahead and brackets, nested: what the lexer and the parser make of them. No program in sight.
  Trees as texts; their tokens. No program in sight.
-/
import Derived.Test.YtlmhajfbpplpoaaGreatVAU
import Derived.Test.YtlmhajfbpplpoaaGreatVBE
import Derived.Test.YtlmhajfbpplpoaaGreatVBF
set_option linter.unusedSectionVars false
set_option linter.unusedSimpArgs false
set_option linter.unusedVariables false
namespace Go.Proofs.YtlmhajfbpplpoaaGreat
open Go.RowKit

def Tr.kind : Tr → Int
 | .mk k _ _ _ _ _ _ => k
def Tr.kids : Tr → List Tr
 | .mk _ _ _ _ _ _ ks => ks
def bareB : Tr → Bool
 | .mk _ l r op p q _ => decide (l.length = 0) && decide (r.length = 0) && decide (op = 0) && decide (p = bstr []) && decide (q = bstr [])
def cmpB : Tr → Bool
 | .mk k l r op p q ks => decide (k = 2) && rsB l && rsB r && decide (0 ≤ op) && decide (op ≤ 5) && decide (p = bstr []) && decide (q = bstr []) && decide (ks.length = 0)
def arI (k : Int) : Int := if k = 0 then 0 else if k = 1 then 0 else if k = 3 then 1 else if k = 4 then 2 else if k = 5 then 2 else -1
def brk (p : Int) (i : Nat) (k : Int) : Bool := if p = 3 then decide (k = 4) || decide (k = 5) else if p = 4 then decide (k = 5) || (decide (i = 1) && decide (k = 4)) else if p = 5 then decide (i = 1) && decide (k = 5) else false
def upD (b : Bool) (d : Nat) : Nat := if b then d + 1 else d
mutual
def rightB : Tr → Nat → Bool
 | .mk k l r op p q ks, d => if k = 2 then cmpB (.mk k l r op p q ks) else bareB (.mk k l r op p q ks) && decide ((ks.length : Int) = arI k) && decide (upD (decide (k = 3)) d ≤ 60) && kidsB k (upD (decide (k = 3)) d) 0 ks
def kidsB (k : Int) (d : Nat) : Nat → List Tr → Bool
 | _, [] => true
 | i, x :: r => (decide (upD (brk k i x.kind) d ≤ 60) && rightB x (upD (brk k i x.kind) d)) && kidsB k d (i + 1) r
end
inductive WzT : Tr → Prop where
 | mk {k : Int} {l r : List Mo} {op : Int} {p q : ByteArray} {ks : List Tr} (hl : l.length < 4611686018427387904) (hr : r.length < 4611686018427387904) (hk : ks.length < 4611686018427387904)
  (zl : ∀ m ∈ l, m.num.size ≤ 9223372036854775807 ∧ m.var.size ≤ 9223372036854775807) (zr : ∀ m ∈ r, m.num.size ≤ 9223372036854775807 ∧ m.var.size ≤ 9223372036854775807) (h : ∀ x ∈ ks, WzT x) : WzT (.mk k l r op p q ks)
end Go.Proofs.YtlmhajfbpplpoaaGreat
namespace Go.Proofs.YtlmhajfbpplpoaaGreat
open Go.RowKit

def openC (b : Bool) : UInt8 := if b then 40 else 33
def closes : Nat → Nat → List Tk
 | 0, co => [⟨5, [], 1, co⟩]
 | m + 1, co => ⟨2, [41], 1, co⟩ :: closes m (co + 1)
def nestT : List Bool → Nat → Nat → List Tk
 | [], m, co => ⟨1, [116, 114, 117, 101], 1, co⟩ :: closes m (co + 4)
 | b :: r, m, co => ⟨2, [openC b], 1, co⟩ :: nestT r m (co + 1)
theorem lex_one (c : UInt8) (l : List UInt8) (co : Nat) (h1 : gap false (c :: l) = 0) (h2 : tok1 (c :: l) = .tok 2 1) (h3 : c.toNat ≠ 10) : lexL (c :: l) (1, co) = (lexL l (1, co + 1)).more ⟨2, [c], 1, co⟩ := by
 rw [lexL_eq, h1]
 simp only [List.drop_zero, List.take_zero, h2, adv, List.foldl_nil, List.drop_one, List.tail_cons, List.take_succ_cons, List.foldl_cons, adv1, if_neg h3, Nat.zero_add]
theorem lex_closes : ∀ (m co : Nat), lexL (List.replicate m 41) (1, co) = .ok (closes m co)
 | 0, co => by
  rw [lexL_eq]
  rfl
 | m + 1, co => by
  rw [List.replicate_succ, lex_one 41 _ co rfl ?_ (by decide), lex_closes m (co + 1)]
  ·rfl
  ·cases m with
   | zero => decide
   | succ m =>
    rw [List.replicate_succ, tok1_cons, sgn_two]
    rfl
theorem lex_true (m co : Nat) : lexL ([116, 114, 117, 101] ++ List.replicate m 41) (1, co) = .ok (nestT [] m co) := by
 have h : tok1 ([116, 114, 117, 101] ++ List.replicate m 41) = .tok 1 4 := by
  cases m with
  | zero => decide
  | succ m =>
   rw [List.replicate_succ]
   rfl
 have hg : gap false ([116, 114, 117, 101] ++ List.replicate m 41) = 0 := rfl
 rw [lexL_eq, hg]
 simp only [List.drop_zero, h]
 have e1 : ([116, 114, 117, 101] ++ List.replicate m 41 : List UInt8).drop (0 + 4) = List.replicate m 41 := rfl
 have e2 : ([116, 114, 117, 101] ++ List.replicate m 41 : List UInt8).take 4 = [116, 114, 117, 101] := rfl
 rw [e1, e2]
 have e3 : adv (adv (1, co) (List.take 0 ([116, 114, 117, 101] ++ List.replicate m 41 : List UInt8))) [116, 114, 117, 101] = (1, co + 4) := rfl
 rw [e3, lex_closes]
 rfl
section
variable {ts : List Tk} {vars : List ByteArray} {kn : Bool}
theorem nx_drop {i : Nat} {t : Tk} {r : List Tk} (h : ts.drop i = t :: r) : nx ts i = t ∧ ts.drop (i + 1) = r := by
 have h1 : ts[i]? = some t := by
  have := congrArg (fun l => l[0]?) h
  simpa using this
 refine ⟨by unfold nx; rw [h1], ?_⟩
 have := congrArg (List.drop 1) h
 rw [List.drop_drop] at this
 simpa [Nat.add_comm] using this
theorem isT_drop {i : Nat} {t : Tk} {r : List Tk} (h : ts.drop i = t :: r) (s : List UInt8) : isT ts i s = (decide (t.text = s) && (decide (t.kind = 1) || decide (t.kind = 2) || decide (t.kind = 4))) := by
 unfold isT
 rw [(nx_drop h).1]
end
end Go.Proofs.YtlmhajfbpplpoaaGreat
namespace Go.Proofs.YtlmhajfbpplpoaaGreat
open Go.RowKit

def cmpTx (l r : List Mo) (op : Int) : List UInt8 := sumTxt l ++ [32] ++ opsL.getD op.toNat [] ++ [32] ++ sumTxt r
def joinTx (k : Int) (ts : List (List UInt8)) : List UInt8 := if k = 3 then [33] ++ ts.getD 0 [] else if k = 4 then ts.getD 0 [] ++ [32, 38, 32] ++ ts.getD 1 [] else if k = 5 then ts.getD 0 [] ++ [32, 124, 32] ++ ts.getD 1 [] else [116, 114, 117, 101]
mutual
def txt : Tr → List UInt8
 | .mk k l r op p q ks => if k = 1 then [102, 97, 108, 115, 101] else if k = 2 then (if cmpB (.mk k l r op p q ks) then cmpTx l r op else []) else joinTx k (kidTx k 0 ks)
def kidTx (k : Int) : Nat → List Tr → List (List UInt8)
 | _, [] => []
 | i, x :: r => (if brk k i x.kind then [40] ++ txt x ++ [41] else txt x) :: kidTx k (i + 1) r
end
abbrev KT := Nat × List UInt8
def moK (m : Mo) : List KT := if m.num ≠ bstr [] then (if m.var ≠ bstr [] then [(3, m.num.data.toList), (2, [42]), (1, m.var.data.toList)] else [(3, m.num.data.toList)]) else [(1, m.var.data.toList)]
def sepK (i : Nat) (m : Mo) : List KT := if m.neg then [(2, [45])] else if i = 0 then [] else [(2, [43])]
def sumK : Nat → List Mo → List KT
 | _, [] => []
 | i, m :: r => sepK i m ++ moK m ++ sumK (i + 1) r
def joinK (k : Int) (ts : List (List KT)) : List KT := if k = 3 then [(2, [33])] ++ ts.getD 0 [] else if k = 4 then ts.getD 0 [] ++ [(2, [38])] ++ ts.getD 1 [] else if k = 5 then ts.getD 0 [] ++ [(2, [124])] ++ ts.getD 1 [] else [(1, [116, 114, 117, 101])]
mutual
def txtK : Tr → List KT
 | .mk k l r op _ _ ks => if k = 1 then [(1, [102, 97, 108, 115, 101])] else if k = 2 then sumK 0 l ++ [(2, opsL.getD op.toNat [])] ++ sumK 0 r else joinK k (kidK k 0 ks)
def kidK (k : Int) : Nat → List Tr → List (List KT)
 | _, [] => []
 | i, x :: r => (if brk k i x.kind then [(2, [40])] ++ txtK x ++ [(2, [41])] else txtK x) :: kidK k (i + 1) r
end
end Go.Proofs.YtlmhajfbpplpoaaGreat
