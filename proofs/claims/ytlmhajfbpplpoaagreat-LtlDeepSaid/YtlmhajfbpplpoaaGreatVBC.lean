/-
  What ltl's parser takes off tokens, and how far it comes. No program in sight.
  What a whole text comes to: the program's and the reference's.
  Functions of the program as trees: what a call comes to.
  Functions of the program as trees: what a call comes to.
-/
import Derived.Test.YtlmhajfbpplpoaaGreatVAU
import Derived.Test.YtlmhajfbpplpoaaGreatVBA
import Derived.Test.YtlmhajfbpplpoaaGreatVAS
set_option linter.unusedSectionVars false
set_option linter.unusedSimpArgs false
set_option linter.unusedVariables false
namespace Go.Proofs.YtlmhajfbpplpoaaGreat
open Go.RowKit

structure Pr where
 name : ByteArray
 locs : List ByteArray
 cmds : List (List AV)
def ePr (p : Pr) : List AV := [sv p.name, .ls (p.locs.map eS), .ls p.cmds]
def lmk (k : Int) (ks : List Tr) : Tr := .mk k [] [] 0 (bstr []) (bstr []) ks
section
variable (ts : List Tk) (vars : List ByteArray) (kn : Bool) (ps : List Pr)
def ltkB (i : Nat) : ByteArray := bstr (nx ts i).text
def lfindP (s : ByteArray) : Option Pr := ps.find? fun p => decide (p.name = s)
def lplaceP (i : Nat) : Nat × Nat × Tr :=
 if isN ts i = false then (i, 101, T0) else match lfindP ps (ltkB ts i) with
  | none => (i, 110, T0)
  | some p => if isT ts (i + 1) [46] = false then (i + 1, 101, T0) else if isN ts (i + 2) = false then (i + 2, 101, T0)
   else if ltkB ts (i + 2) ∉ p.locs then (i + 2, 110, T0) else (i + 3, 0, .mk 6 [] [] 0 (ltkB ts i) (ltkB ts (i + 2)) [])
def lpreP (i : Nat) : Option Int := if isT ts i [33] then some 3 else if isT ts i [88] then some 8 else if isT ts i [71] then some 9 else if isT ts i [70] then some 10 else none
inductive LJ where
 | prop
 | or
 | orL (x : Tr)
 | and
 | andL (x : Tr)
 | bin
 | un
def ljP : Nat → LJ → Nat → Nat → Nat × Nat × Tr
 | 0, _, i, _ => (i, 999, T0)
 | n + 1, .un, i, d =>
  if ((lpreP ts i).isSome || isT ts i [40]) = true ∧ d = 60 then (i, 102, T0)
  else match lpreP ts i with
   | some k => thenT (ljP n .un (i + 1) (d + 1)) fun j x => (j, 0, lmk k [x])
   | none => if isT ts i [40] then thenT (ljP n .prop (i + 1) (d + 1)) fun j x => if isT ts j [41] then (j + 1, 0, x) else (j, 101, T0)
    else if isT ts i [64] then lplaceP ts ps (i + 1)
    else if isT ts i [116, 114, 117, 101] then (i + 1, 0, lmk 0 [])
    else if isT ts i [102, 97, 108, 115, 101] then (i + 1, 0, lmk 1 [])
    else cmpP ts vars kn i
 | n + 1, .bin, i, d => thenT (ljP n .un i d) fun j x => if isT ts j [85] then thenT (ljP n .bin (j + 1) d) fun j2 y => (j2, 0, lmk 11 [x, y])
   else if isT ts j [82] then thenT (ljP n .bin (j + 1) d) fun j2 y => (j2, 0, lmk 12 [x, y]) else (j, 0, x)
 | n + 1, .and, i, d => thenT (ljP n .bin i d) fun j x => ljP n (.andL x) j d
 | n + 1, .andL x, i, d => if isT ts i [38] then thenT (ljP n .bin (i + 1) d) fun j y => ljP n (.andL (lmk 4 [x, y])) j d else (i, 0, x)
 | n + 1, .or, i, d => thenT (ljP n .and i d) fun j x => ljP n (.orL x) j d
 | n + 1, .orL x, i, d => if isT ts i [124] then thenT (ljP n .and (i + 1) d) fun j y => ljP n (.orL (lmk 5 [x, y])) j d else (i, 0, x)
 | n + 1, .prop, i, d => thenT (ljP n .or i d) fun j x => if isT ts j [45, 62] then thenT (ljP n .prop (j + 1) d) fun j2 y => (j2, 0, lmk 7 [x, y]) else (j, 0, x)
end
section
variable {ts : List Tk} (H : Toks ts) (vars : List ByteArray) (kn : Bool) (ps : List Pr)
include H
theorem lpreP_far {i : Nat} {k : Int} (h : lpreP ts i = some k) : i < ts.length := by
 unfold lpreP at h
 split at h
 ·rename_i g; exact H.isT g
 ·split at h
  ·rename_i g; exact H.isT g
  ·split at h
   ·rename_i g; exact H.isT g
   ·split at h
    ·rename_i g; exact H.isT g
    ·cases h
theorem lplaceP_far {i : Nat} (hi : i ≤ ts.length) : Far ts i (lplaceP ts ps i).1 (lplaceP ts ps i).2.1 := by
 have stay : ∀ e : Nat, e ≠ 0 → Far ts i i e := fun e he => ⟨Nat.le_refl _, hi, fun h => absurd h he⟩
 unfold lplaceP
 cases h1 : isN ts i with
 | false => exact stay _ (by simp)
 | true =>
  have l1 := H.isN h1
  rw [if_neg (by simp)]
  cases lfindP ps (ltkB ts i) with
  | none => exact stay _ (by simp)
  | some p =>
   simp only
   cases h2 : isT ts (i + 1) [46] with
   | false => exact ⟨by simp, by simp; omega, fun h => by simp at h⟩
   | true =>
    have l2 := H.isT h2
    rw [if_neg (by simp)]
    cases h3 : isN ts (i + 2) with
    | false => exact ⟨by simp, by simp; omega, fun h => by simp at h⟩
    | true =>
     have l3 := H.isN h3
     rw [if_neg (by simp)]
     split
     ·exact ⟨by simp, by simp; omega, fun h => by simp at h⟩
     ·exact ⟨by simp, by simp; omega, fun h => by simp⟩
def lfarJ (ts : List Tk) : LJ → Nat → Nat → Nat → Prop
 | .orL _, i, j, _ => i ≤ j ∧ j ≤ ts.length
 | .andL _, i, j, _ => i ≤ j ∧ j ≤ ts.length
 | _, i, j, e => Far ts i j e
omit H in
theorem thenT_far {i : Nat} {q : Nat × Nat × Tr} {k : Nat → Tr → Nat × Nat × Tr} (hq : Far ts i q.1 q.2.1) (hk : ∀ j x, i < j → j ≤ ts.length → j ≤ (k j x).1 ∧ (k j x).1 ≤ ts.length) : Far ts i (thenT q k).1 (thenT q k).2.1 := by
 unfold thenT
 split
 ·rename_i h
  have h1 := hq.gt h
  have h2 := hk q.1 q.2.2 h1 hq.le
  exact ⟨by omega, h2.2, fun _ => by omega⟩
 ·exact hq
theorem ljP_far : ∀ (n : Nat) (j : LJ) (i d : Nat), i ≤ ts.length → lfarJ ts j i (ljP ts vars kn ps n j i d).1 (ljP ts vars kn ps n j i d).2.1 := by
 intro n
 induction n with
 | zero => intro j i d hi; cases j <;> first | exact ⟨Nat.le_refl _, hi, fun h => absurd h (by simp [ljP])⟩ | exact ⟨Nat.le_refl _, hi⟩
 | succ n ih =>
  intro j i d hi
  have stay : ∀ e : Nat, e ≠ 0 → Far ts i i e := fun e he => ⟨Nat.le_refl _, hi, fun h => absurd h he⟩
  have up : ∀ {a b e : Nat}, a < b → Far ts b e 0 → Far ts a e 0 := fun h f => ⟨by have := f.ge; omega, f.le, fun _ => by have := f.ge; omega⟩
  cases j with
  | un =>
   unfold ljP lfarJ
   dsimp only
   split
   ·exact stay _ (by simp)
   ·split
    ·rename_i k hk
     have hl := lpreP_far H hk
     have m : Far ts (i + 1) _ _ := ih .un (i + 1) (d + 1) hl
     have m2 := thenT_far m (k := fun j x => (j, 0, lmk k [x])) (fun j x h1 h2 => ⟨Nat.le_refl _, h2⟩)
     exact ⟨by have := m2.ge; omega, m2.le, fun h => by have := m2.ge; omega⟩
    ·split
     ·rename_i h
      have m : Far ts (i + 1) _ _ := ih .prop (i + 1) (d + 1) (H.isT h)
      have m2 := thenT_far m (k := fun j x => if isT ts j [41] then (j + 1, 0, x) else (j, 101, T0)) (fun j x h1 h2 => by
       split
       ·rename_i h
        exact ⟨Nat.le_succ _, H.isT h⟩
       ·exact ⟨Nat.le_refl _, h2⟩)
      exact ⟨by have := m2.ge; omega, m2.le, fun h => by have := m2.ge; omega⟩
     ·split
      ·rename_i h
       have m2 := lplaceP_far H ps (show i + 1 ≤ ts.length from H.isT h)
       exact ⟨by have := m2.ge; omega, m2.le, fun h => by have := m2.ge; omega⟩
      ·split
       ·rename_i h; exact ⟨Nat.le_succ _, H.isT h, fun _ => Nat.lt_succ_self _⟩
       ·split
        ·rename_i h; exact ⟨Nat.le_succ _, H.isT h, fun _ => Nat.lt_succ_self _⟩
        ·exact cmpP_far H vars kn hi
  | bin =>
   unfold ljP lfarJ
   dsimp only
   refine thenT_far (ih .un i d hi) fun j x h1 h2 => ?_
   split
   ·rename_i h
    have m : Far ts (j + 1) _ _ := ih .bin (j + 1) d (H.isT h)
    have m2 := thenT_far m (k := fun j2 y => (j2, 0, lmk 11 [x, y])) (fun j x h1 h2 => ⟨Nat.le_refl _, h2⟩)
    exact ⟨by have := m2.ge; omega, m2.le⟩
   ·split
    ·rename_i h
     have m : Far ts (j + 1) _ _ := ih .bin (j + 1) d (H.isT h)
     have m2 := thenT_far m (k := fun j2 y => (j2, 0, lmk 12 [x, y])) (fun j x h1 h2 => ⟨Nat.le_refl _, h2⟩)
     exact ⟨by have := m2.ge; omega, m2.le⟩
    ·exact ⟨Nat.le_refl _, h2⟩
  | and =>
   unfold ljP lfarJ
   dsimp only
   exact thenT_far (ih .bin i d hi) fun j x h1 h2 => ih (.andL x) j d h2
  | or =>
   unfold ljP lfarJ
   dsimp only
   exact thenT_far (ih .and i d hi) fun j x h1 h2 => ih (.orL x) j d h2
  | prop =>
   unfold ljP lfarJ
   dsimp only
   refine thenT_far (ih .or i d hi) fun j x h1 h2 => ?_
   split
   ·rename_i h
    have m : Far ts (j + 1) _ _ := ih .prop (j + 1) d (H.isT h)
    have m2 := thenT_far m (k := fun j2 y => (j2, 0, lmk 7 [x, y])) (fun j x h1 h2 => ⟨Nat.le_refl _, h2⟩)
    exact ⟨by have := m2.ge; omega, m2.le⟩
   ·exact ⟨Nat.le_refl _, h2⟩
  | andL x =>
   unfold ljP lfarJ
   dsimp only
   split
   ·rename_i h
    have m : Far ts (i + 1) _ _ := ih .bin (i + 1) d (H.isT h)
    have m2 := thenT_far m (k := fun j y => ljP ts vars kn ps n (.andL (lmk 4 [x, y])) j d) (fun j y h1 h2 => ih (.andL _) j d h2)
    exact ⟨by have := m2.ge; omega, m2.le⟩
   ·exact ⟨Nat.le_refl _, hi⟩
  | orL x =>
   unfold ljP lfarJ
   dsimp only
   split
   ·rename_i h
    have m : Far ts (i + 1) _ _ := ih .and (i + 1) d (H.isT h)
    have m2 := thenT_far m (k := fun j y => ljP ts vars kn ps n (.orL (lmk 5 [x, y])) j d) (fun j y h1 h2 => ih (.orL _) j d h2)
    exact ⟨by have := m2.ge; omega, m2.le⟩
   ·exact ⟨Nat.le_refl _, hi⟩
def lneedJ (ts : List Tk) : LJ → Nat → Nat
 | .un, i => 8 * (ts.length - i) + 1
 | .bin, i => 8 * (ts.length - i) + 2
 | .and, i => 8 * (ts.length - i) + 3
 | .andL _, i => 8 * (ts.length - i) + 3
 | .or, i => 8 * (ts.length - i) + 4
 | .orL _, i => 8 * (ts.length - i) + 4
 | .prop, i => 8 * (ts.length - i) + 5
end
def lpropP (ts : List Tk) (vars : List ByteArray) (kn : Bool) (ps : List Pr) : Nat × Nat × Tr := ljP ts vars kn ps (8 * ts.length + 5) .prop 0 0
end Go.Proofs.YtlmhajfbpplpoaaGreat
namespace Go.Proofs.YtlmhajfbpplpoaaGreat
open Go.RowKit

def endP (ts : List Tk) (i e : Nat) : Nat × Nat × Nat := if e = 0 then (if (nx ts i).kind = 5 then (0, 0, 0) else ((nx ts i).ln, (nx ts i).co, 101)) else ((nx ts i).ln, (nx ts i).co, e)
def ifOk (e : Nat) (x : Tr) : Tr := if e = 0 then x else T0
def wholeA (x : Tr) (q : Nat × Nat × Nat) : AV := .tup [.agg (eTr (ifOk q.2.2 x)), .agg [iv (q.1 : Int), iv (q.2.1 : Int)], iv (q.2.2 : Int)]
section
variable {D : Orc}
end
structure AllF (D : Orc) (s : ByteArray) (ts : List Tk) (ln co e : Nat) : Prop where
 all : D.ask (.fn 91) [sv s] [] = some (.tup [.ls (ts.map eTk), .agg [iv (ln : Int), iv (co : Int)], iv (e : Int)], [])
 rall : D.ask (.fn 50) [sv s] [] = some (.tup [.ls (ts.map eTk), .agg [iv (ln : Int), iv (co : Int)], iv (e : Int)], [])
 zero : e = 0 → ln = 0 ∧ co = 0
theorem not_same (a b : Int) : realA.not (realA.band (realA.eq a a) (realA.band (realA.eq b b) true)) = false := by
 rw [r_eq, r_eq, decide_eq_true rfl, decide_eq_true rfl]
 rfl
end Go.Proofs.YtlmhajfbpplpoaaGreat
namespace Go.Proofs.YtlmhajfbpplpoaaGreat
open Go.RowKit
def hs48 : Hints := []
noncomputable def mf48 : MFn := mfD Tryz.prog entsC hs48 false false 48
def hs15 : Hints := []
noncomputable def mf15 : MFn := mfD Tryz.prog entsC hs15 false false 15
def hs17 : Hints := []
noncomputable def mf17 : MFn := mfD Tryz.prog entsC hs17 false false 17
noncomputable def tabWb : List (Nat × MFn) := [(48, mf48), (15, mf15), (17, mf17)]
end Go.Proofs.YtlmhajfbpplpoaaGreat
namespace Go.Proofs.YtlmhajfbpplpoaaGreat
open Go.RowKit
def hs16 : Hints := []
noncomputable def mf16 : MFn := mfD Tryz.prog entsC hs16 false false 16
def hs18 : Hints := []
noncomputable def mf18 : MFn := mfD Tryz.prog entsC hs18 false false 18
noncomputable def tabRb : List (Nat × MFn) := [(16, mf16), (18, mf18)]
end Go.Proofs.YtlmhajfbpplpoaaGreat
