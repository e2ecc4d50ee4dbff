/-
  An operation with its types' sizes resolved does what the operation does. No program in sight.
  The operations one by one: what the resolved operation computes, the operation computes. No program in sight.
  A region with its types' sizes resolved does what the region does. No program in sight.
-/
import Derived.Test.YtlmhajfbpplpoaaQ5
set_option linter.unusedSectionVars false
set_option linter.unusedSimpArgs false
set_option linter.unusedVariables false
namespace Go.Proofs.Ytlmhajfbpplpoaa
open Go.RowKit

section
variable {P : Program}
@[simp] theorem pureRun_pure {α : Type} (a : α) : pureRun P (pure a : Sem α) = some a := rfl
@[simp] theorem pureRun_pure' {α : Type} (a : α) : pureRun P (Sem.pure a : Sem α) = some a := rfl
theorem pureRun_bind' {α β : Type} (k : α → Sem β) : ∀ (s : Sem α), pureRun P (s.bind k) = (pureRun P s).bind fun a => pureRun P (k a)
  | .pure a => rfl
  | .program f => by simp only [Sem.bind, pureRun]; exact pureRun_bind' k (f P)
  | .load .. => rfl
  | .store .. => rfl
  | .new .. => rfl
  | .shape .. => rfl
  | .freeze .. => rfl
  | .frozen .. => rfl
  | .getObj .. => rfl
  | .setObj .. => rfl
  | .choose .. => rfl
  | .sys .. => rfl
  | .mark .. => rfl
  | .halt .. => rfl
@[simp] theorem pureRun_bind {α β : Type} (s : Sem α) (k : α → Sem β) : pureRun P (s >>= k) = (pureRun P s).bind fun a => pureRun P (k a) := pureRun_bind' k s
@[simp] theorem pureRun_program : pureRun P program = some P := rfl
theorem pureRun_underlying {t : TypeId} {d : TypeDesc} (h : P.underlying t = some d) : pureRun P (underlying t) = some d := by
  unfold underlying
  simp [h]
theorem kind_ptr {t : TypeId} (h : kindT P t = 1) : ∃ e, P.underlying t = some (.pointer e) := by
  unfold kindT at h
  split at h <;> first | exact ⟨_, ‹_›⟩ | cases h
theorem kind_sl {t : TypeId} (h : kindT P t = 2) : ∃ e, P.underlying t = some (.slice e) := by
  unfold kindT at h
  split at h <;> first | exact ⟨_, ‹_›⟩ | cases h
theorem kind_fn {t : TypeId} (h : kindT P t = 3) : ∃ a b c, P.underlying t = some (.func a b c) := by
  unfold kindT at h
  split at h <;> first | exact ⟨_, _, _, ‹_›⟩ | cases h
theorem kind_bool {t : TypeId} (h : kindT P t = 4) : P.underlying t = some .bool := by
  unfold kindT at h
  split at h <;> first | assumption | cases h
theorem genA_bin' {o : Oper} {b : BinOp} {t yt : TypeId} {x y : Operand} (ho : o.op = .binOp b t x y yt) {ρ : Operand → AV} {u v z : Value} (hx : (ρ x).toVal = some u) (hy : (ρ y).toVal = some v)
    (h : pureRun P (do eqGuard b t x y u v; binOp b t u v) = some z) : genA P o ρ = some (ofVal z) := by
  have e1 : valOf ρ x = u := by unfold valOf; rw [hx]; rfl
  have e2 : valOf ρ y = v := by unfold valOf; rw [hy]; rfl
  have c : (notSelect o.op && o.op.operands.toList.all fun x => (ρ x).toVal.isSome) = true := by
    rw [ho]
    simp [notSelect, Op.operands, hx, hy]
  unfold genA
  rw [if_pos c]
  have : pureRun P (execOp (valOf ρ) o) = some (.value z) := by
    unfold execOp
    rw [ho]
    simp only [e1, e2]
    rw [pureRun_bind, h]
    rfl
  rw [this]
  rfl
theorem genA_bin {o : Oper} {b : BinOp} {t yt : TypeId} {x y : Operand} (ho : o.op = .binOp b t x y yt) {ρ : Operand → AV} {u v z : Value} (hx : ρ x = .v u) (hy : ρ y = .v v)
    (h : pureRun P (do eqGuard b t x y u v; binOp b t u v) = some z) : genA P o ρ = some (ofVal z) := genA_bin' ho (by rw [hx]; rfl) (by rw [hy]; rfl) h
theorem genA_not {o : Oper} {t : TypeId} {x : Operand} (ho : o.op = .unOp .not t x) {ρ : Operand → AV} {c : Bool} (hx : ρ x = .v (.bool c)) : genA P o ρ = some (.v (.bool !c)) := by
  have e1 : valOf ρ x = .bool c := by unfold valOf; rw [hx]; rfl
  have cc : (notSelect o.op && o.op.operands.toList.all fun x => (ρ x).toVal.isSome) = true := by
    rw [ho]
    simp [notSelect, Op.operands, hx, AV.toVal]
  unfold genA
  rw [if_pos cc]
  have : pureRun P (execOp (valOf ρ) o) = some (.value (.bool !c)) := by
    unfold execOp
    rw [ho]
    simp only [e1]
    rw [pureRun_bind]
    rfl
  rw [this]
  rfl
theorem guard_int {b : BinOp} {t : TypeId} {x y : Operand} {k k' : IntKind} {a c : Int} : pureRun P (eqGuard b t x y (.int k a) (.int k' c)) = some () := by
  unfold eqGuard
  cases b <;> simp
theorem guard_str {b : BinOp} {t : TypeId} {x y : Operand} {a c : ByteArray} : pureRun P (eqGuard b t x y (.string a) (.string c)) = some () := by
  unfold eqGuard
  cases b <;> simp
theorem bin_int {o : Oper} {b : BinOp} {t yt : TypeId} {x y : Operand} (ho : o.op = .binOp b t x y yt) {ρ : Operand → AV} {k k' : IntKind} {a c : Int} (hx : ρ x = .v (.int k a)) (hy : ρ y = .v (.int k' c)) {z : Value} (hz : pureRun P (binOp b t (.int k a) (.int k' c)) = some z) : genA P o ρ = some (ofVal z) :=
  genA_bin ho hx hy (by rw [pureRun_bind, guard_int]; exact hz)
theorem bin_sound {o : Oper} {b : BinOp} {t yt : TypeId} {x y : Operand} (ho : o.op = .binOp b t x y yt) {ρ : Operand → AV} {r : AV} (h : binM realA b (ρ x) (ρ y) = some r) : genA P o ρ = some r ∧ nilNe P t (ρ x) (ρ y) = false := by
  unfold binM at h
  split at h
  · rename_i k a k' c hx hy
    refine ⟨?_, by rw [hx, hy]; rfl⟩
    have key : ∀ z, pureRun P (binOp b t (.int k a) (.int k' c)) = some z → genA P o ρ = some (ofVal z) := fun z hz => bin_int ho hx hy hz
    have shf : ∀ {op : BinOp} {v : Value}, ¬ c < 0 → (∀ n, n = Nat.min c.toNat k.bits → pureRun P (match op with
        | .shl => (pure (.int k (k.wrap (a * 2 ^ n))) : Sem Value)
        | .shr => pure (.int k (a.fdiv (2 ^ n)))
        | _ => stuck "shift: << >> expected") = some v) → pureRun P (Op.shift op k a k' c) = some v := fun {op v} hc hv => by
      unfold Op.shift
      rw [if_neg hc]
      exact hv _ rfl
    have div : ∀ {op : BinOp} {v : Value}, ¬ c = 0 → pureRun P (match op with
        | .quo => (pure (.int k (k.wrap (a.tdiv c))) : Sem Value)
        | .rem => pure (.int k (a.tmod c))
        | _ => stuck "intDiv: / % expected") = some v → pureRun P (Op.intDiv op k a c) = some v := fun {op v} hc hv => by
      unfold Op.intDiv
      rw [if_neg hc]
      exact hv
    cases b with
    | shl =>
      simp only at h
      cases e : realA.lt c 0 with
      | true => rw [e] at h; cases h
      | false =>
        rw [e] at h
        simp only [Option.some.injEq] at h
        subst h
        have hc : ¬ c < 0 := of_decide_eq_false e
        exact key (.int k (realA.shl k a c)) (by
          show pureRun P (Op.shift .shl k a k' c) = _
          exact shf hc fun n hn => by rw [hn]; rfl)
    | shr =>
      simp only at h
      cases e : realA.lt c 0 with
      | true => rw [e] at h; cases h
      | false =>
        rw [e] at h
        simp only [Option.some.injEq] at h
        subst h
        have hc : ¬ c < 0 := of_decide_eq_false e
        exact key (.int k (realA.shr k a c)) (by
          show pureRun P (Op.shift .shr k a k' c) = _
          exact shf hc fun n hn => by rw [hn]; rfl)
    | _ =>
      simp only at h
      split at h
      · rename_i hk
        subst hk
        try simp only [Option.some.injEq, reduceCtorEq] at h
        first
          | (subst h
             first
               | exact key (.int k (k.wrap (a + c))) (by simp [binOp, Op.intArith])
               | exact key (.int k (k.wrap (a - c))) (by simp [binOp, Op.intArith])
               | exact key (.int k (k.wrap (a * c))) (by simp [binOp, Op.intArith])
               | exact key (.int k (realA.bits .and k a c)) (by simp [binOp, Op.intBits, realA, realA0, Ar.bits, bitsV])
               | exact key (.int k (realA.bits .or k a c)) (by simp [binOp, Op.intBits, realA, realA0, Ar.bits, bitsV])
               | exact key (.int k (realA.bits .xor k a c)) (by simp [binOp, Op.intBits, realA, realA0, Ar.bits, bitsV])
               | exact key (.int k (realA.bits .andNot k a c)) (by simp [binOp, Op.intBits, realA, realA0, Ar.bits, bitsV])
               | exact key (.bool (a == c)) (by simp [binOp, Op.intCmp])
               | exact key (.bool (a != c)) (by simp [binOp, Op.intCmp])
               | exact key (.bool (decide (a < c))) (by simp [binOp, Op.intCmp])
               | exact key (.bool (decide (a ≤ c))) (by simp [binOp, Op.intCmp])
               | exact key (.bool (decide (c < a))) (by simp [binOp, Op.intCmp])
               | exact key (.bool (decide (c ≤ a))) (by simp [binOp, Op.intCmp]))
          | (cases e : realA.eq c 0 with
             | true => rw [e] at h; cases h
             | false =>
               rw [e] at h
               simp only [Option.some.injEq] at h
               subst h
               have hc : ¬ c = 0 := fun e0 => by subst e0; exact absurd e (by simp [realA, realA0, Ar.eq])
               first
                 | exact key (.int k (realA.quo k a c)) (by
                     have : binOp .quo t (.int k a) (.int k c) = Op.intDiv .quo k a c := by simp [binOp]
                     rw [this]; exact div hc rfl)
                 | exact key (.int k (realA.rem k a c)) (by
                     have : binOp .rem t (.int k a) (.int k c) = Op.intDiv .rem k a c := by simp [binOp]
                     rw [this]; exact div hc rfl))
      · cases h
  · rename_i a c hx hy
    refine ⟨?_, by rw [hx, hy]; rfl⟩
    have key : ∀ z, pureRun P (binOp b t (.string a) (.string c)) = some z → genA P o ρ = some (ofVal z) := fun z hz => genA_bin ho hx hy (by rw [pureRun_bind, guard_str]; exact hz)
    cases b with
    | add =>
      simp only at h
      cases e : Nat.ble (realA.slen a + realA.slen c) 9223372036854775807 with
      | false => rw [e] at h; cases h
      | true =>
        rw [e] at h
        simp only [Option.some.injEq] at h
        subst h
        have e1 : a.size + c.size ≤ 9223372036854775807 := Nat.le_of_ble_eq_true e
        refine key (.string (a ++ c)) ?_
        simp only [binOp, Op.stringOp]
        rw [if_neg (by
          have : IntKind.i64.max = 9223372036854775807 := by decide
          rw [this]; omega)]
        rfl
    | eql => simp only [Option.some.injEq] at h; subst h; exact key (.bool (a.toList == c.toList)) (by simp [binOp, Op.stringOp])
    | neq => simp only [Option.some.injEq] at h; subst h; exact key (.bool !(a.toList == c.toList)) (by simp [binOp, Op.stringOp])
    | lss => simp only [Option.some.injEq] at h; subst h; exact key (.bool (Op.bytesLess a.toList c.toList)) (by simp [binOp, Op.stringOp])
    | geq => simp only [Option.some.injEq] at h; subst h; exact key (.bool !(Op.bytesLess a.toList c.toList)) (by simp [binOp, Op.stringOp])
    | _ => cases h
  · cases h
def binA (P : Program) (o : Oper) (b : BinOp) (t : TypeId) (x y : Operand) (ρ : Operand → AV) : AM AV := if nilNe P t (ρ x) (ρ y) = true then (match b with
      | .eql => AM.ret (.v (.bool false))
      | .neq => AM.ret (.v (.bool true))
      | _ => AM.fail) else AM.opt (genA P o ρ)
theorem eq_none {t : TypeId} {x y : Operand} {u v : Value} (hu : ∀ us vs, ¬ (u = .agg us ∧ v = .agg vs)) (hn : u ≠ .nilIface) {b : BinOp} : pureRun P (eqGuard b t x y u v) = some () := by
  have key : pureRun P (match u, v with
    | .nilIface, .nilIface => do
      if (x matches .const _) || (y matches .const _) then return
      if ← Op.eqGuardIn Op.maxDepth t u v then unsupported (.noEntry "binop/eql: two nil values of an interface type with methods, neither of them the literal nil")
    | .agg _, .agg _ => do
      if !(← program).eqGuardType (← program).depth t then return
      if ← Op.eqGuardIn Op.maxDepth t u v then unsupported (.noEntry "binop/eql: two nil values of an interface type with methods, in a part of a struct or an array")
    | _, _ => pure ()) = some () := by
    split
    · exact absurd rfl hn
    · exact absurd ⟨rfl, rfl⟩ (hu _ _)
    · rfl
  unfold eqGuard
  cases b <;> first
    | rfl
    | exact key
theorem eq_gen {o : Oper} {b : BinOp} {t yt : TypeId} {x y : Operand} (ho : o.op = .binOp b t x y yt) {ρ : Operand → AV} {u v : Value} {c : Bool} (hx : ρ x = .v u) (hy : ρ y = .v v)
    (hu : ∀ us vs, ¬ (u = .agg us ∧ v = .agg vs)) (hn : u ≠ .nilIface) (hi : ∀ k a k' c, ¬ (u = .int k a ∧ v = .int k' c)) (hfl : ∀ k a, u ≠ .float k a) (hc : ∀ k a c, u ≠ .complex k a c) (hs : ∀ a, u ≠ .string a)
    (h : pureRun P (Op.equal t u v) = some c) (hb : b = .eql ∨ b = .neq) : genA P o ρ = some (.v (.bool (if b = .eql then c else !c))) := by
  have : genA P o ρ = some (ofVal (.bool (if b = .eql then c else !c))) := by
    refine genA_bin ho hx hy ?_
    rw [pureRun_bind, eq_none hu hn]
    rcases hb with rfl | rfl
    · cases u <;> first
        | (exfalso; first | exact hfl _ _ rfl | exact hc _ _ _ rfl | exact hs _ rfl)
        | (cases v <;> first
            | (exfalso; exact hi _ _ _ _ ⟨rfl, rfl⟩)
            | (simp only [Option.bind_some, Go.binOp, pureRun_bind, h, pureRun_pure]; rfl))
    · cases u <;> first
        | (exfalso; first | exact hfl _ _ rfl | exact hc _ _ _ rfl | exact hs _ rfl)
        | (cases v <;> first
            | (exfalso; exact hi _ _ _ _ ⟨rfl, rfl⟩)
            | (simp only [Option.bind_some, Go.binOp, pureRun_bind, h, pureRun_pure]; rfl))
  exact this
theorem eqIn_bool {t : TypeId} (hu : P.underlying t = some .bool) (d : Nat) (a c : Bool) : pureRun P (Op.equalIn (d + 1) t (.bool a) (.bool c)) = some (a == c) := by
  unfold Op.equalIn
  rw [pureRun_bind, pureRun_underlying hu]
  rfl
theorem eqIn_ptr {t e : TypeId} (hu : P.underlying t = some (.pointer e)) (d : Nat) : pureRun P (Op.equalIn (d + 1) t (.pointer none) (.pointer none)) = some true := by
  unfold Op.equalIn
  rw [pureRun_bind, pureRun_underlying hu]
  rfl
theorem eqIn_sl {t e : TypeId} (hu : P.underlying t = some (.slice e)) (d : Nat) : pureRun P (Op.equalIn (d + 1) t (.slice none 0 0) (.slice none 0 0)) = some true := by
  unfold Op.equalIn
  rw [pureRun_bind, pureRun_underlying hu]
  rfl
theorem eqIn_fn {t : TypeId} {a b : Array TypeId} {c : Bool} (hu : P.underlying t = some (.func a b c)) (d : Nat) : pureRun P (Op.equalIn (d + 1) t .nilFunc .nilFunc) = some true := by
  unfold Op.equalIn
  rw [pureRun_bind, pureRun_underlying hu]
  rfl
theorem eq_sound {o : Oper} {b : BinOp} {t yt : TypeId} {x y : Operand} (ho : o.op = .binOp b t x y yt) {ρ : Operand → AV} {ek : Nat} (hk : kindT P t = ek) {c : Bool} (h : eqM realA ek (ρ x) (ρ y) = some c) (hb : b = .eql ∨ b = .neq) :
    binA P o b t x y ρ = AM.ret (.v (.bool (if b = .eql then c else !c))) := by
  unfold eqM at h
  unfold binA
  split at h <;> simp only [Option.some.injEq, reduceCtorEq] at h <;> try subst h
  · -- bool
    rename_i a c hx hy
    have hu := kind_bool hk
    rw [if_neg (by rw [hx, hy]; simp [nilNe])]
    have : pureRun P (Op.equal t (.bool a) (.bool c)) = some (a == c) := eqIn_bool hu 9999 a c
    rw [eq_gen ho hx hy (by simp) (by simp) (by simp) (by simp) (by simp) (by simp) this hb]
    rfl
  · rename_i hx hy
    obtain ⟨e, hu⟩ := kind_ptr hk
    rw [if_pos (by rw [hx, hy]; simp [nilNe, hu])]
    rcases hb with rfl | rfl <;> rfl
  · rename_i hx hy
    obtain ⟨e, hu⟩ := kind_ptr hk
    rw [if_pos (by rw [hx, hy]; simp [nilNe, hu])]
    rcases hb with rfl | rfl <;> rfl
  · rename_i hx hy
    obtain ⟨e, hu⟩ := kind_ptr hk
    rw [if_neg (by rw [hx, hy]; simp [nilNe])]
    have : pureRun P (Op.equal t (.pointer none) (.pointer none)) = some true := eqIn_ptr hu 9999
    rw [eq_gen ho hx hy (by simp) (by simp) (by simp) (by simp) (by simp) (by simp) this hb]
    rfl
  · rename_i hx hy
    obtain ⟨e, hu⟩ := kind_sl hk
    rw [if_pos (by rw [hx, hy]; simp [nilNe, hu])]
    rcases hb with rfl | rfl <;> rfl
  · rename_i hx hy
    obtain ⟨e, hu⟩ := kind_sl hk
    rw [if_neg (by rw [hx, hy]; simp [nilNe])]
    have : pureRun P (Op.equal t (.slice none 0 0) (.slice none 0 0)) = some true := eqIn_sl hu 9999
    rw [eq_gen ho hx hy (by simp) (by simp) (by simp) (by simp) (by simp) (by simp) this hb]
    rfl
  · rename_i hx hy
    obtain ⟨e, e2, e3, hu⟩ := kind_fn hk
    rw [if_pos (by rw [hx, hy]; simp [nilNe, hu])]
    rcases hb with rfl | rfl <;> rfl
  · rename_i hx hy
    obtain ⟨e, e2, e3, hu⟩ := kind_fn hk
    rw [if_neg (by rw [hx, hy]; simp [nilNe])]
    have : pureRun P (Op.equal t .nilFunc .nilFunc) = some true := eqIn_fn hu 9999
    rw [eq_gen ho hx hy (by simp) (by simp) (by simp) (by simp) (by simp) (by simp) this hb]
    rfl
/-- One cell of a kind against another. -/
def cellEq : Nat → Value → Value → Option Bool
  | 1, .bool a, .bool b => some (a == b)
  | 0, .int k a, .int k' b => if k = k' then some (a == b) else none
  | 2, .string a, .string b => some (a == b)
  | _, _, _ => none
def cellsEq : List Nat → List Value → List Value → Option Bool
  | [], [], [] => some true
  | k :: ks, u :: us, v :: vs => (match cellEq k u v, cellsEq ks us vs with
    | some a, some b => some (a && b)
    | _, _ => none)
  | _, _, _ => none
theorem bytes_beq (a b : ByteArray) : (a == b) = (a.data == b.data) := by
  cases a; cases b; rfl
theorem bytes_eq (a b : ByteArray) : (a.toList == b.toList) = (a == b) := by
  rw [Go.ByteArray.toList_eq, Go.ByteArray.toList_eq, bytes_beq]
  simp
theorem eqL_some : ∀ {ks : List Nat} {xs ys : List AV} {c : Bool}, eqL realA ks xs ys = some c → ∃ us vs, vals xs = some us ∧ vals ys = some vs ∧ cellsEq ks us vs = some c
  | [], [], [], c, h => by simp only [eqL, Option.some.injEq] at h; subst h; exact ⟨[], [], rfl, rfl, rfl⟩
  | ks, xs, ys, c, h => by
    unfold eqL at h
    split at h
    · simp only [Option.some.injEq] at h; subst h; exact ⟨[], [], rfl, rfl, rfl⟩
    · rename_i ks a r b q
      cases e : eqL realA ks r q with
      | none => rw [e] at h; cases h
      | some t =>
        rw [e] at h
        simp only [Option.some.injEq] at h
        subst h
        obtain ⟨us, vs, h1, h2, h3⟩ := eqL_some e
        exact ⟨.bool a :: us, .bool b :: vs, by simp only [vals, h1], by simp only [vals, h2], by simp only [cellsEq, cellEq, h3]; rfl⟩
    · rename_i ks k a r k' b q
      split at h
      · rename_i hk
        cases e : eqL realA ks r q with
        | none => rw [e] at h; cases h
        | some t =>
          rw [e] at h
          simp only [Option.some.injEq] at h
          subst h
          obtain ⟨us, vs, h1, h2, h3⟩ := eqL_some e
          exact ⟨.int k a :: us, .int k' b :: vs, by simp only [vals, h1], by simp only [vals, h2], by simp only [cellsEq, cellEq, h3, if_pos hk]; rfl⟩
      · cases h
    · rename_i ks a r b q
      cases e : eqL realA ks r q with
      | none => rw [e] at h; cases h
      | some t =>
        rw [e] at h
        simp only [Option.some.injEq] at h
        subst h
        obtain ⟨us, vs, h1, h2, h3⟩ := eqL_some e
        refine ⟨.string a :: us, .string b :: vs, by simp only [vals, h1], by simp only [vals, h2], ?_⟩
        simp only [cellsEq, cellEq, h3]
        show some ((a == b) && t) = some ((a.toList == b.toList) && t)
        rw [bytes_eq]
    · cases h
theorem eqIn_cell {t : TypeId} {k : Nat} (hk : plainT P t = some k) {u v : Value} {c : Bool} (h : cellEq k u v = some c) (d : Nat) : pureRun P (Op.equalIn (d + 1) t u v) = some c := by
  unfold cellEq at h
  unfold plainT at hk
  split at h
  · simp only [Option.some.injEq] at h
    subst h
    split at hk <;> simp only [Option.some.injEq, reduceCtorEq] at hk <;> try (exact absurd hk (by decide))
    rename_i hu
    unfold Op.equalIn
    rw [pureRun_bind, pureRun_underlying hu]
    rfl
  · split at h
    · rename_i ek
      simp only [Option.some.injEq] at h
      subst h
      split at hk <;> simp only [Option.some.injEq, reduceCtorEq] at hk <;> try (exact absurd hk (by decide))
      rename_i hu
      unfold Op.equalIn
      rw [pureRun_bind, pureRun_underlying hu]
      simp only [Option.bind_some, ek, if_true]
      rfl
    · cases h
  · simp only [Option.some.injEq] at h
    subst h
    split at hk <;> simp only [Option.some.injEq, reduceCtorEq] at hk <;> try (exact absurd hk (by decide))
    rename_i hu
    unfold Op.equalIn
    rw [pureRun_bind, pureRun_underlying hu]
    rfl
  · cases h
theorem part_cell {t : TypeId} (h : isRowT P t = some false) {cs : Array Value} {n : Nat} {u : Value} (hu : cs[n]? = some u) : pureRun P (part t cs n) = some u := by
  unfold part
  have : pureRun P (isAgg t) = some false := by
    unfold isAgg
    unfold isRowT at h
    cases e : P.underlying t with
    | none => rw [e] at h; cases h
    | some d =>
      rw [e] at h
      simp only [Option.map_some, Option.some.injEq] at h
      rw [pureRun_bind, pureRun_underlying e]
      cases d <;> first | (simp [isRow] at h; done) | rfl
  rw [pureRun_bind, this]
  simp [hu]
theorem genA_exec {o : Oper} {ρ : Operand → AV} {z : Value} (hn : notSelect o.op = true) (ha : (o.op.operands.toList.all fun x => (ρ x).toVal.isSome) = true) (h : pureRun P (execOp (valOf ρ) o) = some (.value z)) : genA P o ρ = some (ofVal z) := by
  unfold genA
  rw [if_pos (by rw [hn, ha]; rfl), h]
  rfl
theorem valOf_v {ρ : Operand → AV} {x : Operand} {u : Value} (h : ρ x = .v u) : valOf ρ x = u := by unfold valOf; rw [h]; rfl
theorem eqFields_run {xs ys : Array Value} (d : Nat) : ∀ (fs : List Field) (n : Nat) {ks : List Nat} {us vs : List Value} {c : Bool}, flatS P fs n = some ks → cellsEq ks us vs = some c → (∀ (i : Nat) u, us[i]? = some u → xs[n + i]? = some u) → (∀ (i : Nat) u, vs[i]? = some u → ys[n + i]? = some u) → pureRun P (Op.eqFields (d + 1) xs ys fs) = some c
  | [], n, ks, us, vs, c, hf, hc, hx, hy => by
    simp only [flatS, Option.some.injEq] at hf
    subst hf
    cases us <;> cases vs <;> simp only [cellsEq, Option.some.injEq, reduceCtorEq] at hc
    subst hc
    rfl
  | f :: r, n, ks, us, vs, c, hf, hc, hx, hy => by
    simp only [flatS] at hf
    split at hf
    · rename_i h1
      simp only [Bool.and_eq_true, beq_iff_eq, bne_iff_ne] at h1
      obtain ⟨⟨h1, h2⟩, h3⟩ := h1
      cases e1 : plainT P f.type with
      | none => rw [e1] at hf; cases hf
      | some k =>
        cases e2 : flatS P r (n + 1) with
        | none => rw [e1, e2] at hf; cases hf
        | some ks' =>
          rw [e1, e2] at hf
          simp only [Option.some.injEq] at hf
          subst hf
          cases us with
          | nil => simp [cellsEq] at hc
          | cons u us =>
            cases vs with
            | nil => simp [cellsEq] at hc
            | cons v vs =>
              simp only [cellsEq] at hc
              cases e3 : cellEq k u v with
              | none => rw [e3] at hc; cases hc
              | some a =>
                cases e4 : cellsEq ks' us vs with
                | none => rw [e3, e4] at hc; cases hc
                | some b =>
                  rw [e3, e4] at hc
                  simp only [Option.some.injEq] at hc
                  subst hc
                  have ih := eqFields_run d r (n + 1) e2 e4 (fun i u hi => by have := hx (i + 1) u (by simpa using hi); rwa [show n + 1 + i = n + (i + 1) by omega]) (fun i u hi => by have := hy (i + 1) u (by simpa using hi); rwa [show n + 1 + i = n + (i + 1) by omega])
                  unfold Op.eqFields
                  rw [if_pos h2, h1, pureRun_bind, part_cell h3 (show xs[n]? = some u from hx 0 u rfl)]
                  simp only [Option.bind_some]
                  rw [pureRun_bind, part_cell h3 (show ys[n]? = some v from hy 0 v rfl)]
                  simp only [Option.bind_some]
                  rw [pureRun_bind, eqIn_cell e1 e3 d]
                  simp only [Option.bind_some]
                  cases a with
                  | true => simpa using ih
                  | false => simp
    · cases hf
theorem eqIn_struct {t : TypeId} {fs : Array Field} (ht : P.underlying t = some (.struct fs)) (hp : P.stoodInHeld t = false) (d : Nat) (xs ys : Array Value) : pureRun P (Op.equalIn (d + 1) t (.agg xs) (.agg ys)) = pureRun P (Op.eqFields d xs ys fs.toList) := by
  unfold Op.equalIn
  rw [pureRun_bind, pureRun_underlying ht]
  simp only [Option.bind_some, pureRun_bind, pureRun_program, hp, Bool.false_eq_true, if_false]
  rw [← Array.forIn_toList]
  generalize fs.toList = l
  clear ht
  induction l with
  | nil => simp [Op.eqFields]
  | cons f fs ih =>
    simp only [List.forIn_cons, Op.eqFields]
    split
    · simp only [pureRun_bind]
      cases pureRun P (part f.type xs f.offset) with
      | none => rfl
      | some a =>
        simp only [Option.bind_some, pureRun_bind]
        cases pureRun P (part f.type ys f.offset) with
        | none => rfl
        | some b =>
          simp only [Option.bind_some, pureRun_bind]
          cases pureRun P (Op.equalIn d f.type a b) with
          | none => rfl
          | some r =>
            cases r
            · simp
            · simpa using ih
    · simpa using ih
theorem eqs_sound {o : Oper} {b : BinOp} {t yt : TypeId} {x y : Operand} (ho : o.op = .binOp b t x y yt) {ρ : Operand → AV} {ks : List Nat} (hk : eqS P t = some ks) {r : AV} {neg : Bool} (hb : b = if neg then .neq else .eql) (h : eqsM realA neg ks (ρ x) (ρ y) = some r) : binA P o b t x y ρ = AM.ret r := by
  unfold eqsM at h
  split at h
  · rename_i xs ys ex ey
    cases e : eqL realA ks xs ys with
    | none => rw [e] at h; cases h
    | some c =>
      rw [e] at h
      obtain ⟨us, vs, h1, h2, h3⟩ := eqL_some e
      unfold eqS at hk
      split at hk
      · rename_i fs hu
        split at hk
        · rename_i hc
          simp only [Bool.and_eq_true, Bool.not_eq_true'] at hc
          have key : pureRun P (Op.equalIn 10000 t (.agg us.toArray) (.agg vs.toArray)) = some c := by
            rw [eqIn_struct hu hc.1 9999]
            exact eqFields_run 9998 fs.toList 0 hk h3 (fun i u hi => by rw [Nat.zero_add]; simpa using hi) (fun i u hi => by rw [Nat.zero_add]; simpa using hi)
          have g : genA P o ρ = some (ofVal (.bool (if neg then !c else c))) := by
            refine genA_bin' ho (u := .agg us.toArray) (v := .agg vs.toArray) (by rw [ex]; simp only [AV.toVal, h1]) (by rw [ey]; simp only [AV.toVal, h2]) ?_
            have g1 : pureRun P (eqGuard b t x y (.agg us.toArray) (.agg vs.toArray)) = some () := by
              unfold eqGuard
              rw [hb]
              cases neg <;> simp [hc.2]
            rw [pureRun_bind, g1]
            simp only [Option.bind_some]
            rw [hb]
            cases neg
            · show pureRun P (binOp .eql t (.agg us.toArray) (.agg vs.toArray)) = _
              have : binOp .eql t (.agg us.toArray) (.agg vs.toArray) = (do let r ← Op.equalIn 10000 t (.agg us.toArray) (.agg vs.toArray); pure (.bool r)) := rfl
              rw [this, pureRun_bind, key]; rfl
            · show pureRun P (binOp .neq t (.agg us.toArray) (.agg vs.toArray)) = _
              have : binOp .neq t (.agg us.toArray) (.agg vs.toArray) = (do let r ← Op.equalIn 10000 t (.agg us.toArray) (.agg vs.toArray); pure (.bool !r)) := rfl
              rw [this, pureRun_bind, key]; rfl
          unfold binA
          rw [if_neg (by rw [ex, ey]; simp [nilNe]), g]
          cases neg <;> (simp only [Option.some.injEq] at h; rw [← h]; rfl)
        · cases hk
      · cases hk
  · cases h
theorem cmp_sound {o : Oper} {b : BinOp} {t yt : TypeId} {x y : Operand} (ho : o.op = .binOp b t x y yt) {ρ : Operand → AV} {r : AV} (h : cmpM realA (kindT P t) b (ρ x) (ρ y) = some r) : binA P o b t x y ρ = AM.ret r := by
  unfold cmpM at h
  split at h
  · obtain ⟨h1, h2⟩ := bin_sound (P := P) ho h
    unfold binA
    rw [if_neg (by rw [h2]; simp), h1]
    rfl
  · rename_i hk
    cases e : eqM realA (kindT P t) (ρ x) (ρ y) with
    | none => rw [e] at h; cases h
    | some c =>
      rw [e] at h
      simp only [Option.map_some, Option.some.injEq] at h
      subst h
      rw [eq_sound ho rfl e (.inl rfl)]
      rfl
  · cases e : eqM realA (kindT P t) (ρ x) (ρ y) with
    | none => rw [e] at h; cases h
    | some c =>
      rw [e] at h
      simp only [Option.map_some, Option.some.injEq] at h
      subst h
      rw [eq_sound ho rfl e (.inr rfl)]
      rfl
  · cases h
end
end Go.Proofs.Ytlmhajfbpplpoaa
namespace Go.Proofs.Ytlmhajfbpplpoaa
open Go.RowKit

def Le {α : Type} (m m' : AM α) : Prop := ∀ H r, m H = some r → m' H = some r
section
variable {α β : Type}
theorem Le.refl (m : AM α) : Le m m := fun _ _ h => h
theorem Le.fail (m : AM α) : Le AM.fail m := fun _ _ h => by cases h
theorem Le.bind {m m' : AM α} {f f' : α → AM β} (h : Le m m') (k : ∀ a, Le (f a) (f' a)) : Le (m.bind f) (m'.bind f') := fun H r e => by
  unfold AM.bind at e ⊢
  rcases e1 : m H with _ | ⟨a, H1, f1⟩ <;> rw [e1] at e
  · cases e
  simp only at e
  rcases e2 : f a H1 with _ | ⟨b, H2, f2⟩ <;> rw [e2] at e
  · cases e
  simp only at e
  rw [h H _ e1]
  simp only
  rw [k a H1 _ e2]
  exact e
theorem Le.opt {o o' : Option α} (h : ∀ a, o = some a → o' = some a) : Le (AM.opt o) (AM.opt o') := fun H r e => by
  cases o with
  | none => cases e
  | some a => rw [h a rfl]; exact e
theorem Le.ret {o : Option α} {m : AM α} (h : ∀ a, o = some a → m = AM.ret a) : Le (AM.opt o) m := fun H r e => by
  cases o with
  | none => cases e
  | some a => rw [h a rfl]; exact e
theorem Le.trans {m m1 m2 : AM α} (h : Le m m1) (k : Le m1 m2) : Le m m2 := fun H r e => k H r (h H r e)
end
section
variable {P : Program}
theorem lenR_eq : ∀ xs, lenR xs = xs.length
  | [] => rfl
  | x :: r => by simp [lenR, lenR_eq r]
theorem takeR_eq : ∀ xs n, takeR xs n = xs.take n
  | [], _ => by simp [takeR]
  | x :: r, 0 => by simp [takeR]
  | x :: r, n + 1 => by simp [takeR, takeR_eq r n]
theorem dropR_eq : ∀ xs n, dropR xs n = xs.drop n
  | [], _ => by simp [dropR]
  | x :: r, 0 => by simp [dropR]
  | x :: r, n + 1 => by simp [dropR, dropR_eq r n]
theorem catR_eq : ∀ xs, catR xs = xs.flatten
  | [] => rfl
  | x :: r => by simp [catR, catR_eq r]
theorem oneL_eq : ∀ xs, oneL xs = xs.all AV.one
  | [] => rfl
  | x :: r => by simp [oneL, oneL_eq r]
theorem beqN (a b : Nat) : Nat.beq a b = (a == b) := Bool.eq_iff_iff.2 (by simp)
theorem wideR_eq (e : Nat) : ∀ xs, wideR e xs = xs.all fun cs => cs.length == e
  | [] => rfl
  | x :: r => by simp [wideR, wideR_eq e r, beqN]
theorem opsM_eq (T : List AV) : ∀ l, opsM T l = l.map (opdA T)
  | [] => rfl
  | x :: r => by simp [opsM, opsM_eq T r]
theorem pairM_eq (T : List AV) : ∀ l, pairM T l = l.map fun p => (p.1, opdA T p.2)
  | [] => rfl
  | (i, x) :: r => by simp [pairM, pairM_eq T r]
theorem le_load {t : TypeId} {row : Bool} {n : Nat} (h1 : isRowT P t = some row) (h2 : row = true → szT P t = some n) (a : AV) : Le (loadM row n a) (loadA P t a) := by
  unfold loadM loadA
  rw [h1]
  cases row with
  | true => rw [h2 rfl]; exact Le.refl _
  | false => exact Le.refl _
theorem le_store {t : TypeId} {n : Nat} (h : szT P t = some n) (a x : AV) : Le (storeM n a x) (storeA P t a x) := by
  unfold storeM storeA
  rw [h]
  cases a <;> exact Le.refl _
theorem part_eq {t : TypeId} {row : Bool} {n : Nat} (h1 : isRowT P t = some row) (h2 : row = true → szT P t = some n) (cs : List AV) (off : Nat) : partM row off n cs = partA P t cs off := by
  unfold partM partA
  rw [h1]
  cases row with
  | true => rw [h2 rfl]
  | false => rfl
theorem iaddr_le {t et : TypeId} {e : Nat} (h1 : elemT P t = some et) (h2 : szT P et = some e) {x ix r : AV} (h : iaddrM e x ix = some r) : indexAddrA P t x ix = some r := by
  unfold iaddrM at h
  unfold indexAddrA
  rw [h1]
  cases e1 : ix.idx with
  | none => rw [e1] at h; cases h
  | some i =>
    rw [e1] at h
    simp only at h
    cases x <;> try (cases h)
    · rename_i b o n e'
      simp only at h ⊢
      split at h
      · rename_i hlt
        split at h
        · rename_i he
          subst he
          have : i + 1 ≤ n := by simpa [Nat.blt] using hlt
          have : i < n := by omega
          rw [if_pos ⟨this, h2⟩]; exact h
        · cases h
      · cases h
    · rename_i xs
      simp only [nthR_eq] at h ⊢
      cases e2 : xs[i]? with
      | none => rw [e2] at h; cases h
      | some cs =>
        rw [e2] at h
        simp only at h ⊢
        split at h
        · rename_i hb
          have : cs.length = e := by simpa using hb
          rw [if_pos (by rw [h2, this])]; exact h
        · cases h
theorem slice_le {t et : TypeId} {e : Nat} (h1 : elemT P t = some et) (h2 : szT P et = some e) {x r : AV} {lo hi : Option AV} (h : sliceM e x lo hi = some r) : sliceA P t x lo hi = some r := by
  have om : ∀ n o, optM n o = optIdx n o := fun n o => by cases o <;> rfl
  unfold sliceM at h
  unfold sliceA
  rw [h1]
  simp only [om, lenR_eq, takeR_eq, dropR_eq, wideR_eq] at h
  cases x <;> try (cases h)
  · rename_i b o n e'
    simp only at h ⊢
    split at h
    · rename_i l hh e1 e2
      rw [e1, e2]
      simp only
      split at h
      · rename_i c1 c2 c3
        have c3' : e' = e := by simpa using c3
        subst c3'
        rw [if_pos ⟨by simpa using c1, by simpa using c2, h2⟩]
        exact h
      · cases h
    · cases h
  · rename_i xs
    simp only at h ⊢
    split at h
    · rename_i l hh e1 e2
      rw [e1, e2]
      simp only
      split at h
      · rename_i c1 c2 c3
        have c4 : (xs.all fun cs => szT P et == some cs.length) = true := List.all_eq_true.2 fun cs hcs => by
          have := List.all_eq_true.1 c3 cs hcs
          rw [h2]
          simp at this ⊢
          exact this.symm
        rw [if_pos ⟨by simpa using c1, by simpa using c2, by rw [h2]; rfl, c4⟩]
        exact h
      · cases h
    · cases h
theorem le_news (e : Nat) (x : AV) : Le (newsM e x) (newsA e x) := by
  unfold newsM newsA
  split
  · dsimp only
    split
    · refine Le.bind (Le.refl _) fun k => ?_
      split
      · rename_i c1 c2
        rw [if_pos ⟨by simpa using c1, c2⟩]
        exact Le.refl _
      · exact Le.fail _
    · exact Le.fail _
  · simp only [lenR_eq, catR_eq, wideR_eq]
    split
    · rename_i c
      rw [if_pos c]
      exact Le.refl _
    · exact Le.fail _
  · exact Le.refl _
  · exact Le.fail _
theorem elemI_spec {t : TypeId} {e b : Nat} {z : List Value} (h : elemI P t = some (e, z, b)) : ∃ et i zz, elemT P t = some et ∧ P.info? et = some i ∧ zeroT P et = some zz ∧ i.zero = some zz ∧ zz.cells.size = i.size ∧ 0 < i.size ∧ e = i.size ∧ z = zz.cells.toList ∧ b = i.bytes := by
  unfold elemI at h
  split at h
  · rename_i et h1
    split at h
    · rename_i i zz h2 h3
      split at h
      · rename_i h4
        simp only [Option.some.injEq, Prod.mk.injEq] at h
        refine ⟨et, i, zz, h1, h2, h3, ?_, h4.1, h4.2, h.1.symm, h.2.1.symm, h.2.2.symm⟩
        unfold zeroT at h3
        rw [h2] at h3
        simp only at h3
        split at h3
        · split at h3
          · rename_i e5 _; rw [e5]; exact h3
          · cases h3
        · cases h3
      · cases h
    · cases h
  · cases h
theorem le_append {t u : TypeId} {e b : Nat} {z : List Value} (h : elemI P t = some (e, z, b)) (hu : isSliceT P u = true) (s x : AV) : Le (appM e b s x) (appendA P [t, u] s x) := by
  obtain ⟨et, i, zz, h1, h2, h3, h4, h5, h6, rfl, _, rfl⟩ := elemI_spec h
  have hn : notInt P u = true := by
    unfold isSliceT at hu
    unfold notInt
    split at hu
    · rename_i e1; rw [e1]
    · cases hu
  unfold appM appendA
  simp only [h1, hn, h2, h4]
  rw [if_pos (show zz.cells.size = i.size ∧ 0 < i.size from ⟨h5, h6⟩)]
  refine Le.bind (le_news _ _) fun r => ?_
  split
  · rename_i c
    rw [if_pos (show r.1 = 0 by simpa using c)]
    exact Le.refl _
  · rename_i c
    rw [if_neg (show ¬ r.1 = 0 by intro e; rw [e] at c; simp at c)]
    rw [oneL_eq]
    split
    · exact Le.fail _
    · rename_i c1
      rw [if_pos c1]
      split
      · dsimp only
        split
        · rename_i c2 c3
          rw [if_pos ⟨rfl, by simpa using c2, by simpa using c3⟩]
          exact Le.refl _
        · exact Le.fail _
      · dsimp only
        split
        · rename_i c2 c3 c4
          rw [if_pos ⟨by simpa using c2, by simpa using c3, by simpa using c4⟩]
          have c2' := Nat.eq_of_beq_eq_true c2
          subst c2'
          refine Le.bind (Le.refl _) fun k => ?_
          split
          · rename_i d1 d2 d3
            have d3' := Nat.eq_of_beq_eq_true d3
            rw [if_pos ⟨d1, by omega, .inl d2⟩, if_pos d2, d2]
            exact Le.refl _
          · rename_i d1 d2 d3
            have d3' := Nat.eq_of_beq_eq_true d3
            rw [if_pos ⟨d1, by omega, .inr d3'⟩, if_neg (by rw [d2]; simp), d2]
            exact Le.refl _
          · rename_i d1 d2 d3
            split
            · rename_i d4
              rw [if_pos ⟨d1, by simpa using d4, .inl d2⟩, if_pos d2, d2]
              exact Le.refl _
            · exact Le.fail _
          · exact Le.fail _
        · exact Le.fail _
      · exact Le.fail _
theorem le_mksl {t : TypeId} {e b : Nat} {z : List Value} (h : elemI P t = some (e, z, b)) (l c : AV) : Le (mkslM z e b l c) (makeSliceA P t l c) := by
  obtain ⟨et, i, zz, h1, h2, h3, h4, h5, h6, rfl, rfl, rfl⟩ := elemI_spec h
  unfold mkslM makeSliceA
  rw [h1]
  split
  · rename_i n m e1 e2
    rw [e1, e2]
    dsimp only
    rw [h2, h3]
    dsimp only
    split
    · rename_i c1 c2 c3
      rw [if_pos ⟨by simpa using c1, by simpa using c2, by simpa using c3, h5, h6⟩]
      exact Le.refl _
    · exact Le.fail _
  · exact Le.fail _
theorem le_copy {t u et : TypeId} {e : Nat} (h1 : elemT P t = some et) (h2 : szT P et = some e) (d x : AV) : Le (cpyM e d x) (copyA P [t, u] d x) := by
  unfold cpyM copyA
  simp only [h1]
  split
  · split
    · rename_i c
      have c' := Nat.eq_of_beq_eq_true c
      subst c'
      dsimp only
      rw [if_pos h2]
      refine Le.bind (le_news _ _) fun r => ?_
      simp only [oneL_eq]
      split
      · rename_i c1
        rw [if_pos c1]
        refine Le.bind (Le.refl _) fun k => ?_
        split
        · rename_i c2 c3
          rw [if_pos ⟨c2, by simpa using c3⟩]
          exact Le.refl _
        · exact Le.fail _
      · exact Le.fail _
    · exact Le.fail _
  · exact Le.fail _
theorem genA_call1 {o : Oper} {c : Call} {b : Builtin} {x : Operand} (ho : o.op = .call c) (hc : c.callee = .builtin b) (ha : c.args.toList = [x]) {ρ : Operand → AV} {u z : Value} (hx : ρ x = .v u)
    (h : ∀ cs, pureRun P (builtin b c.argTypes o.type cs #[u]) = some (.value z)) : genA P o ρ = some (ofVal z) := by
  have e1 : valOf ρ x = u := by unfold valOf; rw [hx]; rfl
  have ha' : c.args = #[x] := by rw [← Array.toArray_toList (xs := c.args), ha]
  have cc : (notSelect o.op && o.op.operands.toList.all fun x => (ρ x).toVal.isSome) = true := by
    rw [ho]
    simp [notSelect, Op.operands, Call.operands, hc, ha', hx, AV.toVal]
  unfold genA
  rw [if_pos cc]
  have : pureRun P (execOp (valOf ρ) o) = some (.value z) := by
    unfold execOp
    rw [ho]
    simp only [resolve, hc, ha', pureRun_bind, pureRun_pure, Option.bind_some, invoke]
    have e3 : #[x].map (valOf ρ) = #[u] := by simp [e1]
    rw [e3]
    exact h _
  rw [this]
  rfl
theorem genA_call2 {o : Oper} {c : Call} {b : Builtin} {x y : Operand} (ho : o.op = .call c) (hc : c.callee = .builtin b) (ha : c.args.toList = [x, y]) {ρ : Operand → AV} {u v z : Value} (hx : ρ x = .v u) (hy : ρ y = .v v)
    (h : ∀ cs, pureRun P (builtin b c.argTypes o.type cs #[u, v]) = some (.value z)) : genA P o ρ = some (ofVal z) := by
  have e1 : valOf ρ x = u := by unfold valOf; rw [hx]; rfl
  have e2 : valOf ρ y = v := by unfold valOf; rw [hy]; rfl
  have ha' : c.args = #[x, y] := by rw [← Array.toArray_toList (xs := c.args), ha]
  have cc : (notSelect o.op && o.op.operands.toList.all fun x => (ρ x).toVal.isSome) = true := by
    rw [ho]
    simp [notSelect, Op.operands, Call.operands, hc, ha', hx, hy, AV.toVal]
  unfold genA
  rw [if_pos cc]
  have : pureRun P (execOp (valOf ρ) o) = some (.value z) := by
    unfold execOp
    rw [ho]
    simp only [resolve, hc, ha', pureRun_bind, pureRun_pure, Option.bind_some, invoke]
    have e3 : #[x, y].map (valOf ρ) = #[u, v] := by simp [e1, e2]
    rw [e3]
    exact h _
  rw [this]
  rfl
def EntOk (P : Program) (ents : Nat) : Prop := ∀ g, ents.testBit g = true → enterable P g = true
theorem le_build {t : TypeId} {zz : Value} (hz : zeroT P t = some zz) (T : List AV) (ps : List (Nat × Operand)) :
    (∀ {fs : Array Field} {pl : List (Nat × Nat)}, fieldsT P t = some fs → placesT P fs.toList = some pl → buildM (pl[·]?) zz.cells.toList (pairM T ps) = buildA P t (ps.map fun p => (p.1, opdA T p.2))) ∧
    (∀ {et : TypeId} {e : Nat}, fieldsT P t = none → arrET P t = some et → szT P et = some e → buildM (fun i => some (i * e, e)) zz.cells.toList (pairM T ps) = buildA P t (ps.map fun p => (p.1, opdA T p.2))) := by
  refine ⟨fun h1 h2 => ?_, fun h1 h2 h3 => ?_⟩
  · unfold buildM buildA
    rw [h1, pairM_eq]
    unfold buildSA
    rw [hz, h1]
    simp only [h2]
  · unfold buildM buildA
    rw [h1, pairM_eq]
    unfold buildRA
    rw [hz, h2]
    simp only [h3]
theorem le_buildSl {t et : TypeId} {e : Nat} {zz : Value} (h1 : elemT P t = some et) (h2 : szT P et = some e) (h3 : zeroT P et = some zz) (n : Nat) (T : List AV) (ps : List (Nat × Operand)) :
    buildSlM zz.cells.toList e n (pairM T ps) = buildSliceA P t n (ps.map fun p => (p.1, opdA T p.2)) := by
  unfold buildSlM buildSliceA
  rw [h1]
  simp only [h2, h3, pairM_eq]
  rfl
theorem le_len {o : Oper} {c : Call} {x : Operand} {t : TypeId} {sl : Bool} (ho : o.op = .call c) (hc : c.callee = .builtin .len) (ha : c.args.toList = [x]) (ht : c.argTypes.toList = [t])
    (hs : if sl = true then isSliceT P t = true else isSliceT P t = false ∧ isStringT P t = true) (ρ : Operand → AV) :
    Le (AM.opt (lenM realA sl (ρ x))) (if isSliceT P t = true then (match lenA (ρ x) with
          | some r => AM.ret r
          | none => AM.opt (genA P o ρ)) else AM.opt (genA P o ρ)) := by
  have ht' : c.argTypes = #[t] := by rw [← Array.toArray_toList (xs := c.argTypes), ht]
  refine Le.ret fun r h => ?_
  unfold lenM at h
  cases sl with
  | true =>
    rw [if_pos rfl] at hs
    rw [if_pos hs]
    simp only at h
    split at h <;> simp only [Option.some.injEq, reduceCtorEq] at h <;> subst h
    · rename_i e; rw [e]; rfl
    · rename_i e; rw [e, lenR_eq]; rfl
    · rename_i e
      have hu : ∃ et, P.underlying t = some (.slice et) := by
        unfold isSliceT at hs
        split at hs
        · exact ⟨_, ‹_›⟩
        · cases hs
      obtain ⟨et, hu⟩ := hu
      have hg : genA P o ρ = some (ofVal (.int .i64 0)) := genA_call1 ho hc ha e fun cs => by
        rw [ht']
        simp only [builtin, Builtin.len_, pureRun_bind]
        simp [pureRun_underlying hu, goInt]
      rw [e, hg]
      rfl
  | false =>
    rw [if_neg (by simp)] at hs
    rw [if_neg (by rw [hs.1]; simp)]
    simp only at h
    split at h <;> simp only [Option.some.injEq, reduceCtorEq] at h
    subst h
    rename_i s e
    have hu : P.underlying t = some .string := by
      have := hs.2
      unfold isStringT at this
      split at this
      · assumption
      · cases this
    have hg : genA P o ρ = some (ofVal (.int .i64 s.size)) := genA_call1 ho hc ha e fun cs => by
      rw [ht']
      simp only [builtin, Builtin.len_, pureRun_bind]
      simp [pureRun_underlying hu, goInt]
    rw [hg]
    rfl
theorem le_big {o : Oper} {c : Call} {x y : Operand} {b : Builtin} (ho : o.op = .call c) (hc : c.callee = .builtin b) (ha : c.args.toList = [x, y]) (ρ : Operand → AV) {f : Int → Int → Int}
    (hb : (b = .max ∧ f = realA.max) ∨ (b = .min ∧ f = realA.min)) : Le (AM.opt (bigM f (ρ x) (ρ y))) (AM.opt (genA P o ρ)) := by
  refine Le.opt fun r h => ?_
  unfold bigM at h
  split at h
  · rename_i k a k' d hx hy
    split at h
    · rename_i hk
      subst hk
      simp only [Option.some.injEq] at h
      subst h
      rcases hb with ⟨rfl, rfl⟩ | ⟨rfl, rfl⟩
      · exact genA_call2 (z := .int k (realA.max a d)) ho hc ha hx hy fun cs => by
          simp [builtin, Builtin.max_, Builtin.max2, realA, realA0, Ar.max]
      · exact genA_call2 (z := .int k (realA.min a d)) ho hc ha hx hy fun cs => by
          simp [builtin, Builtin.min_, Builtin.min2, realA, realA0, Ar.min]
    · cases h
  · cases h
end
end Go.Proofs.Ytlmhajfbpplpoaa
namespace Go.Proofs.Ytlmhajfbpplpoaa
open Go.RowKit

section
variable {P : Program} {Γ : FuncId → List AV → AM AV} {ents : Nat}
theorem idx_v {x : AV} {i : Nat} (h : x.idx = some i) : ∃ k, x = .v (.int k (.ofNat i)) := by
  unfold AV.idx at h
  split at h
  · simp only [Option.some.injEq] at h
    subst h
    exact ⟨_, rfl⟩
  · cases h
theorem pureRun_bound {k : IntKind} {i n : Nat} (h : i ≤ n) (c : BoundsCode) : pureRun P (Instr.sliceBound (.int k (.ofNat i)) n c) = some i := by
  unfold Instr.sliceBound asIntOf
  rw [pureRun_bind]
  simp only [pureRun_pure, Option.bind_some]
  rw [if_pos ⟨by simp, by simpa using h⟩]
  rfl
theorem sslice_sound {o : Oper} {t : TypeId} {x : Operand} {lo hi : Option Operand} (ho : o.op = .slice t x lo hi none) (ht : P.underlying t = some .string) {ρ : Operand → AV} {r : AV} (h : ssliceM realA (ρ x) (lo.map ρ) (hi.map ρ) = some r) : genA P o ρ = some r := by
  unfold ssliceM at h
  split at h
  · rename_i s es
    split at h
    · rename_i l hh e1 e2
      split at h
      · rename_i c1 c2
        simp only [Option.some.injEq] at h
        subst h
        have c1 : l ≤ hh := by simpa using c1
        have c2 : hh ≤ s.size := by
          have : Nat.ble hh s.size = true := c2
          simpa using this
        have hlo : (lo = none ∧ l = 0) ∨ ∃ y k, lo = some y ∧ ρ y = .v (.int k (.ofNat l)) := by
          cases lo with
          | none => simp only [Option.map_none, optM, Option.some.injEq] at e1; exact .inl ⟨rfl, e1.symm⟩
          | some y =>
            simp only [Option.map_some, optM] at e1
            obtain ⟨k, hk⟩   := idx_v e1
            exact .inr ⟨y, k, rfl, hk⟩
        have hhi : (hi = none ∧ hh = s.size) ∨ ∃ y k, hi = some y ∧ ρ y = .v (.int k (.ofNat hh)) := by
          cases hi with
          | none =>
            simp only [Option.map_none, optM, Option.some.injEq] at e2
            exact .inl ⟨rfl, e2.symm⟩
          | some y =>
            simp only [Option.map_some, optM] at e2
            obtain ⟨k, hk⟩   := idx_v e2
            exact .inr ⟨y, k, rfl, hk⟩
        have hb : pureRun P (Instr.sliceBounds false s.size s.size (lo.map (valOf ρ)) (hi.map (valOf ρ)) none) = some (l, hh, s.size) := by
          rcases hlo with ⟨rfl, rfl⟩ | ⟨y, k, rfl, hy⟩ <;> rcases hhi with ⟨rfl, rfl⟩ | ⟨z, k', rfl, hz⟩
          · rfl
          · simp only [Option.map_none, Option.map_some, valOf_v hz, Instr.sliceBounds, pureRun_bind, pureRun_pure, Option.bind_some, pureRun_bound c2]
          · simp only [Option.map_none, Option.map_some, valOf_v hy, Instr.sliceBounds, pureRun_bind, pureRun_pure, Option.bind_some, pureRun_bound c1]
          · simp only [Option.map_some, valOf_v hy, valOf_v hz, Instr.sliceBounds, pureRun_bind, pureRun_pure, Option.bind_some, pureRun_bound c1, pureRun_bound c2]
        refine genA_exec (z := .string (s.extract l hh)) (by rw [ho]; rfl) ?_ ?_
        · rw [ho]
          rcases hlo with ⟨rfl, _⟩ | ⟨y, k, rfl, hy⟩ <;> rcases hhi with ⟨rfl, _⟩ | ⟨z, k', rfl, hz⟩ <;> simp_all [Op.operands, AV.toVal]
        · unfold execOp
          rw [ho]
          show pureRun P (Instr.sliceAt t (valOf ρ x) (lo.map (valOf ρ)) (hi.map (valOf ρ)) none >>= fun y => pure (Next.value y)) = _
          rw [pureRun_bind, valOf_v es]
          have : pureRun P (Instr.sliceAt t (.string s) (lo.map (valOf ρ)) (hi.map (valOf ρ)) none) = some (.string (s.extract l hh)) := by
            unfold Instr.sliceAt
            rw [pureRun_bind, pureRun_underlying ht]
            simp only [Option.bind_some]
            unfold Instr.slice
            rw [pureRun_bind, pureRun_underlying ht]
            simp only [Option.bind_some, Option.isSome_none, Bool.false_eq_true, if_false]
            rw [pureRun_bind, hb]
            rfl
          rw [this]
          rfl
      · cases h
    · cases h
  · cases h
theorem sidx_sound {o : Oper} {t : TypeId} {x i : Operand} (ho : o.op = .index t x i) (ht : P.underlying t = some .string) {ρ : Operand → AV} {r : AV} (h : sidxM realA (ρ x) (ρ i) = some r) : genA P o ρ = some r := by
  unfold sidxM at h
  split at h
  · rename_i s j es ei
    split at h
    · rename_i c1
      simp only [Option.some.injEq] at h
      subst h
      obtain ⟨k, hk⟩   := idx_v ei
      have c1 : j < s.size := by
        have : Nat.blt j s.size = true := c1
        have : j + 1 ≤ s.size := by simpa [Nat.blt] using this
        omega
      have e1 : s[j]? = some (s[j]'c1) := by simp [c1]
      refine genA_exec (z := .int .u8 (s[j]'c1).toNat) (by rw [ho]; rfl) (by rw [ho]; simp [Op.operands, es, hk, AV.toVal]) ?_ |>.trans ?_
      · unfold execOp
        rw [ho]
        show pureRun P (Instr.index t (valOf ρ x) (valOf ρ i) >>= fun y => pure (Next.value y)) = _
        rw [pureRun_bind, valOf_v es, valOf_v hk]
        have : pureRun P (Instr.index t (.string s) (.int k (.ofNat j))) = some (.int .u8 (s[j]'c1).toNat) := by
          unfold Instr.index asIntOf
          rw [pureRun_bind]
          simp only [pureRun_pure, Option.bind_some]
          rw [pureRun_bind, pureRun_underlying ht]
          simp only [Option.bind_some]
          have : (if 0 ≤ (Int.ofNat j) then s[(Int.ofNat j).toNat]? else none) = some (s[j]'c1) := by
            rw [if_pos (by simp)]
            exact e1
          rw [this]
          rfl
        rw [this]
        rfl
      · have : realA.sat s j = Int.ofNat (s[j]'c1).toNat := by
          show (match s[j]? with
            | some c => Int.ofNat c.toNat
            | none => 0) = _
          rw [e1]
        rw [this]
        rfl
    · cases h
  · cases h
theorem conv_sound {o : Oper} {s d : TypeId} {x : Operand} (ho : o.op = .convert s d x) {k k0 : IntKind} (hs : P.underlying s = some (.int k0)) (hd : P.underlying d = some (.int k)) {ρ : Operand → AV} {r : AV} (h : convM realA k (ρ x) = some r) : genA P o ρ = some r := by
  unfold convM at h
  split at h
  · rename_i k1 n e
    simp only [Option.some.injEq] at h
    subst h
    refine genA_exec (z := .int k (k.wrap n)) (by rw [ho]; rfl) (by rw [ho]; simp [Op.operands, e, AV.toVal]) ?_
    unfold execOp
    rw [ho]
    show pureRun P (convert s d (valOf ρ x) >>= fun y => pure (Next.value y)) = _
    rw [pureRun_bind, valOf_v e]
    have : pureRun P (convert s d (.int k1 n)) = some (.int k (k.wrap n)) := by
      unfold convert
      rw [pureRun_bind, pureRun_underlying hs]
      simp only [Option.bind_some]
      rw [pureRun_bind, pureRun_underlying hd]
      rfl
    rw [this]
    rfl
  · cases h
theorem mop_aop (hE : EntOk P ents) (o : Oper) (T : List AV) : Le (mop realA Γ (compOp P ents o.op) T) (aop P Γ o (opdA T)) := by
  unfold aop
  cases ho : o.op <;> simp only [compOp]
  case move x => exact Le.refl _
  case assign x => exact Le.refl _
  case pick c a b =>
    simp only [mop]
    split
    · rename_i t e
      rw [e]
      cases t <;> exact Le.refl _
    · exact Le.fail _
  case alloc t =>
    unfold allocA
    cases e : zeroT P t with
    | none => exact Le.fail _
    | some z => exact Le.refl _
  case box t x => exact Le.refl _
  case build t ps =>
    cases e : zeroT P t with
    | none => exact Le.fail _
    | some z =>
      obtain ⟨k1, k2⟩ := le_build e T ps.toList
      cases e1 : fieldsT P t with
      | some fs =>
        simp only
        cases e2 : placesT P fs.toList with
        | none => exact Le.fail _
        | some pl =>
          simp only [mop]
          rw [k1 e1 e2]
          exact Le.refl _
      | none =>
        simp only
        cases e2 : arrET P t with
        | none => exact Le.fail _
        | some et =>
          simp only
          cases e3 : szT P et with
          | none => exact Le.fail _
          | some s =>
            simp only [mop]
            rw [k2 e1 e2 e3]
            exact Le.refl _
  case buildSlice t n ps =>
    cases e : elemT P t with
    | none => exact Le.fail _
    | some et =>
      simp only
      cases e2 : szT P et with
      | none => exact Le.fail _
      | some s =>
        cases e3 : zeroT P et with
        | none => exact Le.fail _
        | some z =>
          simp only [mop]
          rw [le_buildSl e e2 e3]
          exact Le.refl _
  case load t a =>
    cases e : isRowT P t with
    | none => exact Le.fail _
    | some b =>
      cases b with
      | true =>
        cases e2 : szT P t with
        | none => exact Le.fail _
        | some n => exact le_load e (fun _ => e2) _
      | false => exact le_load (n := 0) e (fun h => by cases h) _
  case store t a x =>
    cases e : szT P t with
    | none => exact Le.fail _
    | some n => exact le_store e _ _
  case nilCheck x =>
    simp only [mop]
    split <;> first
      | exact Le.fail _
      | (rename_i e; rw [e]; exact Le.refl _)
  case binOp b t x y yt =>
    split
    · rename_i ks hk
      split
      · exact Le.ret fun r h => eqs_sound ho hk (neg := false) rfl h
      · exact Le.ret fun r h => eqs_sound ho hk (neg := true) rfl h
      · exact Le.fail _
    · split
      · exact Le.fail _
      · rename_i k hk
        exact Le.ret fun r h => cmp_sound ho h
  case unOp u t x =>
    cases u <;> simp only <;> try exact Le.fail _
    exact Le.opt fun r h => by
      unfold notM at h
      split at h
      · rename_i c e
        simp only [Option.some.injEq] at h
        subst h
        rw [genA_not ho e]
        rfl
      · cases h
  case makeFunc f a c =>
    simp only [mop, opsM_eq]
    exact Le.refl _
  case slice t x lo hi mx =>
    cases mx with
    | some m => exact Le.fail _
    | none =>
      simp only
      cases e : elemT P t with
      | none =>
        simp only
        split
        · rename_i hst
          refine Le.ret fun r h => ?_
          have ht : P.underlying t = some .string := by
            unfold isStringT at hst
            split at hst
            · assumption
            · cases hst
          have hn : sliceA P t (opdA T x) (lo.map (opdA T)) (hi.map (opdA T)) = none := by
            unfold sliceA
            rw [e]
            split <;> rename_i q <;> first | cases q | rfl
          rw [hn]
          simp only
          rw [sslice_sound ho ht h]
          rfl
        · exact Le.fail _
      | some et =>
        simp only
        cases e2 : szT P et with
        | none => exact Le.fail _
        | some s =>
          refine Le.ret fun r h => ?_
          rw [slice_le e e2 h]
  case fieldAddr t a f =>
    cases e : fieldsT P t with
    | none => exact Le.fail _
    | some fs =>
      simp only
      cases e2 : fs[f]? with
      | none => exact Le.fail _
      | some fd =>
        simp only
        split
        · rename_i n e3
          refine Le.opt fun r h => ?_
          unfold fieldAddrA
          rw [e]
          simp only [e2, e3]
          exact h
        · exact Le.fail _
  case field t x f =>
    cases e : fieldsT P t with
    | none => exact Le.fail _
    | some fs =>
      simp only
      cases e2 : fs[f]? with
      | none => exact Le.fail _
      | some fd =>
        simp only
        have key : ∀ {row : Bool} {n : Nat}, isRowT P fd.type = some row → (row = true → szT P fd.type = some n) → Le (AM.opt (fieldM row fd.offset n (opdA T x))) (AM.opt (fieldA P t (opdA T x) f)) := fun h1 h2 => by
          refine Le.opt fun r h => ?_
          unfold fieldM at h
          unfold fieldA
          rw [e]
          split at h
          · rename_i cs ex
            rw [← h, part_eq h1 h2]
            simp only [ex, e2]
          · cases h
        cases e3 : isRowT P fd.type with
        | none => exact Le.fail _
        | some b =>
          cases b with
          | true =>
            cases e4 : szT P fd.type with
            | none => exact Le.fail _
            | some n => exact key e3 fun _ => e4
          | false => exact key e3 fun h => by cases h
  case indexAddr t x i =>
    cases e : elemT P t with
    | some et =>
      simp only
      cases e2 : szT P et with
      | none => exact Le.fail _
      | some s =>
        refine Le.ret fun r h => ?_
        rw [iaddr_le e e2 h]
    | none =>
      have e0 : indexAddrA P t (opdA T x) (opdA T i) = none := by
        unfold indexAddrA
        rw [e]
        split <;> first | rfl | simp_all
      cases e1 : arrT P t with
      | none => exact Le.fail _
      | some ne =>
        obtain ⟨n, et⟩ := ne
        simp only
        cases e2 : szT P et with
        | none => exact Le.fail _
        | some s =>
          simp only [mop]
          rw [e0]
          refine Le.opt fun r h => ?_
          unfold aaddrM at h
          unfold arrAddrA
          rw [e1]
          split at h
          · rename_i j ej
            rw [ej]
            simp only [e2]
            split at h
            · rename_i hlt
              have : j + 1 ≤ n := by simpa [Nat.blt] using hlt
              rw [if_pos (by omega)]; exact h
            · cases h
          · cases h
  case index t x i =>
    cases e1 : arrT P t with
    | none =>
      simp only
      split
      · rename_i hst
        refine Le.ret fun r h => ?_
        have ht : P.underlying t = some .string := by
          unfold isStringT at hst
          split at hst
          · assumption
          · cases hst
        have hn : indexA P t (opdA T x) (opdA T i) = none := by
          unfold indexA
          rw [e1]
          split
          · rename_i q _
            cases q
          · rfl
        rw [hn]
        simp only
        rw [sidx_sound ho ht h]
        rfl
      · exact Le.fail _
    | some ne =>
      obtain ⟨n, et⟩ := ne
      show Le (mop realA Γ (match szT P et, isRowT P et with
        | some e, some true => MO.index n e true e x i
        | some e, some false => MO.index n e false 0 x i
        | _, _ => MO.bad) T) _
      have key : ∀ {row : Bool} {s m : Nat}, isRowT P et = some row → szT P et = some s → (row = true → m = s) → Le (AM.opt (indexM n s row m (opdA T x) (opdA T i))) (match indexA P t (opdA T x) (opdA T i) with
          | some r => AM.ret r
          | none => AM.opt (genA P o (opdA T))) := fun {row s m} h1 h2 h3 => by
        refine Le.ret fun r h => ?_
        have : indexA P t (opdA T x) (opdA T i) = some r := by
          unfold indexM at h
          unfold indexA
          rw [e1]
          split at h
          · rename_i cs j ej1 ej2
            simp only [ej1, ej2, h2]
            split at h
            · rename_i hlt
              have : j + 1 ≤ n := by simpa [Nat.blt] using hlt
              rw [if_pos (by omega), ← part_eq (n := m) h1 (fun hr => by rw [h3 hr]; exact h2)]; exact h
            · cases h
          · cases h
        rw [this]
      cases e2 : szT P et with
      | none => exact Le.fail _
      | some s =>
        cases e3 : isRowT P et with
        | none => exact Le.fail _
        | some b =>
          cases b with
          | true => exact key e3 e2 fun _ => rfl
          | false => exact key e3 e2 fun h => by cases h
  case extract x i => exact Le.refl _
  case makeSlice t l c =>
    cases e : elemI P t with
    | none => exact Le.fail _
    | some ezb =>
      obtain ⟨s, z, b⟩ := ezb
      exact le_mksl e _ _
  case call c =>
    cases hc : c.callee with
    | invoke => exact Le.fail _
    | value f =>
      simp only
      cases f with
      | func g =>
        simp only
        split
        · rename_i he
          simp only [mop, opdA, opsM_eq]
          rw [if_pos he]
          simp only [List.nil_append, List.append_nil]
          exact Le.refl _
        · exact Le.fail _
      | tmp t =>
        simp only [mop, opsM_eq]
        split
        · rename_i g a cs e
          rw [e]
          simp only
          split
          · rename_i hb
            rw [if_pos (hE g hb)]
            exact Le.refl _
          · exact Le.fail _
        · exact Le.fail _
      | const v =>
        simp only [mop, opsM_eq]
        split
        · rename_i g a cs e
          rw [e]
          simp only
          split
          · rename_i hb
            rw [if_pos (hE g hb)]
            exact Le.refl _
          · exact Le.fail _
        · exact Le.fail _
      | global v =>
        simp only [mop, opsM_eq]
        split
        · rename_i g a cs e
          rw [e]
          simp only
          split
          · rename_i hb
            rw [if_pos (hE g hb)]
            exact Le.refl _
          · exact Le.fail _
        · exact Le.fail _
    | builtin b =>
      cases b <;> simp only <;> try exact Le.fail _
      · -- append
        split
        · rename_i s x t u ea et
          rw [ea]
          simp only [et]
          split
          · rename_i e b' h1 h2
            exact le_append h1 h2 _ _
          · exact Le.fail _
        · exact Le.fail _
      · -- copy
        split
        · rename_i s x t u ea et
          rw [ea]
          simp only [et]
          split
          · rename_i ett h1 h2
            cases e2 : szT P ett with
            | none => exact Le.fail _
            | some s => exact le_copy h1 e2 _ _
          · exact Le.fail _
        · exact Le.fail _
      · -- len
        split
        · rename_i x t ea et
          rw [ea, et]
          split
          · rename_i h1
            exact le_len ho hc ea et (by rw [if_pos rfl]; exact h1) _
          · rename_i h1
            split
            · rename_i h2
              exact le_len ho hc ea et (by rw [if_neg (by simp)]; exact ⟨by simpa using h1, h2⟩) _
            · exact Le.fail _
        · exact Le.fail _
      · split
        · rename_i x y ea
          exact le_big ho hc ea _ (.inl ⟨rfl, rfl⟩)
        · exact Le.fail _
      · split
        · rename_i x y ea
          exact le_big ho hc ea _ (.inr ⟨rfl, rfl⟩)
        · exact Le.fail _
  case convert s d x =>
    split
    · rename_i k0 k hs hd
      have b1 : isBytesT P s = false := by
        unfold isBytesT elemT
        rw [hs]
      have b2 : isStringT P s = false := by
        unfold isStringT
        rw [hs]
      rw [if_neg (by rw [b1]; simp), b2, Bool.false_and]
      refine Le.ret fun r h => ?_
      have := conv_sound ho hs hd h
      simp only
      rw [this]
      rfl
    · exact Le.fail _
  all_goals exact Le.fail _
end
end Go.Proofs.Ytlmhajfbpplpoaa
