/-
  A region that draws its order, in which boxes are laid beside calls: the boxes are struck from the walk; ahead of each operation the world may have gone on. No program in sight.
-/
import Derived.Test.YtedbjkjncfinnaaBase
import Derived.Test.YtedbjkjncfinnaaMem
import Derived.OrdersHeld
import Derived.StillTail
namespace Go.Proofs.Ytedbjkjncfinnaa
open Go.RowKit

/-- The blocks laid from w to w'. -/
def Iv (w w' : World) (k : Nat) : Prop := w.heap.size ≤ k ∧ k < w'.heap.size
/-- w', later than w: the blocks of F are as they were. -/
structure Jmp (F : Nat → Prop) (w w' : World) : Prop where
  os : w'.os = w.os
  tape : w'.tape = w.tape
  output : w'.output = w.output
  size : w.heap.size ≤ w'.heap.size
  keep : ∀ k, F k → w'.heap[k]? = w.heap[k]?
section
variable {F G : Nat → Prop} {w w1 w2 : World}
theorem Jmp.refl (F : Nat → Prop) (w : World) : Jmp F w w := ⟨rfl, rfl, rfl, Nat.le_refl _, fun _ _ => rfl⟩
theorem Jmp.trans (h : Jmp F w w1) (k : Jmp F w1 w2) : Jmp F w w2 := ⟨k.os.trans h.os, k.tape.trans h.tape, k.output.trans h.output, Nat.le_trans h.size k.size, fun i hi => (k.keep i hi).trans (h.keep i hi)⟩
theorem Jmp.less (h : Jmp F w w1) (hs : ∀ k, G k → F k) : Jmp G w w1 := ⟨h.os, h.tape, h.output, h.size, fun i hi => h.keep i (hs i hi)⟩
theorem Jmp.below (h : Jmp (Lt w.heap.size) w w1) : Below w.heap.size w w1 := ⟨h.os, h.tape, h.output, h.size, fun i hi => h.keep i hi⟩
theorem Jmp.of_below {B : Nat} (h : Below B w w1) (hF : ∀ k, F k → k < B) : Jmp F w w1 := ⟨h.os, h.tape, h.output, h.size, fun i hi => h.block i (hF i hi)⟩
end

section
variable {P : Program} {md : Region.Mode} {ops : Array Oper} {QX : Exit → Act → World → Prop} {Q : Array Bool → (Nat → Prop) → Act → World → Prop}

/-- Whatever order is picked from here on; ahead of each operation the world may have gone on. -/
def wpJ (P : Program) (md : Region.Mode) (ops : Array Oper) (QX : Exit → Act → World → Prop) (Q : Array Bool → (Nat → Prop) → Act → World → Prop) : Nat → Array Bool → (Nat → Prop) → Act → World → Prop
  | 0, listed, F, a, w => Region.ready md ops listed = [] ∧ ∀ w', Jmp F w w' → Q listed F a w'
  | n + 1, listed, F, a, w => (Region.ready md ops listed = [] → ∀ w', Jmp F w w' → Q listed F a w') ∧
    ∀ i ∈ Region.ready md ops listed, ∀ w', Jmp F w w' → wpOp P ops QX i (fun a2 w2 => Below w'.heap.size w' w2 ∧ wpJ P md ops QX Q n (listed.setIfInBounds i true) (fun k => F k ∨ Iv w' w2 k) a2 w2) a w'

theorem wpJ.jump {n : Nat} {listed : Array Bool} {F : Nat → Prop} {a : Act} {w w' : World} (h : wpJ P md ops QX Q n listed F a w) (hj : Jmp F w w') : wpJ P md ops QX Q n listed F a w' := by
  cases n with
  | zero => exact ⟨h.1, fun w2 h2 => h.2 w2 (hj.trans h2)⟩
  | succ n => exact ⟨fun h0 w2 h2 => h.1 h0 w2 (hj.trans h2), fun i hi w2 h2 => h.2 i hi w2 (hj.trans h2)⟩

theorem Iv_none (w : World) (F : Nat → Prop) : (fun k => F k ∨ Iv w w k) = F := by
  funext k
  unfold Iv
  exact propext ⟨fun h => h.elim id fun h => absurd h.2 (by omega), .inl⟩

theorem yieldsIf_less {S S' : World → Prop} {o : Oper} {v : Value} {a : Act} (h : YieldsIf P ops S o v a) (hs : ∀ w, S' w → S w) : YieldsIf P ops S' o v a :=
  h.imp (fun ⟨h1, h2⟩ => ⟨h1, fun w hw => h2 w (hs w hw)⟩) id

theorem Below.jmp {F : Nat → Prop} {w w2 : World} (hF : ∀ k, F k → k < w.heap.size) (h : Below w.heap.size w w2) : Jmp F w w2 := Jmp.of_below h hF
theorem grow_F {F : Nat → Prop} {w w2 : World} (hF : ∀ k, F k → k < w.heap.size) (h : w.heap.size ≤ w2.heap.size) : ∀ k, F k ∨ Iv w w2 k → k < w2.heap.size :=
  fun k hk => hk.elim (fun h1 => Nat.lt_of_lt_of_le (hF k h1) h) fun h1 => h1.2
theorem Jmp.grow {F : Nat → Prop} {w w' : World} (hF : ∀ k, F k → k < w.heap.size) (h : Jmp F w w') : ∀ k, F k → k < w'.heap.size := fun k hk => Nat.lt_of_lt_of_le (hF k hk) h.size

/-- What yields one value in every later world may be taken first. -/
theorem wpJ_first {i : Nat} {oi : Oper} {v : Value} (hi : ops[i]? = some oi) (hsel : ∀ (j : Nat) (o : Oper) cs b, ops[j]? = some o → o.op ≠ .select cs b)
    (hQ : ∀ c a w, QX (.panic c) (a.put oi.dst v) w → QX (.panic c) a w) :
    ∀ (fuel : Nat) (listed : Array Bool) (F : Nat → Prop) (a : Act) (w : World), (∀ k, F k → k < w.heap.size) →
      (∀ j oj, ops[j]? = some oj → j ≠ i → listed.getD j true = false → (∀ e ∈ oj.after, Region.binds md e = true → e.on ≠ i) → oi.apart ops oj = true) →
      i ∈ Region.ready md ops listed → YieldsIf P ops (Jmp F w) oi v a →
      wpJ P md ops QX Q fuel (listed.setIfInBounds i true) F (a.put oi.dst v) w → wpJ P md ops QX Q (fuel + 1) listed F a w := by
  intro fuel
  induction fuel with
  | zero =>
    intro listed F a w hF _ hr hy H
    refine ⟨fun h => (by rw [h] at hr; cases hr), fun j hj w' hw' => ?_⟩
    by_cases hji : j = i
    · subst hji; exact hy.wpOp hi hw' ⟨Below.refl _ _, by rw [Iv_none]; exact H.jump hw'⟩
    · have := ready_mono hj hji
      rw [H.1] at this
      cases this
  | succ fuel ih =>
    intro listed F a w hF hfree hr hy H
    refine ⟨fun h => (by rw [h] at hr; cases hr), fun j hj w' hw' => ?_⟩
    by_cases hji : j = i
    · subst hji; exact hy.wpOp hi hw' ⟨Below.refl _ _, by rw [Iv_none]; exact H.jump hw'⟩
    · have h1 := H.2 j (ready_mono hj hji) w' hw'
      obtain ⟨hjun, oj, hoj, hall⟩ := mem_ready.1 hj
      have hnot : ∀ e ∈ oj.after, Region.binds md e = true → e.on ≠ i := fun e he hb heq => by
        have h1 := hall e he hb
        have h0 := (mem_ready.1 hr).1
        rw [heq] at h1
        rcases Nat.lt_or_ge i listed.size with h' | h'
        · simp [h'] at h0 h1; rw [h0] at h1; cases h1
        · simp [Array.getElem?_eq_none h'] at h1
      have h2 := wpOp_putIf hoj (hfree j oj hoj hji hjun hnot) (fun cs b => hsel i oi cs b hi) (fun cs b => hsel j oj cs b hoj) hQ hy h1
      have hfree' : ∀ k ok, ops[k]? = some ok → k ≠ i → (listed.setIfInBounds j true).getD k true = false →
          (∀ e ∈ ok.after, Region.binds md e = true → e.on ≠ i) → oi.apart ops ok = true := fun k ok hk hki hun hno => by
        refine hfree k ok hk hki ?_ hno
        by_cases hjk : j = k
        · subst hjk; exact hjun
        · rw [getD_set_ne true hjk] at hun; exact hun
      have hF' := hw'.grow hF
      refine wpOp_mono (fun a' w2 h3 => ⟨h3.2.1, ih (listed.setIfInBounds j true) _ a' w2 (grow_F hF' h3.2.1.size) hfree' (ready_mono hr (Ne.symm hji)) (yieldsIf_less h3.1 fun w3 h4 => ?_) ?_⟩) h2
      · exact hw'.trans ((Jmp.of_below h3.2.1 hF').trans (h4.less fun k hk => .inl hk))
      · rw [Array.setIfInBounds_comm _ _ hji]
        exact h3.2.2

theorem wpJ_take {i : Nat} {oi : Oper} {v : Value} {fuel : Nat} {listed : Array Bool} {F : Nat → Prop} {a : Act} {w : World} (hi : ops[i]? = some oi)
    (hs : Region.noSelect ops = true) (hf : Region.free md ops listed i = true) (hr : (Region.ready md ops listed).contains i = true)
    (hQ : ∀ c a w, QX (.panic c) (a.put oi.dst v) w → QX (.panic c) a w) (hF : ∀ k, F k → k < w.heap.size) (hy : YieldsIf P ops (Jmp F w) oi v a)
    (h : wpJ P md ops QX Q fuel (listed.setIfInBounds i true) F (a.put oi.dst v) w) : wpJ P md ops QX Q (fuel + 1) listed F a w :=
  wpJ_first hi (Region.noSelect_spec hs) hQ fuel listed F a w hF (Region.free_spec hi hf) (by simpa using hr) hy h

/-- The one that may come up comes up. -/
theorem wpJ_one {i : Nat} {fuel : Nat} {listed : Array Bool} {F : Nat → Prop} {a : Act} {w : World} (hr : Region.ready md ops listed = [i])
    (h : ∀ w', Jmp F w w' → wpOp P ops QX i (fun a2 w2 => Below w'.heap.size w' w2 ∧ wpJ P md ops QX Q fuel (listed.setIfInBounds i true) (fun k => F k ∨ Iv w' w2 k) a2 w2) a w') : wpJ P md ops QX Q (fuel + 1) listed F a w :=
  ⟨fun h0 => (by rw [hr] at h0; cases h0), fun j hj => by rw [hr] at hj; obtain rfl := List.mem_singleton.1 hj; exact h⟩
theorem wpJ_end {listed : Array Bool} {F : Nat → Prop} {a : Act} {w : World} (hr : Region.ready md ops listed = []) (h : ∀ w', Jmp F w w' → Q listed F a w') : ∀ fuel, wpJ P md ops QX Q fuel listed F a w
  | 0 => ⟨hr, h⟩
  | _ + 1 => ⟨fun _ => h, by rw [hr]; simp⟩

/-- A box of type T, laid somewhere beyond base. -/
def QBox (base : Nat) (s : Tmp) (T : TypeId) (Z : Array Value) (Q : Array Bool → (Nat → Prop) → Act → World → Prop) : Array Bool → (Nat → Prop) → Act → World → Prop :=
  fun listed F a w => ∀ g, base ≤ g → ¬ F g → Blk w g T Z → Q listed (fun k => F k ∨ k = g) (a.put (some s) (.pointer (some ⟨g, 0, none⟩))) w

/-- An operation that does not look at the box: the box's slot makes no difference. -/
theorem wpOp_puts {j : Nat} {oi oj : Oper} {v : Value} (hj : ops[j]? = some oj) (hap : oi.apart ops oj = true) (hsj : ∀ cs b, oj.op ≠ .select cs b)
    (hQ : ∀ c a w, QX (.panic c) a w → QX (.panic c) (a.put oi.dst v) w) {K : Act → World → Prop} {a : Act} {w : World} (h : wpOp P ops QX j K a w) :
    wpOp P ops QX j (fun a' w' => ∃ a0, a' = a0.put oi.dst v ∧ K a0 w') (a.put oi.dst v) w := by
  obtain ⟨h1, h2, h3⟩ := Oper.apart_spec hap
  unfold wpOp at *
  simp only [hj] at *
  rw [wanted_put oj a oi.dst v h1]
  split
  · rename_i hw
    simp only [hw, if_true] at h
    rcases h with h | ⟨hasks, hlets⟩
    case inr => exact .inr ⟨by unfold Oper.asks at *; rw [execOp_put oj hsj a oi.dst v h1]; exact hasks, hlets⟩
    refine .inl ?_
    unfold Oper.wp at *
    rw [execOp_put oj hsj a oi.dst v h1]
    generalize (execOp a.eval oj).run P w = r at *
    cases r with
    | ok n w' =>
      cases n <;> simp only [Oper.upon] at h ⊢
      case value u => exact ⟨_, Act.put_comm a v u h2, h⟩
      case skip => exact ⟨_, Act.put_comm a v undef h2, h⟩
      case defer d => exact ⟨_, by rw [Act.put_defers]; exact Act.put_comm _ v undef h2, h⟩
      case enter f args =>
        refine Calls.mono h fun e w'' he => ?_
        cases e with
        | returned u => exact ⟨_, Act.put_comm a v u h2, he⟩
        | panicked c => exact hQ _ _ _ he
        | outgrown => exact he
      case row row args => exact Rows.mono h fun u w'' he => ⟨_, Act.put_comm a v u h2, he⟩
    | halt x w' =>
      cases x <;> simp only [Oper.upon] at h ⊢
      case panic u => exact hQ _ _ _ h
  · rename_i hw
    simp only [hw] at h
    exact ⟨_, Act.put_comm a v undef h2, h⟩

theorem setD {listed : Array Bool} {j k : Nat} (h : (listed.setIfInBounds j true).getD k true = false) : listed.getD k true = false := by
  by_cases hjk : j = k
  · subst hjk
    rcases Nat.lt_or_ge j listed.size with h' | h'
    · simp [h'] at h
    · simp [h'] at h
  · rwa [getD_set_ne true hjk] at h

section
variable {base i : Nat} {s : Tmp} {T : TypeId} {Z : Array Value} {oi : Oper}

/-- The box is laid. -/
theorem wpJ_laid (hsel : ∀ (j : Nat) (o : Oper) cs b, ops[j]? = some o → o.op ≠ .select cs b) (hdst : oi.dst = some s) (hQ : ∀ c a v w, QX (.panic c) a w → QX (.panic c) (a.put oi.dst v) w) :
    ∀ (n : Nat) (listed : Array Bool) (F : Nat → Prop) (a : Act) (w : World), wpJ P md ops QX (QBox base s T Z Q) n listed F a w → (∀ k, F k → k < w.heap.size) →
      (∀ j oj, ops[j]? = some oj → listed.getD j true = false → oi.apart ops oj = true) →
      ∀ (g : Nat) (w' : World), base ≤ g → ¬ F g → Jmp F w w' → Blk w' g T Z → wpJ P md ops QX Q n listed (fun k => F k ∨ k = g) (a.put oi.dst (.pointer (some ⟨g, 0, none⟩))) w' := by
  intro n
  induction n with
  | zero =>
    intro listed F a w h hF _ g w' hg hn hj hb
    refine ⟨h.1, fun w2 h2 => ?_⟩
    rw [hdst]
    exact h.2 w2 (hj.trans (h2.less fun k hk => .inl hk)) g hg hn ((h2.keep g (.inr rfl)).trans hb)
  | succ n ih =>
    intro listed F a w h hF hap g w' hg hn hj hb
    refine ⟨fun h0 w2 h2 => ?_, fun j hjr w2 h2 => ?_⟩
    · rw [hdst]
      exact h.1 h0 w2 (hj.trans (h2.less fun k hk => .inl hk)) g hg hn ((h2.keep g (.inr rfl)).trans hb)
    · obtain ⟨hjun, oj, hoj, _⟩ := mem_ready.1 hjr
      have hj2 := hj.trans (h2.less fun k hk => .inl hk)
      have h1 := wpOp_puts (v := .pointer (some ⟨g, 0, none⟩)) hoj (hap j oj hoj hjun) (fun cs b => hsel j oj cs b hoj) (fun c a w => hQ c a _ w) (h.2 j hjr w2 hj2)
      have hb2 : Blk w2 g T Z := (h2.keep g (.inr rfl)).trans hb
      refine wpOp_mono (fun a' w3 ⟨a0, ha, h3, h4⟩ => ⟨h3, ?_⟩) h1
      subst ha
      have := ih (listed.setIfInBounds j true) _ a0 w3 h4 (grow_F (hj2.grow hF) h3.size) (fun k ok hk hun => hap k ok hk (setD hun)) g w3 hg (fun hh => hh.elim hn fun hh => by have := hb2.lt; have := hh.1; omega) (Jmp.refl _ _) (hb2.call h3)
      have e : (fun k => (F k ∨ k = g) ∨ Iv w2 w3 k) = (fun k => (F k ∨ Iv w2 w3 k) ∨ k = g) := by
        funext k
        exact propext or_right_comm
      rw [e]
      exact this

/-- The box is struck from the walk. -/
theorem wpJ_box (hoi : ops[i]? = some oi) (hsel : ∀ (j : Nat) (o : Oper) cs b, ops[j]? = some o → o.op ≠ .select cs b) (hdst : oi.dst = some s) (hQ : ∀ c a v w, QX (.panic c) a w → QX (.panic c) (a.put oi.dst v) w)
    (hgd : oi.guard = none) (haf : oi.after = #[]) (hrun : ∀ (a : Act) (w : World), (execOp a.eval oi).run P w = .ok (.value (.pointer (some ⟨w.heap.size, 0, none⟩))) (w.alloc (.cells Z T))) :
    ∀ (n : Nat) (listed : Array Bool) (F : Nat → Prop) (a : Act) (w : World), wpJ P md ops QX (QBox base s T Z Q) n (listed.setIfInBounds i true) F a w → (∀ k, F k → k < w.heap.size) → base ≤ w.heap.size → listed.getD i true = false →
      (∀ j oj, ops[j]? = some oj → j ≠ i → listed.getD j true = false → oi.apart ops oj = true) → wpJ P md ops QX Q (n + 1) listed F a w := by
  intro n
  have hw : ∀ a : Act, Region.wanted oi (yielded ops a.tmps) = true := fun a => by unfold Region.wanted; rw [hgd]
  have lay : ∀ (n : Nat) (listed : Array Bool) (F : Nat → Prop) (a : Act) (w : World), wpJ P md ops QX (QBox base s T Z Q) n (listed.setIfInBounds i true) F a w → (∀ k, F k → k < w.heap.size) → base ≤ w.heap.size →
      (∀ j oj, ops[j]? = some oj → j ≠ i → listed.getD j true = false → oi.apart ops oj = true) → ∀ w', Jmp F w w' →
      wpOp P ops QX i (fun a2 w2 => Below w'.heap.size w' w2 ∧ wpJ P md ops QX Q n (listed.setIfInBounds i true) (fun k => F k ∨ Iv w' w2 k) a2 w2) a w' := by
    intro n listed F a w h hF hB hap w' hw'
    unfold wpOp
    simp only [hoi]
    rw [if_pos (hw a)]
    refine .inl ?_
    unfold Oper.wp
    rw [hrun a w']
    simp only [Oper.upon]
    refine ⟨below_one _ _, ?_⟩
    have e : (fun k => F k ∨ Iv w' (w'.alloc (.cells Z T)) k) = (fun k => F k ∨ k = w'.heap.size) := by
      funext k
      unfold Iv
      rw [World.size_alloc]
      exact propext ⟨fun h => h.imp id fun h => by omega, fun h => h.imp id fun h => by omega⟩
    rw [e]
    refine wpJ_laid hsel hdst hQ n _ F a w h hF (fun j oj hj hun => ?_) w'.heap.size _ (Nat.le_trans hB hw'.size) (fun hf => by have := hF _ hf; have := hw'.size; omega) (hw'.trans (Jmp.of_below (below_one _ _) (hw'.grow hF))) (Blk.new _ _ _)
    by_cases hji : j = i
    · subst hji
      rcases Nat.lt_or_ge j listed.size with h' | h'
      · simp [h'] at hun
      · simp [h'] at hun
    · exact hap j oj hj hji (setD hun)
  have rdy : ∀ listed : Array Bool, listed.getD i true = false → i ∈ Region.ready md ops listed := fun listed hl => mem_ready.2 ⟨hl, oi, hoi, fun e he => by rw [haf] at he; simp at he⟩
  induction n with
  | zero =>
    intro listed F a w h hF hB hl hap
    refine ⟨fun h0 => (by have := rdy listed hl; rw [h0] at this; cases this), fun j hj w' hw' => ?_⟩
    by_cases hji : j = i
    · subst hji; exact lay 0 listed F a w h hF hB hap w' hw'
    · have := ready_mono hj hji
      rw [h.1] at this
      cases this
  | succ n ih =>
    intro listed F a w h hF hB hl hap
    refine ⟨fun h0 => (by have := rdy listed hl; rw [h0] at this; cases this), fun j hj w' hw' => ?_⟩
    by_cases hji : j = i
    · subst hji; exact lay (n + 1) listed F a w h hF hB hap w' hw'
    · have h1 := h.2 j (ready_mono hj hji) w' hw'
      refine wpOp_mono (fun a' w2 ⟨h2, h3⟩ => ⟨h2, ih (listed.setIfInBounds j true) _ a' w2 ?_ (grow_F (hw'.grow hF) h2.size) (Nat.le_trans hB (Nat.le_trans hw'.size h2.size)) ?_ fun k ok hk hki hun => hap k ok hk hki (setD hun)⟩) h1
      · rw [Array.setIfInBounds_comm _ _ hji]; exact h3
      · rw [getD_set_ne true hji]; exact hl
end

/-- The tail is not yet done. -/
def untail (n : Nat) (listed : Array Bool) : Array Bool := listed.mapIdx fun i b => b && decide (i < n)
theorem untail_size (n : Nat) (listed : Array Bool) : (untail n listed).size = listed.size := by simp [untail]
theorem untail_getD {n : Nat} {listed : Array Bool} {j : Nat} (d : Bool) (hj : j < listed.size) : (untail n listed).getD j d = (listed.getD j d && decide (j < n)) := by
  simp [untail, hj]
theorem untail_set {n : Nat} {listed : Array Bool} {i : Nat} (hi : i < n) : untail n (listed.setIfInBounds i true) = (untail n listed).setIfInBounds i true := by
  apply Array.ext
  · simp [untail]
  · intro k h1 h2
    by_cases h : i = k
    · subst h; simp [untail, hi]
    · simp [untail, hi]
theorem wpAny_more {Q' : Exit → Act → World → Prop} : ∀ (n : Nat) (listed : Array Bool) (a : Act) (w : World), wpAny P md ops Q' n listed a w → wpAny P md ops Q' (n + 1) listed a w
  | 0, _, _, _, h => ⟨fun _ => h.2, by rw [h.1]; simp⟩
  | n + 1, _, _, _, h => ⟨h.1, fun i hi => wpOp_mono (fun a' w' h' => wpAny_more n _ a' w' h') (h.2 i hi)⟩
theorem wpAny_much {Q' : Exit → Act → World → Prop} {n : Nat} {listed : Array Bool} {a : Act} {w : World} (h : wpAny P md ops Q' n listed a w) : ∀ k, wpAny P md ops Q' (n + k) listed a w
  | 0 => h
  | k + 1 => wpAny_more _ _ _ _ (wpAny_much h k)

/-- The head waits for none of the tail. -/
def headB (md : Region.Mode) (ops : Array Oper) (n : Nat) : Bool := (List.range n).all fun i => match ops[i]? with | some o => o.after.all (fun e => !Region.binds md e || decide (e.on < n)) | none => true
theorem wpAny_of_wpJ {n g : Nat} (hh : headB md ops n = true) (hn : n < ops.size) (hs : Region.sinkB md ops n = true) (hc : Region.chainB md ops n = true) (hQ : ∀ listed F a w, Q listed F a w → Region.seqB md ops g n (untail n listed) = true ∧ wpAny P md ops QX g (untail n listed) a w) :
    ∀ (k : Nat) (listed : Array Bool) (F : Nat → Prop) (a : Act) (w : World), listed.size = ops.size → (∀ t, n ≤ t → t < ops.size → listed.getD t true = true) → HeadInv md ops n (untail n listed) → wpJ P md ops QX Q k listed F a w →
      wpAny P md ops QX (g + k) (untail n listed) a w := by
  intro k
  induction k with
  | zero =>
    intro listed F a w _ _ _ h
    exact (hQ _ _ _ _ (h.2 w (Jmp.refl _ _))).2
  | succ k ih =>
    intro listed F a w hsz ht inv h
    by_cases h0 : Region.ready md ops listed = []
    · exact wpAny_much (hQ _ _ _ _ (h.1 h0 w (Jmp.refl _ _))).2 (k + 1)
    · obtain ⟨i0, hi0⟩ := List.exists_mem_of_ne_nil _ h0
      obtain ⟨hun0, o0, ho0, _⟩ := mem_ready.1 hi0
      have hlt0 : i0 < ops.size := (Array.getElem?_eq_some_iff.1 ho0).1
      have hi0n : i0 < n := by
        rcases Nat.lt_or_ge i0 n with h' | h'
        · exact h'
        · rw [ht i0 h' hlt0] at hun0; cases hun0
      have hun0' : (untail n listed).getD i0 true = false := by rw [untail_getD true (by omega), hun0]; rfl
      have hnt := tail_waits hs hc hn inv (n - i0) i0 rfl hi0n hun0'
      have step : ∀ i ∈ Region.ready md ops (untail n listed), wpOp P ops QX i (wpAny P md ops QX (g + k) ((untail n listed).setIfInBounds i true)) a w := by
        intro i hi
        have hin : i < n := by
          rcases Nat.lt_or_ge i n with h' | h'
          · exact h'
          · exact absurd hi (hnt i h')
        obtain ⟨hun, oi, hoi, hall⟩ := mem_ready.1 hi
        have hil : i < listed.size := by have := (Array.getElem?_eq_some_iff.1 hoi).1; omega
        have hir : i ∈ Region.ready md ops listed := by
          refine mem_ready.2 ⟨?_, oi, hoi, fun e he hb => ?_⟩
          · rw [untail_getD true hil] at hun; simpa [hin] using hun
          · have := hall e he hb
            have hel : e.on < listed.size := by
              rcases Nat.lt_or_ge e.on listed.size with h' | h'
              · exact h'
              · simp [Array.getD_eq_getD_getElem?, Array.getElem?_eq_none (show (untail n listed).size ≤ e.on by rw [untail_size]; exact h')] at this
            rw [untail_getD false hel] at this
            simp only [Bool.and_eq_true] at this
            exact this.1
        refine wpOp_mono (fun a' w' h' => ?_) (h.2 i hir w (Jmp.refl _ _))
        rw [← untail_set hin]
        refine ih _ _ a' w' (by simpa using hsz) (fun t h1 h2 => ?_) ?_ h'.2
        · rw [getD_set_ne true (by omega)]; exact ht t h1 h2
        · rw [untail_set hin]; exact inv.set hi hin
      refine ⟨fun hr => ?_, step⟩
      exfalso
      obtain ⟨_, o1, ho1, hall1⟩ := mem_ready.1 hi0
      have hin : i0 ∈ Region.ready md ops (untail n listed) := by
        refine mem_ready.2 ⟨hun0', o1, ho1, fun e he hb => ?_⟩
        have h1 := List.all_eq_true.1 hh i0 (List.mem_range.2 hi0n)
        rw [ho1] at h1
        have h2 := Array.all_eq_true_iff_forall_mem.1 h1 e he
        rw [hb] at h2
        simp only [Bool.not_true, Bool.false_or, decide_eq_true_eq] at h2
        rw [untail_getD false (by omega), hall1 e he hb]
        simpa using h2
      rw [hr] at hin
      cases hin


/-- The region's beginning: the head in whatever order, the tail one behind the other. The boxes are struck next, by wpJ_box. -/
theorem wp_region_jump {id : Nat} {Q : Exit → Act → World → Prop} {a : Act} {w : World} {l : List Oper} {L : Array Bool} (n : Nat) (hm : P.follows .mixedOrders = true) (hL : ((untail n (Array.replicate l.length true)).map fun b => !b) = L)
    (hB : (Region.noSelect l.toArray && decide (n < l.length) && Region.sinkB .any l.toArray n && Region.chainB .any l.toArray n && headB .any l.toArray n) = true)
    (h : wpJ P .any l.toArray Q (fun listed _ a w => Region.seqB .any l.toArray (l.length - n) n (untail n listed) = true ∧ wpList P l.toArray Q (l.drop n) a w) n L (Lt w.drew.heap.size) a w.drew) : (Code.region id l.toArray true).wp P Q a w := by
  simp only [Bool.and_eq_true, decide_eq_true_eq] at hB
  subst hL
  obtain ⟨⟨⟨⟨hsel, hn⟩, hs⟩, hc⟩, hh⟩ := hB
  refine wp_region_any hm ?_
  have e : untail n (untail n (Array.replicate l.length true) |>.map fun b => !b) = Array.replicate l.toArray.size false := by
    apply Array.ext
    · simp [untail]
    · intro i h1 h2
      simp [untail]
  have inv : HeadInv .any l.toArray n (untail n (untail n (Array.replicate l.length true) |>.map fun b => !b)) := by
    rw [e]
    exact ⟨by simp, fun j oj _ hl => (by rw [getD_replicate_false] at hl; cases hl), fun t _ ht => getD_in (by simpa using ht) (getD_replicate_false _ _)⟩
  have := wpAny_of_wpJ (QX := Q) (g := l.length - n) hh (by simpa using hn) hs hc (fun listed F a w ⟨h1, h2⟩ => ⟨h1, ?_⟩) n _ _ a w.drew (by simp [untail]) (fun t h1 h2 => ?_) inv h
  · have h3 := wpAny_of_seq (md := .any) (Q' := Q) (l.drop n) n (untail n listed) a w (fun j => by simp [List.getElem?_drop]) (by simpa using h1) h2
    simpa using h3
  · have ht : t < l.length := by simpa using h2
    simp [untail, ht]
    omega
  · rw [e, show l.length - n + n = l.toArray.size by simp; omega] at this
    exact this

/-- Who is not yet done does not look at the box, nor the box at what they write. -/
def boxFree (ops : Array Oper) (listed : Array Bool) (i : Nat) : Bool :=
  match ops[i]? with
  | some oi => (List.range ops.size).all fun j => j == i || listed.getD j true || (match ops[j]? with | some oj => oi.apart ops oj | none => true)
  | none => true
theorem wpJ_boxB {base i : Nat} {s : Tmp} {T : TypeId} {Z : Array Value} {pos : String} {ty : TypeId} {n : Nat} {listed : Array Bool} {F : Nat → Prop} {a : Act} {w : World}
    (hoi : ops[i]? = some { dst := some s, op := .alloc T, type := ty, pos := pos, after := #[], guard := none }) (hsel : Region.noSelect ops = true) (hl : listed.getD i true = false) (hap : boxFree ops listed i = true)
    (hrun : ∀ w : World, (execOp a.eval { dst := some s, op := .alloc T, type := ty, pos := pos, after := #[], guard := none }).run P w = .ok (.value (.pointer (some ⟨w.heap.size, 0, none⟩))) (w.alloc (.cells Z T)))
    (hQ : ∀ c a v w, QX (.panic c) a w → QX (.panic c) (a.put (some s) v) w) (hF : ∀ k, F k → k < w.heap.size) (hB : base ≤ w.heap.size)
    (h : wpJ P md ops QX (QBox base s T Z Q) n (listed.setIfInBounds i true) F a w) : wpJ P md ops QX Q (n + 1) listed F a w :=
  wpJ_box (oi := { dst := some s, op := .alloc T, type := ty, pos := pos, after := #[], guard := none }) hoi (Region.noSelect_spec hsel) rfl hQ rfl rfl (fun b w => (show (execOp b.eval _).run P w = _ from hrun w)) n listed F a w h hF hB hl fun j oj hj hji hun => by
    have h1 := List.all_eq_true.1 (show (List.range ops.size).all _ = true from by unfold boxFree at hap; rw [hoi] at hap; exact hap) j (List.mem_range.2 (Array.getElem?_eq_some_iff.1 hj).1)
    rw [hj, hun] at h1
    simpa [hji] using h1

theorem wpOp_of_list {i : Nat} {o : Oper} (ho : ops[i]? = some o) {K : Act → World → Prop} {a : Act} {w : World} (h : wpList P ops (Exit.then K QX) [o] a w) : wpOp P ops QX i K a w := by
  unfold wpOp
  simp only [ho]
  exact h
/-- The one that may come up comes up, what follows behind a variable. -/
theorem wpJ_call {i : Nat} {o : Oper} {fuel : Nat} {listed : Array Bool} {F : Nat → Prop} {a : Act} {w : World} (hr : Region.ready md ops listed = [i]) (ho : ops[i]? = some o)
    (h : ∀ w', Jmp F w w' → ∀ K : Act → World → Prop, Hid (∀ a2 w2, Below w'.heap.size w' w2 → wpJ P md ops QX Q fuel (listed.setIfInBounds i true) (fun k => F k ∨ Iv w' w2 k) a2 w2 → K a2 w2) → wpList P ops (Exit.then K QX) [o] a w') : wpJ P md ops QX Q (fuel + 1) listed F a w :=
  wpJ_one hr fun w' hj => wpOp_of_list ho (h w' hj _ (Lib.hid fun _ _ h1 h2 => ⟨h1, h2⟩))
theorem Jmp.cell {F : Nat → Prop} {w w' : World} (h : Jmp F w w') {b : Nat} (o : Nat) (hb : F b) : w'.cell? ⟨b, o, none⟩ = w.cell? ⟨b, o, none⟩ := World.cell?_of_block (a := ⟨b, o, none⟩) (h.keep b hb)
theorem Jmp.blk {F : Nat → Prop} {w w' : World} (h : Jmp F w w') {b : Nat} {t : TypeId} {cs : Array Value} (hb : F b) (hk : Blk w b t cs) : Blk w' b t cs := (h.keep b hb).trans hk
theorem Jmp.fst {F G : Nat → Prop} {w w1 : World} (h : Jmp (fun k => F k ∨ G k) w w1) : Jmp F w w1 := h.less fun _ => .inl
theorem Jmp.from {F : Nat → Prop} {w w1 w2 : World} (h : Jmp F w w1) (hb : Below w1.heap.size w1 w2) (hF : ∀ k, F k → k < w1.heap.size) : Jmp F w w2 := h.trans (Jmp.of_below hb hF)
/-- From behind a call back to ahead of it. -/
theorem Jmp.back {F : Nat → Prop} {w v w1 w2 : World} (h : Jmp F w v) (hF : ∀ k, F k → k < w.heap.size) (hb : Below v.heap.size v w1) (k : Jmp (fun k => F k ∨ Iv v w1 k) w1 w2) : Jmp F w w2 :=
  h.trans ((Jmp.of_below hb (h.grow hF)).trans k.fst)
/-- A block that the call has laid is still there. -/
theorem Jmp.laid {F : Nat → Prop} {v w1 w2 : World} (k : Jmp (fun k => F k ∨ Iv v w1 k) w1 w2) {b : Nat} (h1 : v.heap.size ≤ b) (h2 : b < w1.heap.size) : w2.heap[b]? = w1.heap[b]? := k.keep b (.inr ⟨h1, h2⟩)
theorem Jmp.low {w w1 : World} (h : Jmp (Lt w.drew.heap.size) w.drew w1) : Below w.heap.size w w1 := below_undrew h.below
/-- An operation of a region that is written out. -/
def nthL {α : Type} : List α → Nat → Option α
  | [], _ => none
  | x :: _, 0 => some x
  | _ :: r, i + 1 => nthL r i
theorem nthL_eq {α : Type} : ∀ (l : List α) (i : Nat), nthL l i = l[i]?
  | [], _ => rfl
  | _ :: _, 0 => rfl
  | _ :: r, i + 1 => by simpa [nthL] using nthL_eq r i
theorem nthL_arr {α : Type} {l : List α} {i : Nat} {o : α} (h : nthL l i = some o) : l.toArray[i]? = some o := by rw [List.getElem?_toArray, ← nthL_eq]; exact h
theorem wpJ_takeL {l : List Oper} {i : Nat} {oi : Oper} {v : Value} {fuel : Nat} {listed : Array Bool} {F : Nat → Prop} {a : Act} {w : World} (hi : nthL l i = some oi)
    (hs : Region.noSelect l.toArray = true) (hf : Region.free md l.toArray listed i = true) (hr : (Region.ready md l.toArray listed).contains i = true)
    (hQ : ∀ c a w, QX (.panic c) (a.put oi.dst v) w → QX (.panic c) a w) (hF : ∀ k, F k → k < w.heap.size) (hy : YieldsIf P l.toArray (Jmp F w) oi v a)
    (h : wpJ P md l.toArray QX Q fuel (listed.setIfInBounds i true) F (a.put oi.dst v) w) : wpJ P md l.toArray QX Q (fuel + 1) listed F a w :=
  wpJ_take (nthL_arr hi) hs hf hr hQ hF hy h
theorem wpJ_callL {l : List Oper} {i : Nat} {o : Oper} {fuel : Nat} {listed : Array Bool} {F : Nat → Prop} {a : Act} {w : World} (hr : Region.ready md l.toArray listed = [i]) (ho : nthL l i = some o)
    (h : ∀ w', Jmp F w w' → ∀ K : Act → World → Prop, Hid (∀ a2 w2, Below w'.heap.size w' w2 → wpJ P md l.toArray QX Q fuel (listed.setIfInBounds i true) (fun k => F k ∨ Iv w' w2 k) a2 w2 → K a2 w2) → wpList P l.toArray (Exit.then K QX) [o] a w') : wpJ P md l.toArray QX Q (fuel + 1) listed F a w :=
  wpJ_call hr (nthL_arr ho) h
theorem wpJ_boxL {l : List Oper} {base i : Nat} {s : Tmp} {T : TypeId} {Z : Array Value} {pos : String} {ty : TypeId} {n : Nat} {listed : Array Bool} {F : Nat → Prop} {a : Act} {w : World}
    (hoi : nthL l i = some { dst := some s, op := .alloc T, type := ty, pos := pos, after := #[], guard := none }) (hsel : Region.noSelect l.toArray = true) (hl : listed.getD i true = false) (hap : boxFree l.toArray listed i = true)
    (hrun : ∀ w : World, (execOp a.eval { dst := some s, op := .alloc T, type := ty, pos := pos, after := #[], guard := none }).run P w = .ok (.value (.pointer (some ⟨w.heap.size, 0, none⟩))) (w.alloc (.cells Z T)))
    (hQ : ∀ c a v w, QX (.panic c) a w → QX (.panic c) (a.put (some s) v) w) (hF : ∀ k, F k → k < w.heap.size) (hB : base ≤ w.heap.size)
    (h : wpJ P md l.toArray QX (QBox base s T Z Q) n (listed.setIfInBounds i true) F a w) : wpJ P md l.toArray QX Q (n + 1) listed F a w :=
  wpJ_boxB (nthL_arr hoi) hsel hl hap hrun hQ hF hB h
theorem wpJ_call2 {l : List Oper} {i j : Nat} {o o' : Oper} {fuel : Nat} {listed : Array Bool} {F : Nat → Prop} {a : Act} {w : World} (hr : Region.ready md l.toArray listed = [i, j]) (ho : nthL l i = some o) (ho' : nthL l j = some o')
    (h : ∀ w', Jmp F w w' → ∀ K : Act → World → Prop, Hid (∀ a2 w2, Below w'.heap.size w' w2 → wpJ P md l.toArray QX Q fuel (listed.setIfInBounds i true) (fun k => F k ∨ Iv w' w2 k) a2 w2 → K a2 w2) → wpList P l.toArray (Exit.then K QX) [o] a w')
    (h' : ∀ w', Jmp F w w' → ∀ K : Act → World → Prop, Hid (∀ a2 w2, Below w'.heap.size w' w2 → wpJ P md l.toArray QX Q fuel (listed.setIfInBounds j true) (fun k => F k ∨ Iv w' w2 k) a2 w2 → K a2 w2) → wpList P l.toArray (Exit.then K QX) [o'] a w') :
    wpJ P md l.toArray QX Q (fuel + 1) listed F a w := by
  refine ⟨fun h0 => (by rw [hr] at h0; cases h0), fun k hk w' hj => ?_⟩
  rw [hr] at hk
  rcases List.mem_cons.1 hk with rfl | hk
  · exact wpOp_of_list (nthL_arr ho) (h w' hj _ (Lib.hid fun _ _ h1 h2 => ⟨h1, h2⟩))
  · obtain rfl := List.mem_singleton.1 hk
    exact wpOp_of_list (nthL_arr ho') (h' w' hj _ (Lib.hid fun _ _ h1 h2 => ⟨h1, h2⟩))
end
end Go.Proofs.Ytedbjkjncfinnaa
