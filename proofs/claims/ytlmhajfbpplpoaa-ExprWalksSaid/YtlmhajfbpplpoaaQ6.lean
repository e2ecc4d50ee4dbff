/-
  Resolved code touches no more than it tells; freezing and adopting change nothing in the world. No program in sight.
  Freezing a row and adopting an empty one are steps that the world does not see. No program in sight.
  Renaming the numbers of the small heap. No program in sight.
  What is right about a computation over a small heap of its own, whatever else there is. No program in sight.
  Dropping what is reached no more. No program in sight.
  The parts of a call over a small heap of its own. No program in sight.
  A call over a small heap of its own is right in the caller's. No program in sight.
  Resolved code runs as the code does, if what is asked about functions and loops is right. No program in sight.
-/
import Derived.Test.YtlmhajfbpplpoaaQI
set_option linter.unusedSectionVars false
set_option linter.unusedSimpArgs false
set_option linter.unusedVariables false
namespace Go.Proofs.Ytlmhajfbpplpoaa
open Go.RowKit

section
variable {A : Ar}
theorem Loc.loadM (row : Bool) (n : Nat) (a : AV) : Loc (loadM row n a) := by
  unfold Go.Proofs.Ytlmhajfbpplpoaa.loadM
  cases row
  · exact Loc.bind (Loc.rdAt _ _) fun _ => Loc.opt _
  · exact Loc.bind (Loc.rdAt _ _) fun _ => Loc.ret _
theorem Loc.storeM (n : Nat) (a x : AV) : Loc (storeM n a x) := by
  unfold Go.Proofs.Ytlmhajfbpplpoaa.storeM
  split
  · exact Loc.ite (Loc.bind (Loc.getB _) fun k => Loc.ite (Loc.bind (Loc.setB _ _) fun _ => Loc.ret _) Loc.fail) Loc.fail
  · exact Loc.fail
theorem Loc.buildSlM (z : List Value) (e n : Nat) (ps : List (Nat × AV)) : Loc (buildSlM z e n ps) := by
  unfold Go.Proofs.Ytlmhajfbpplpoaa.buildSlM
  repeat' split
  all_goals first
    | exact Loc.fail
    | exact Loc.bind (Loc.newB _) fun _ => Loc.ret _
theorem Loc.newsM (e : Nat) (x : AV) : Loc (newsM e x) := by
  unfold Go.Proofs.Ytlmhajfbpplpoaa.newsM
  split
  · split
    · refine Loc.bind (Loc.getB _) fun k => ?_
      split
      · exact Loc.ret _
      · exact Loc.fail
    · exact Loc.fail
  · split
    · exact Loc.ret _
    · exact Loc.fail
  · exact Loc.ret _
  · exact Loc.fail
theorem Loc.appM (e b : Nat) (s x : AV) : Loc (appM e b s x) := by
  unfold Go.Proofs.Ytlmhajfbpplpoaa.appM
  refine Loc.bind (Loc.newsM _ _) fun r => ?_
  repeat' split
  all_goals first
    | exact Loc.fail
    | exact Loc.ret _
    | exact Loc.bind (Loc.newB _) fun _ => Loc.ret _
    | refine Loc.bind (Loc.getB _) fun k => ?_
  repeat' split
  all_goals first
    | exact Loc.fail
    | exact Loc.bind (Loc.delB _) fun _ => Loc.bind (Loc.newB _) fun _ => Loc.ret _
    | exact Loc.bind (Loc.setB _ _) fun _ => Loc.bind (Loc.newB _) fun _ => Loc.ret _
theorem Loc.mkslM (z : List Value) (e b : Nat) (l c : AV) : Loc (mkslM z e b l c) := by
  unfold Go.Proofs.Ytlmhajfbpplpoaa.mkslM
  repeat' split
  all_goals first
    | exact Loc.fail
    | exact Loc.bind (Loc.newB _) fun _ => Loc.ret _
theorem Loc.cpyM (e : Nat) (d x : AV) : Loc (cpyM e d x) := by
  unfold Go.Proofs.Ytlmhajfbpplpoaa.cpyM
  split
  · split
    · refine Loc.bind (Loc.newsM _ _) fun r => ?_
      split
      · refine Loc.bind (Loc.getB _) fun k => ?_
        split
        · exact Loc.bind (Loc.setB _ _) fun _ => Loc.ret _
        · exact Loc.fail
      · exact Loc.fail
    · exact Loc.fail
  · exact Loc.fail
theorem Loc.mop {Γ : FuncId → List AV → AM AV} (hΓ : ∀ f args, Loc (Γ f args)) (o : MO) (T : List AV) : Loc (mop A Γ o T) := by
  unfold Go.Proofs.Ytlmhajfbpplpoaa.mop
  repeat' split
  all_goals first
    | exact Loc.fail
    | exact Loc.ret _
    | exact Loc.opt _
    | exact Loc.boxA _
    | exact Loc.bind (Loc.newB _) fun _ => Loc.ret _
    | exact Loc.buildSlM _ _ _ _
    | exact Loc.loadM _ _ _
    | exact Loc.storeM _ _ _
    | exact Loc.mkslM _ _ _ _ _
    | exact Loc.appM _ _ _ _
    | exact Loc.cpyM _ _ _
    | exact hΓ _ _
theorem Loc.coreM {Γ : FuncId → List AV → AM AV} (hΓ : ∀ f args, Loc (Γ f args)) (o : MOp) (T : List AV) : Loc (coreM A Γ o T) := by
  unfold Go.Proofs.Ytlmhajfbpplpoaa.coreM
  repeat' split
  all_goals first
    | exact Loc.fail
    | exact Loc.ret _
    | exact Loc.mop hΓ _ _
/-- A region as a chain. -/
def chainM (A : Ar) (Γ : FuncId → List AV → AM AV) (l : List MOp) (T : List AV) : AM (List AV × List Foot) := fun H => match runM A Γ l T H with
  | some (T', H', fs) => some ((T', fs), H', ⟨fs.flatMap (·.rd), fs.flatMap (·.wr)⟩)
  | none => none
theorem chainM_cons (Γ : FuncId → List AV → AM AV) (o : MOp) (r : List MOp) (T : List AV) :
    chainM A Γ (o :: r) T = (logged (coreM A Γ o T)).bind fun vf => (chainM A Γ r (dstSet T o.dst vf.1)).bind fun q => AM.ret (q.1, vf.2 :: q.2) := by
  funext H
  simp only [chainM, runM, AM.bind, logged, AM.ret]
  rcases Go.Proofs.Ytlmhajfbpplpoaa.coreM A Γ o T H with _ | ⟨v, H1, f⟩
  · rfl
  simp only
  rcases runM A Γ r (dstSet T o.dst v) H1 with _ | ⟨T2, H2, fs⟩
  · rfl
  · simp
theorem Loc.chainM {Γ : FuncId → List AV → AM AV} (hΓ : ∀ f args, Loc (Γ f args)) : ∀ (l : List MOp) (T : List AV), Loc (chainM A Γ l T)
  | [], T => by
    have : Go.Proofs.Ytlmhajfbpplpoaa.chainM A Γ [] T = AM.ret (T, []) := by funext H; simp [Go.Proofs.Ytlmhajfbpplpoaa.chainM, runM, AM.ret]
    rw [this]; exact Loc.ret _
  | o :: r, T => by
    rw [chainM_cons]
    exact Loc.bind (Loc.logged (Loc.coreM hΓ o T)) fun _ => Loc.bind (Loc.chainM hΓ r _) fun _ => Loc.ret _
theorem regM_eq (Γ : FuncId → List AV → AM AV) (ops : List MOp) (bf : Option (List Nat)) (T : List AV) :
    regM A Γ ops bf T = (chainM A Γ ops T).bind fun r => match bf with
      | none => AM.ret (.normal, r.1)
      | some bf => (match heapOk bf r.2 with
        | true => AM.ret (.normal, r.1)
        | false => AM.fail) := by
  funext H
  unfold Go.Proofs.Ytlmhajfbpplpoaa.regM Go.Proofs.Ytlmhajfbpplpoaa.chainM AM.bind
  cases e0 : runM A Γ ops T H with
  | none => simp [e0]
  | some r =>
    obtain ⟨T', H', fs⟩ := r
    cases bf with
    | none => simp [AM.ret, e0]
    | some bf => cases e : heapOk bf fs <;> simp [AM.ret, AM.fail, e, e0]
theorem Loc.regM {Γ : FuncId → List AV → AM AV} (hΓ : ∀ f args, Loc (Γ f args)) (ops : List MOp) (bf : Option (List Nat)) (T : List AV) : Loc (regM A Γ ops bf T) := by
  rw [regM_eq]
  refine Loc.bind (Loc.chainM hΓ _ _) fun r => ?_
  cases bf with
  | none => exact Loc.ret _
  | some bf =>
    simp only
    split
    · exact Loc.ret _
    · exact Loc.fail
theorem Loc.adoptM : ∀ (l : List (Nat × Nat)) (T : List AV), Loc (adoptM l T)
  | [], T => Loc.ret _
  | (t, e) :: r, T => by
    unfold Go.Proofs.Ytlmhajfbpplpoaa.adoptM
    split
    · exact Loc.bind (Loc.newB _) fun b => Loc.adoptM r _
    · exact Loc.adoptM r T
theorem Loc.frz0 (x : AV) : Loc (frz0 x) := by
  unfold Go.Proofs.Ytlmhajfbpplpoaa.frz0
  split <;> first
    | exact Loc.ret _
    | exact Loc.fail
mutual
theorem Loc.frz : ∀ (n : Nat) (x : AV), Loc (frz n x)
  | 0, x => by
    unfold Go.Proofs.Ytlmhajfbpplpoaa.frz
    exact Loc.frz0 x
  | n + 1, x => by
    unfold Go.Proofs.Ytlmhajfbpplpoaa.frz
    split
    · exact Loc.ret _
    · refine Loc.bind (Loc.getB _) fun k => ?_
      split
      · exact Loc.fail
      · refine Loc.bind ?_ fun _ => ?_
        · split
          · exact Loc.setB _ _
          · exact Loc.ret _
        · split
          · exact Loc.ret _
          · refine Loc.bind (Loc.frzL n _) fun cs => ?_
            split
            · exact Loc.ret _
            · exact Loc.fail
    · exact Loc.bind (Loc.frzL n _) fun _ => Loc.ret _
    · exact Loc.bind (Loc.frzL n _) fun _ => Loc.ret _
    · exact Loc.ret _
theorem Loc.frzL : ∀ (n : Nat) (l : List AV), Loc (frzL n l)
  | n, [] => by
    unfold Go.Proofs.Ytlmhajfbpplpoaa.frzL
    exact Loc.ret _
  | 0, _ :: _ => by
    unfold Go.Proofs.Ytlmhajfbpplpoaa.frzL
    exact Loc.fail
  | n + 1, x :: r => by
    unfold Go.Proofs.Ytlmhajfbpplpoaa.frzL
    exact Loc.bind (Loc.frz n x) fun _ => Loc.bind (Loc.frzL n r) fun _ => Loc.ret _
end
theorem Loc.frzB (b : Nat) : Loc (frzB b) := by
  unfold Go.Proofs.Ytlmhajfbpplpoaa.frzB
  refine Loc.bind (Loc.getB _) fun k => ?_
  split
  · refine Loc.bind (Loc.frzL _ _) fun _ => Loc.bind (Loc.getB _) fun _ => ?_
    split
    · exact Loc.setB _ _
    · exact Loc.fail
  · exact Loc.ret _
theorem Loc.frzT : ∀ (l : List Nat) (T : List AV), Loc (frzT l T)
  | [], T => Loc.ret _
  | t :: r, T => by
    unfold Go.Proofs.Ytlmhajfbpplpoaa.frzT
    split
    · exact Loc.bind (Loc.frzB _) fun _ => Loc.frzT r T
    · exact Loc.bind (Loc.frz _ _) fun _ => Loc.frzT r _
    · exact Loc.frzT r T
theorem Loc.evC {Γ : FuncId → List AV → AM AV} {Λ : Nat → List AV → AM (AX × List AV)} (hΓ : ∀ f args, Loc (Γ f args)) (hΛ : ∀ i T, Loc (Λ i T)) : ∀ (c : MC) (T : List AV), Loc (evC A Γ Λ c T)
  | .skip, T => Loc.ret _
  | .reg ops bf, T => Loc.regM hΓ _ _ _
  | .seq a b, T => by
    unfold Go.Proofs.Ytlmhajfbpplpoaa.evC
    refine Loc.bind (Loc.evC hΓ hΛ a T) fun r => ?_
    split
    · exact Loc.evC hΓ hΛ b _
    · exact Loc.ret _
  | .cond c a b, T => by
    unfold Go.Proofs.Ytlmhajfbpplpoaa.evC
    split
    · split
      · exact Loc.evC hΓ hΛ a T
      · exact Loc.evC hΓ hΛ b T
    · exact Loc.fail
  | .block id c, T => by
    unfold Go.Proofs.Ytlmhajfbpplpoaa.evC
    refine Loc.bind (Loc.evC hΓ hΛ c T) fun r => ?_
    split
    · exact Loc.ite (Loc.ret _) (Loc.ret _)
    · exact Loc.ret _
  | .loop i h, T => by
    unfold Go.Proofs.Ytlmhajfbpplpoaa.evC
    refine Loc.bind (Loc.adoptM _ _) fun _ => Loc.bind (Loc.frzT _ _) fun _ => ?_
    split
    · exact Loc.bind (hΛ _ _) fun _ => Loc.ret _
    · exact Loc.fail
  | .exit id, T => Loc.ret _
  | .ret, T => Loc.ret _
  | .bad, _ => Loc.fail
theorem Loc.delT : ∀ (l : List Nat) (T : List AV), Loc (delT l T)
  | [], T => Loc.ret _
  | t :: r, T => by
    unfold Go.Proofs.Ytlmhajfbpplpoaa.delT
    split
    · exact Loc.bind (Loc.delB _) fun _ => Loc.delT r T
    · exact Loc.bind (Loc.delB _) fun _ => Loc.delT r T
    · exact Loc.delT r T
theorem Loc.touchS (x : AV) : Loc (touchS x) := by
  unfold Go.Proofs.Ytlmhajfbpplpoaa.touchS
  split
  · refine Loc.bind (Loc.getB _) fun k => ?_
    split
    · exact Loc.bind (Loc.delB _) fun _ => Loc.bind (Loc.newB _) fun _ => Loc.ret _
    · exact Loc.ret _
  · exact Loc.ret _
theorem Loc.touchL : ∀ l : List AV, Loc (touchL l)
  | [] => Loc.ret _
  | x :: r => by
    unfold Go.Proofs.Ytlmhajfbpplpoaa.touchL
    exact Loc.bind (Loc.touchS x) fun _ => Loc.bind (Loc.touchL r) fun _ => Loc.ret _
theorem Loc.touchB (b : Nat) : Loc (touchB b) := by
  unfold Go.Proofs.Ytlmhajfbpplpoaa.touchB
  refine Loc.bind (Loc.getB _) fun k => ?_
  split
  · refine Loc.bind (Loc.touchL _) fun _ => Loc.bind (Loc.getB _) fun _ => ?_
    split
    · exact Loc.setB _ _
    · exact Loc.fail
  · exact Loc.ret _
theorem Loc.touchI : ∀ l : List Nat, Loc (touchI l)
  | [] => Loc.ret _
  | b :: r => by
    unfold Go.Proofs.Ytlmhajfbpplpoaa.touchI
    exact Loc.bind (Loc.touchB b) fun _ => Loc.touchI r
theorem Loc.touchV (x : AV) : Loc (touchV x) := by
  unfold Go.Proofs.Ytlmhajfbpplpoaa.touchV
  split
  · exact Loc.touchS _
  · exact Loc.bind (Loc.touchL _) fun _ => Loc.bind (Loc.touchI _) fun _ => Loc.ret _
  · exact Loc.bind (Loc.touchI _) fun _ => Loc.ret _
theorem Loc.touchA : ∀ l : List AV, Loc (touchA l)
  | [] => Loc.ret _
  | x :: r => by
    unfold Go.Proofs.Ytlmhajfbpplpoaa.touchA
    exact Loc.bind (Loc.touchV x) fun _ => Loc.bind (Loc.touchA r) fun _ => Loc.ret _
end
end Go.Proofs.Ytlmhajfbpplpoaa
namespace Go.Proofs.Ytlmhajfbpplpoaa
open Go.RowKit

/-- A step of the small heap alone. -/
def Gh (μ : Mu) (F : Prot) (w : World) (H H' : AH) (Q : Mu → Prot → Prop) : Prop :=
  ∃ μ' F', Later μ μ' F F' w w ∧ HRep μ' F' w H'.get ∧ (∀ b, (b < H.next ∨ H'.next ≤ b) → μ' b = μ b) ∧ Q μ' F'
section
variable {μ : Mu} {F : Prot} {w : World} {H H1 H2 : AH}
theorem Gh.same {Q : Mu → Prot → Prop} (hH : HRep μ F w H.get) (h : Q μ F) : Gh μ F w H H Q := ⟨μ, F, Later.refl _ _ _, hH, fun _ _ => rfl, h⟩
theorem Gh.trans {Q : Mu → Prot → Prop} (hn1 : H.next ≤ H1.next) (hn2 : H1.next ≤ H2.next) {Q1 : Mu → Prot → Prop} (h : Gh μ F w H H1 Q1) (k : ∀ μ' F', Later μ μ' F F' w w → HRep μ' F' w H1.get → (∀ b, (b < H.next ∨ H1.next ≤ b) → μ' b = μ b) → Q1 μ' F' → Gh μ' F' w H1 H2 Q) : Gh μ F w H H2 Q := by
  obtain ⟨μ1, F1, h1, h2, h3, h4⟩ := h
  obtain ⟨μ2, F2, k1, k2, k3, k4⟩ := k μ1 F1 h1 h2 h3 h4
  refine ⟨μ2, F2, h1.trans k1, k2, fun b hb => ?_, k4⟩
  rw [k3 b (by omega), h3 b (by omega)]
theorem Gh.mono {Q Q' : Mu → Prot → Prop} (h : Gh μ F w H H1 Q) (k : ∀ μ' F', Later μ μ' F F' w w → Q μ' F' → Q' μ' F') : Gh μ F w H H1 Q' := by
  obtain ⟨μ1, F1, h1, h2, h3, h4⟩ := h
  exact ⟨μ1, F1, h1, h2, h3, k _ _ h1 h4⟩
theorem chunk_get : ∀ (n e : Nat) (l : List AV) (i : Nat), (chunk n e l)[i]? = if i < n then some ((l.drop (i * e)).take e) else none
  | 0, e, l, i => by simp [chunk]
  | n + 1, e, l, 0 => by simp [chunk]
  | n + 1, e, l, i + 1 => by
    simp only [chunk, List.getElem?_cons_succ, chunk_get n e (l.drop e) i, List.drop_drop, Nat.add_lt_add_iff_right]
    rw [show e + i * e = (i + 1) * e by rw [Nat.add_mul]; omega]
theorem chunk_length : ∀ (n e : Nat) (l : List AV), (chunk n e l).length = n
  | 0, e, l => rfl
  | n + 1, e, l => by simp [chunk, chunk_length n]
theorem noidL_take {l : List AV} (h : noidL l = true) (n : Nat) : noidL (l.take n) = true := by
  rw [noidL_all] at h ⊢
  exact List.all_eq_true.2 fun x hx => List.all_eq_true.1 h x (List.mem_of_mem_take hx)
theorem noidL_drop {l : List AV} (h : noidL l = true) (n : Nat) : noidL (l.drop n) = true := by
  rw [noidL_all] at h ⊢
  exact List.all_eq_true.2 fun x hx => List.all_eq_true.1 h x (List.mem_of_mem_drop hx)
theorem noidR_chunk : ∀ (n e : Nat) {l : List AV}, noidL l = true → noidR (chunk n e l) = true
  | 0, e, l, h => rfl
  | n + 1, e, l, h => by
    have := noidR_chunk n e (noidL_drop h e)
    unfold noidR at this ⊢
    simp [chunk, noidL_take h, this]
/-- Rows out of cells. -/
theorem rep_chunk {g q m e c : Nat} {cs : List AV} (hn : noidL cs = true) (hl : cs.length = m * e) (hm : m ≤ c) (hc : c ≤ maxLen) {u : Value} (hu : u = .slice (some ⟨g, q, none⟩) m c) (hr : m ≠ 0 → RepAt μ F w g cs q) : Rep μ F w (.ls (chunk m e cs)) u := by
  simp only [Rep]
  refine ⟨noidR_chunk m e hn, some ⟨g, q, none⟩, c, by rw [chunk_length]; exact hu, by rw [chunk_length]; exact hm, hc, fun hne => ⟨g, q, e, rfl, ?_⟩⟩
  have hm0 : m ≠ 0 := fun h0 => hne (by rw [h0]; rfl)
  have hr := hr hm0
  refine RepRows.mk fun i x hx => ?_
  rw [chunk_get] at hx
  split at hx
  · rename_i hi
    simp only [Option.some.injEq] at hx
    subst hx
    have h1 : i * e + e ≤ m * e := by rw [← Nat.succ_mul]; exact Nat.mul_le_mul_right e hi
    refine ⟨by rw [List.length_take, List.length_drop, hl]; omega, ?_⟩
    have h2 := hr.drop (i * e)
    refine RepAt.mk fun j y hy => ?_
    rw [List.getElem?_take] at hy
    split at hy
    · exact h2.get hy
    · cases hy
  · cases hx
theorem setB_run {b : Nat} {k : ABlk} {u : Unit} {H H' : AH} {ft : Foot} (h : AM.setB b k H = some (u, H', ft)) : H' = H.put b k ∧ ∃ k0, H.get b = some k0 := by
  unfold AM.setB at h
  cases e : H.get b with
  | none => rw [e] at h; cases h
  | some k0 =>
    rw [e] at h
    simp only [Option.some.injEq, Prod.mk.injEq] at h
    exact ⟨h.2.1.symm, k0, rfl⟩
theorem frz_next (n : Nat) (x : AV) {y : AV} {H' : AH} {ft : Foot} (hw : H.wf) (h : frz n x H = some (y, H', ft)) : H.next ≤ H'.next ∧ H'.wf := ⟨(Loc.frz n x H y H' ft hw h).next, (Loc.frz n x H y H' ft hw h).wf⟩
theorem frzL_next (n : Nat) (x : List AV) {y : List AV} {H' : AH} {ft : Foot} (hw : H.wf) (h : frzL n x H = some (y, H', ft)) : H.next ≤ H'.next ∧ H'.wf := ⟨(Loc.frzL n x H y H' ft hw h).next, (Loc.frzL n x H y H' ft hw h).wf⟩
theorem put_wf {b : Nat} {k k0 : ABlk} (hw : H.wf) (hb : H.get b = some k0) : (H.put b k).wf := fun c h1 h2 => by
  rw [AH.get_put]
  by_cases hcb : c = b
  · subst hcb
    rw [hw c h1 h2] at hb
    cases hb
  · rw [if_neg hcb]; exact hw c h1 h2
theorem rep_nilA {z u : Value} (hx : Rep μ F w (.v z) u) : Rep μ F w (nilA z) u := by
  unfold nilA
  split
  · rename_i e
    simp only [Rep] at hx ⊢
    rw [hx.1, isNilV_eq e]
    exact ⟨rfl, none, 0, rfl, Nat.le_refl _, Nat.zero_le _, fun h => absurd rfl h⟩
  · exact hx
end
mutual
theorem frz_sound : ∀ (n : Nat) (x : AV) {μ : Mu} {F : Prot} {w : World} {H : AH} {u : Value} {y : AV} {H' : AH} {ft : Foot}, Rep μ F w x u → HRep μ F w H.get → H.wf → frz n x H = some (y, H', ft) → Gh μ F w H H' fun μ' F' => Rep μ' F' w y u
  | 0, x, μ, F, w, H, u, y, H', ft, hx, hH, hw, h => by
    simp only [frz] at h
    cases x <;> simp only [frz0] at h <;> first
      | exact (fail_some h).elim
      | (obtain ⟨rfl, rfl⟩ := ret_some h
         first
           | exact Gh.same hH hx
           | exact Gh.same hH (rep_nilA hx))
  | n + 1, .v z, μ, F, w, H, u, y, H', ft, hx, hH, hw, h => by
    simp only [frz] at h
    obtain ⟨rfl, rfl⟩ := ret_some h
    exact Gh.same hH (rep_nilA hx)
  | n + 1, .sl b o m e, μ, F, w, H, u, y, H', ft, hx, hH, hw, h => by
      simp only [frz] at h
      obtain ⟨k, H1, f1, f2, h1, h2⟩ := bind_some h
      obtain ⟨hk, e1⟩ := getB_some h1
      rw [e1] at h2
      cases hle : Nat.ble (o + m * e) k.cells.length with
      | false => rw [hle] at h2; exact (fail_some h2).elim
      | true =>
        rw [hle] at h2
        have hle' : o + m * e ≤ k.cells.length := by simpa using hle
        obtain ⟨_, H2, f3, f4, h3, h4⟩ := bind_some h2
        simp only [Rep] at hx
        obtain ⟨p, hp, hu⟩ := hx
        obtain ⟨p', hp', hB⟩ := hH.blk b k hk
        rw [hp] at hp'
        cases hp'
        -- the cells are kept from now on
        have step : ∃ F1, Later μ μ F F1 w w ∧ HRep μ F1 w H2.get ∧ (∀ i, i < k.cells.length → F1 p.g (p.o + i)) ∧ H2.next = H.next ∧ H2.wf := by
          cases hst : k.st with
          | true =>
            rw [hst] at h3
            obtain ⟨e2, k0, hk0⟩ := setB_run h3
            obtain ⟨g1, g2⟩ := hrep_keep hH hk hp
            refine ⟨_, g2, ?_, fun i hi => .inr ⟨rfl, by omega, by omega⟩, by rw [e2]; rfl, by rw [e2]; exact put_wf hw hk0⟩
            have : H2.get = fun c => if c = b then some { k with st := false } else H.get c := by
              funext c
              rw [e2, AH.get_put]
            rw [this]
            exact g1
          | false =>
            rw [hst] at h3
            obtain ⟨_, e2⟩ := ret_some h3
            rw [e2]
            exact ⟨F, Later.refl _ _ _, hH, fun i hi => hB.kept hst i hi, rfl, hw⟩
        obtain ⟨F1, g1, g2, g3, g4, g5⟩ := step
        obtain ⟨us, r1, r2⟩ := read_list (g := p.g) (cs := (k.cells.drop o).take (m * e)) (o := p.o + o) (μ := μ) (F := F1) (w := w) (by
          intro i x hi
          rw [List.getElem?_take] at hi
          split at hi
          · rw [List.getElem?_drop] at hi
            obtain ⟨u', q1, q2⟩ := hB.cell (o + i) x hi
            exact ⟨u', by rw [Nat.add_assoc]; exact q1, q2.later g1⟩
          · cases hi)
        have hlen : us.length = m * e := by
          rw [r1.length, List.length_take, List.length_drop]; omega
        have fin : ∀ {cs : List AV} {H3 : AH}, H2.next ≤ H3.next → noidL cs = true → Gh μ F1 w H2 H3 (fun μ' F' => RepList μ' F' w cs us) → Gh μ F w H H3 fun μ' F' => Rep μ' F' w (.ls (chunk m e cs)) u := by
          intro cs H3 n3 hno hG
          refine Gh.trans (H1 := H2) (by omega) n3 (Q1 := fun μ' F' => μ' = μ ∧ F' = F1) ⟨μ, F1, g1, g2, fun _ _ => rfl, rfl, rfl⟩ ?_
          rintro μ' F' _ _ _ ⟨rfl, rfl⟩
          refine hG.mono fun μ2 F2 l2 hr => ?_
          have hcl : cs.length = m * e := by rw [← hr.length, hlen]
          rcases hu with ⟨rfl, rfl⟩ | ⟨q, c, rfl, hq, hmc, hcm, hroom⟩
          · simp only [chunk, Rep]
            exact ⟨rfl, none, 0, rfl, Nat.le_refl _, Nat.zero_le _, fun h => absurd rfl h⟩
          · refine rep_chunk hno hcl hmc hcm rfl fun hm0 => ?_
            have hq' := hq (by omega)
            rw [hq']
            refine RepAt.mk fun i x hi => ?_
            obtain ⟨v, v1, v2⟩ := hr.get hi
            have hi' : i < m * e := by rw [← hcl]; exact (List.getElem?_eq_some_iff.1 hi).1
            refine ⟨(l2.prot _ _ (by rw [Nat.add_assoc]; exact g3 (o + i) (by omega))).1, v, r2 i v v1, v2⟩
        cases hno0 : (k.ex || noidL ((k.cells.drop o).take (m * e))) with
        | true =>
          rw [hno0] at h4
          obtain ⟨rfl, rfl⟩ := ret_some h4
          have hno : noidL ((k.cells.drop o).take (m * e)) = true := by
            cases hx : k.ex with
            | true => exact noidL_take (noidL_drop (hB.pure hx) _) _
            | false => rw [hx, Bool.false_or] at hno0; exact hno0
          exact fin (Nat.le_refl _) hno (Gh.same g2 r1)
        | false =>
          rw [hno0] at h4
          obtain ⟨cs, H3, f5, f6, h5, h6⟩ := bind_some h4
          have hG := frzL_sound n _ r1 g2 g5 h5
          obtain ⟨n3, w3⟩ := frzL_next n _ g5 h5
          cases hno : noidL cs with
          | true =>
            rw [hno] at h6
            obtain ⟨rfl, rfl⟩ := ret_some h6
            exact fin n3 hno hG
          | false => rw [hno] at h6; exact (fail_some h6).elim
  | n + 1, .agg cs, μ, F, w, H, u, y, H', ft, hx, hH, hw, h => by
      simp only [frz] at h
      obtain ⟨cs', H1, f1, f2, h1, h2⟩ := bind_some h
      obtain ⟨rfl, rfl⟩ := ret_some h2
      simp only [Rep] at hx
      obtain ⟨us, rfl, hr⟩ := hx
      refine (frzL_sound n _ hr hH hw h1).mono fun μ' F' _ hq => ?_
      simp only [Rep]
      exact ⟨us, rfl, hq⟩
  | n + 1, .tup cs, μ, F, w, H, u, y, H', ft, hx, hH, hw, h => by
      simp only [frz] at h
      obtain ⟨cs', H1, f1, f2, h1, h2⟩ := bind_some h
      obtain ⟨rfl, rfl⟩ := ret_some h2
      simp only [Rep] at hx
      obtain ⟨us, rfl, hr⟩ := hx
      refine (frzL_sound n _ hr hH hw h1).mono fun μ' F' _ hq => ?_
      simp only [Rep]
      exact ⟨us, rfl, hq⟩
  | n + 1, .ptr b o, μ, F, w, H, u, y, H', ft, hx, hH, hw, h => by
      simp only [frz] at h
      obtain ⟨rfl, rfl⟩ := ret_some h
      exact Gh.same hH hx
  | n + 1, .ls xs, μ, F, w, H, u, y, H', ft, hx, hH, hw, h => by
      simp only [frz] at h
      obtain ⟨rfl, rfl⟩ := ret_some h
      exact Gh.same hH hx
  | n + 1, .lp xs, μ, F, w, H, u, y, H', ft, hx, hH, hw, h => by
      simp only [frz] at h
      obtain ⟨rfl, rfl⟩ := ret_some h
      exact Gh.same hH hx
  | n + 1, .fn f a c, μ, F, w, H, u, y, H', ft, hx, hH, hw, h => by
      simp only [frz] at h
      obtain ⟨rfl, rfl⟩ := ret_some h
      exact Gh.same hH hx
  | n + 1, .any, μ, F, w, H, u, y, H', ft, hx, hH, hw, h => by
      simp only [frz] at h
      obtain ⟨rfl, rfl⟩ := ret_some h
      exact Gh.same hH hx
theorem frzL_sound : ∀ (n : Nat) (l : List AV) {μ : Mu} {F : Prot} {w : World} {H : AH} {us : List Value} {y : List AV} {H' : AH} {ft : Foot}, RepList μ F w l us → HRep μ F w H.get → H.wf → frzL n l H = some (y, H', ft) → Gh μ F w H H' fun μ' F' => RepList μ' F' w y us
  | n, [], μ, F, w, H, us, y, H', ft, hx, hH, hw, h => by
    unfold frzL at h
    obtain ⟨rfl, rfl⟩ := ret_some h
    exact Gh.same hH hx
  | 0, _ :: _, μ, F, w, H, us, y, H', ft, hx, hH, hw, h => by
    unfold frzL at h
    exact (fail_some h).elim
  | n + 1, x :: r, μ, F, w, H, us, y, H', ft, hx, hH, hw, h => by
    unfold frzL at h
    obtain ⟨x', H1, f1, f2, h1, h2⟩ := bind_some h
    obtain ⟨r', H2, f3, f4, h3, h4⟩ := bind_some h2
    obtain ⟨rfl, rfl⟩ := ret_some h4
    simp only [RepList] at hx
    obtain ⟨u, t, rfl, hu, ht⟩ := hx
    obtain ⟨n1, w1⟩ := frz_next n x hw h1
    obtain ⟨n2, w2⟩ := frzL_next n r w1 h3
    refine Gh.trans n1 n2 (frz_sound n x hu hH hw h1) fun μ1 F1 l1 hH1 _ hx1 => ?_
    refine (frzL_sound n r (ht.later' l1) hH1 w1 h3).mono fun μ2 F2 l2 hr2 => ?_
    simp only [RepList]
    exact ⟨u, t, rfl, hx1.later l2, hr2⟩
end
end Go.Proofs.Ytlmhajfbpplpoaa
namespace Go.Proofs.Ytlmhajfbpplpoaa
open Go.RowKit

section
variable {F : Prot} {w : World}
mutual
theorem rep_noid (μ μ' : Mu) : ∀ (x : AV) (u : Value), x.noid = true → Rep μ F w x u → Rep μ' F w x u
  | .v x, u, _, h => by simpa only [Rep] using h
  | .ptr b o, u, hn, _ => by simp [AV.noid] at hn
  | .sl b o n e, u, hn, _ => by simp [AV.noid] at hn
  | .ls xs, u, _, h => by
    simp only [Rep] at h ⊢
    obtain ⟨h0, A, c, h1, h2, h3, h4⟩ := h
    refine ⟨h0, A, c, h1, h2, h3, fun hne => ?_⟩
    obtain ⟨g, o, e, hA, hr⟩ := h4 hne
    exact ⟨g, o, e, hA, repRows_noid μ μ' g e xs o h0 hr⟩
  | .lp cs, u, _, h => by
    simp only [Rep] at h ⊢
    obtain ⟨h0, g, o, h1, h2⟩ := h
    exact ⟨h0, g, o, h1, repAt_noid μ μ' g cs o h0 h2⟩
  | .agg cs, u, hn, h => by
    simp only [Rep] at h ⊢
    simp only [AV.noid] at hn
    obtain ⟨us, h1, h2⟩ := h
    exact ⟨us, h1, repList_noid μ μ' cs _ hn h2⟩
  | .tup cs, u, hn, h => by
    simp only [Rep] at h ⊢
    simp only [AV.noid] at hn
    obtain ⟨us, h1, h2⟩ := h
    exact ⟨us, h1, repList_noid μ μ' cs _ hn h2⟩
  | .fn f a c, u, hn, h => by
    simp only [Rep] at h ⊢
    simp only [AV.noid, Bool.and_eq_true] at hn
    obtain ⟨ua, uc, h1, h2, h3⟩ := h
    exact ⟨ua, uc, h1, repList_noid μ μ' a _ hn.1 h2, repList_noid μ μ' c _ hn.2 h3⟩
  | .any, _, _, _ => by simp only [Rep]
theorem repRows_noid (μ μ' : Mu) (g e : Nat) : ∀ (xs : List (List AV)) (o : Nat), noidR xs = true → RepRows μ F w g e xs o → RepRows μ' F w g e xs o
  | [], _, _, _ => by simp only [RepRows]
  | x :: r, o, hn, h => by
    simp only [RepRows] at h ⊢
    simp only [noidR, List.all_cons, Bool.and_eq_true] at hn
    exact ⟨h.1, repAt_noid μ μ' g x o hn.1 h.2.1, repRows_noid μ μ' g e r _ hn.2 h.2.2⟩
theorem repAt_noid (μ μ' : Mu) (g : Nat) : ∀ (xs : List AV) (o : Nat), noidL xs = true → RepAt μ F w g xs o → RepAt μ' F w g xs o
  | [], _, _, _ => by simp only [RepAt]
  | x :: r, o, hn, h => by
    simp only [RepAt] at h ⊢
    simp only [noidL, Bool.and_eq_true] at hn
    obtain ⟨⟨h1, u, h2, h3⟩, h4⟩ := h
    exact ⟨⟨h1, u, h2, rep_noid μ μ' x u hn.1 h3⟩, repAt_noid μ μ' g r _ hn.2 h4⟩
theorem repList_noid (μ μ' : Mu) : ∀ (xs : List AV) (us : List Value), noidL xs = true → RepList μ F w xs us → RepList μ' F w xs us
  | [], us, _, h => by simpa only [RepList] using h
  | x :: r, us, hn, h => by
    simp only [RepList] at h ⊢
    simp only [noidL, Bool.and_eq_true] at hn
    obtain ⟨u, t, h1, h2, h3⟩ := h
    exact ⟨u, t, h1, rep_noid μ μ' x u hn.1 h2, repList_noid μ μ' r t hn.2 h3⟩
end
mutual
theorem rep_ren {μ₁ μ₂ : Mu} {τ : Nat → Nat} : ∀ (x : AV) (u : Value), (∀ c ∈ x.ids, μ₂ (τ c) = μ₁ c) → (Rep μ₂ F w (x.ren τ) u ↔ Rep μ₁ F w x u)
  | .v x, u, _ => by simp only [AV.ren, Rep]
  | .ptr b o, u, h => by
    simp only [AV.ids, List.mem_singleton, forall_eq] at h
    simp only [AV.ren, Rep, h]
  | .sl b o n e, u, h => by
    simp only [AV.ids, List.mem_singleton, forall_eq] at h
    simp only [AV.ren, Rep, h]
  | .ls xs, u, _ => by
    simp only [AV.ren]
    exact ⟨rep_noid μ₂ μ₁ _ _ rfl, rep_noid μ₁ μ₂ _ _ rfl⟩
  | .lp cs, u, _ => by
    simp only [AV.ren]
    exact ⟨rep_noid μ₂ μ₁ _ _ rfl, rep_noid μ₁ μ₂ _ _ rfl⟩
  | .agg cs, u, h => by
    simp only [AV.ids] at h
    simp only [AV.ren, Rep]
    constructor
    · rintro ⟨us, h1, h2⟩; exact ⟨us, h1, (repList_ren cs _ h).1 h2⟩
    · rintro ⟨us, h1, h2⟩; exact ⟨us, h1, (repList_ren cs _ h).2 h2⟩
  | .tup cs, u, h => by
    simp only [AV.ids] at h
    simp only [AV.ren, Rep]
    constructor
    · rintro ⟨us, h1, h2⟩; exact ⟨us, h1, (repList_ren cs _ h).1 h2⟩
    · rintro ⟨us, h1, h2⟩; exact ⟨us, h1, (repList_ren cs _ h).2 h2⟩
  | .fn f a c, u, h => by
    simp only [AV.ids, List.mem_append] at h
    simp only [AV.ren, Rep]
    constructor
    · rintro ⟨ua, uc, h1, h2, h3⟩; exact ⟨ua, uc, h1, (repList_ren a _ fun c hc => h c (.inl hc)).1 h2, (repList_ren c _ fun c hc => h c (.inr hc)).1 h3⟩
    · rintro ⟨ua, uc, h1, h2, h3⟩; exact ⟨ua, uc, h1, (repList_ren a _ fun c hc => h c (.inl hc)).2 h2, (repList_ren c _ fun c hc => h c (.inr hc)).2 h3⟩
  | .any, _, _ => by simp only [AV.ren, Rep]
theorem repList_ren {μ₁ μ₂ : Mu} {τ : Nat → Nat} : ∀ (xs : List AV) (us : List Value), (∀ c ∈ idsL xs, μ₂ (τ c) = μ₁ c) → (RepList μ₂ F w (renL τ xs) us ↔ RepList μ₁ F w xs us)
  | [], us, _ => by simp only [renL, RepList]
  | x :: r, us, h => by
    simp only [idsL, List.mem_append] at h
    simp only [renL, RepList]
    constructor
    · rintro ⟨u, t, h1, h2, h3⟩; exact ⟨u, t, h1, (rep_ren x _ fun c hc => h c (.inl hc)).1 h2, (repList_ren r _ fun c hc => h c (.inr hc)).1 h3⟩
    · rintro ⟨u, t, h1, h2, h3⟩; exact ⟨u, t, h1, (rep_ren x _ fun c hc => h c (.inl hc)).2 h2, (repList_ren r _ fun c hc => h c (.inr hc)).2 h3⟩
end
mutual
theorem rep_ids {μ : Mu} : ∀ (x : AV) (u : Value), Rep μ F w x u → ∀ c ∈ x.ids, ∃ p, μ c = some p
  | .v x, u, _, c, hc => by simp [AV.ids] at hc
  | .ptr b o, u, h, c, hc => by
    simp only [AV.ids, List.mem_singleton] at hc
    subst hc
    simp only [Rep] at h
    exact ⟨_, h.choose_spec.1⟩
  | .sl b o n e, u, h, c, hc => by
    simp only [AV.ids, List.mem_singleton] at hc
    subst hc
    simp only [Rep] at h
    exact ⟨_, h.choose_spec.1⟩
  | .ls xs, u, _, c, hc => by simp [AV.ids] at hc
  | .lp cs, u, _, c, hc => by simp [AV.ids] at hc
  | .agg cs, u, h, c, hc => by
    simp only [Rep] at h
    obtain ⟨us, _, h2⟩ := h
    exact repList_ids cs _ h2 c hc
  | .tup cs, u, h, c, hc => by
    simp only [Rep] at h
    obtain ⟨us, _, h2⟩ := h
    exact repList_ids cs _ h2 c hc
  | .fn f a k, u, h, c, hc => by
    simp only [Rep] at h
    obtain ⟨ua, uc, _, h2, h3⟩ := h
    simp only [AV.ids, List.mem_append] at hc
    rcases hc with hc | hc
    · exact repList_ids a _ h2 c hc
    · exact repList_ids k _ h3 c hc
  | .any, _, _, c, hc => by simp [AV.ids] at hc
theorem repList_ids {μ : Mu} : ∀ (xs : List AV) (us : List Value), RepList μ F w xs us → ∀ c ∈ idsL xs, ∃ p, μ c = some p
  | [], us, _, c, hc => by simp [idsL] at hc
  | x :: r, us, h, c, hc => by
    simp only [RepList] at h
    obtain ⟨u, t, _, h2, h3⟩ := h
    simp only [idsL, List.mem_append] at hc
    rcases hc with hc | hc
    · exact rep_ids x u h2 c hc
    · exact repList_ids r t h3 c hc
end
theorem mem_idsL {c : Nat} : ∀ {xs : List AV}, c ∈ idsL xs ↔ ∃ x ∈ xs, c ∈ x.ids
  | [] => by simp [idsL]
  | x :: r => by simp [idsL, mem_idsL (xs := r)]
theorem renL_eq (τ : Nat → Nat) : ∀ xs, renL τ xs = xs.map (AV.ren τ)
  | [] => rfl
  | x :: r => by simp [renL, renL_eq τ r]
mutual
theorem ren_id {τ : Nat → Nat} (h : ∀ c, τ c = c) : ∀ x : AV, x.ren τ = x
  | .v x => rfl
  | .ptr b o => by simp only [AV.ren, h]
  | .sl b o n e => by simp only [AV.ren, h]
  | .ls xs => rfl
  | .lp cs => rfl
  | .agg cs => by simp only [AV.ren, renL_id h cs]
  | .tup cs => by simp only [AV.ren, renL_id h cs]
  | .fn f a c => by simp only [AV.ren, renL_id h a, renL_id h c]
  | .any => rfl
theorem renL_id {τ : Nat → Nat} (h : ∀ c, τ c = c) : ∀ xs : List AV, renL τ xs = xs
  | [] => rfl
  | x :: r => by simp only [renL, ren_id h x, renL_id h r]
end
/-- The same cells, room and rights. -/
def Shape (k k' : ABlk) : Prop := k'.cells.length = k.cells.length ∧ k'.st = k.st ∧ k'.ex = k.ex
theorem shape_ren (τ : Nat → Nat) (k : ABlk) : Shape k (k.ren τ) := by
  unfold ABlk.ren
  cases e : k.ex with
  | true => exact ⟨rfl, rfl, rfl⟩
  | false => exact ⟨by simp [renL_eq], rfl, by simp [e]⟩
theorem Shape.owns {k k' : ABlk} (h : Shape k k') (room i : Nat) : k'.owns room i ↔ k.owns room i := by
  unfold ABlk.owns
  rw [h.1, h.2.1, h.2.2]
theorem Shape.symm {k k' : ABlk} (h : Shape k k') : Shape k' k := ⟨h.1.symm, h.2.1.symm, h.2.2.symm⟩
theorem brep_ids {μ : Mu} {p : Pl} {k : ABlk} (h : BRep μ F w p k) : ∀ c ∈ k.ids, ∃ q, μ c = some q := by
  intro c hc
  unfold ABlk.ids at hc
  split at hc
  · cases hc
  · obtain ⟨x, hx, hcx⟩ := mem_idsL.1 hc
    obtain ⟨i, hi⟩ := List.getElem?_of_mem hx
    obtain ⟨u, _, hr⟩ := h.cell i x hi
    exact rep_ids x u hr c hcx
theorem brep_of {μ μ' : Mu} {p : Pl} {k k' : ABlk} (hs : Shape k k') (h : BRep μ F w p k) (hc : ∀ i x, k'.cells[i]? = some x → ∃ u, w.cell? ⟨p.g, p.o + i, none⟩ = some u ∧ Rep μ' F w x u) (hp : k'.ex = true → noidL k'.cells = true) : BRep μ' F w p k' :=
  ⟨hc, by rw [hs.1]; exact h.room, h.there, fun h1 i hi => h.kept (by rw [← hs.2.1]; exact h1) i (by rw [← hs.1]; exact hi), fun i hi => h.free i ((hs.owns _ _).1 hi), hp⟩
theorem ren_ex {τ : Nat → Nat} {k : ABlk} (e : k.ex = true) : k.ren τ = k := by unfold ABlk.ren; rw [e]
theorem ren_cells {τ : Nat → Nat} {k : ABlk} (e : k.ex = false) : (k.ren τ).cells = renL τ k.cells := by unfold ABlk.ren; rw [e]
theorem ids_cells {k : ABlk} (e : k.ex = false) : k.ids = idsL k.cells := by unfold ABlk.ids; rw [e]
theorem brep_ren {μ₁ μ₂ : Mu} {τ : Nat → Nat} {p : Pl} {k : ABlk} (h : ∀ c ∈ k.ids, μ₂ (τ c) = μ₁ c) : BRep μ₂ F w p (k.ren τ) ↔ BRep μ₁ F w p k := by
  have hs := shape_ren τ k
  cases e : k.ex with
  | true =>
    rw [ren_ex e]
    have key : ∀ {μ μ' : Mu}, BRep μ F w p k → BRep μ' F w p k := fun {μ μ'} hb => brep_of ⟨rfl, rfl, rfl⟩ hb (fun i x hx => by
      obtain ⟨u, h2, h3⟩ := hb.cell i x hx
      have en := hb.pure e
      rw [noidL_all, List.all_eq_true] at en
      exact ⟨u, h2, rep_noid μ μ' x u (en x (List.mem_of_getElem? hx)) h3⟩) hb.pure
    exact ⟨key, key⟩
  | false =>
    have hc := ren_cells (τ := τ) e
    rw [ids_cells e] at h
    constructor
    · intro hb
      refine brep_of hs.symm hb (fun i x hx => ?_) (fun h => by rw [e] at h; cases h)
      obtain ⟨u, h2, h3⟩ := hb.cell i (x.ren τ) (by rw [hc, renL_eq, List.getElem?_map, hx]; rfl)
      exact ⟨u, h2, (rep_ren x u fun c hcx => h c (mem_idsL.2 ⟨x, List.mem_of_getElem? hx, hcx⟩)).1 h3⟩
    · intro hb
      refine brep_of hs hb (fun i x hx => ?_) (fun h => by rw [hs.2.2, e] at h; cases h)
      rw [hc, renL_eq, List.getElem?_map] at hx
      cases e1 : k.cells[i]? with
      | none => rw [e1] at hx; cases hx
      | some y =>
        rw [e1] at hx
        simp only [Option.map_some, Option.some.injEq] at hx
        subst hx
        obtain ⟨u, h2, h3⟩ := hb.cell i y e1
        exact ⟨u, h2, (rep_ren y u fun c hcx => h c (mem_idsL.2 ⟨y, List.mem_of_getElem? e1, hcx⟩)).2 h3⟩
theorem blk_ren_id (k : ABlk) : k.ren id = k := by
  cases e : k.ex with
  | true => exact ren_ex e
  | false =>
    obtain ⟨cs, st, ex⟩ := k
    simp only at e
    subst e
    simp only [ABlk.ren, renL_id (τ := id) fun _ => rfl]
theorem brep_id {μ₁ μ₂ : Mu} {p : Pl} {k : ABlk} (h : ∀ c ∈ k.ids, μ₂ c = μ₁ c) (hB : BRep μ₁ F w p k) : BRep μ₂ F w p k := by
  have := (brep_ren (τ := id) h).2 hB
  rwa [blk_ren_id] at this
/-- Another numbering of the same blocks, or of some of them. -/
theorem hrep_ren {μ₁ μ₂ : Mu} {H₁ H₂ : Nat → Option ABlk} (f : Nat → Nat) (h : HRep μ₁ F w H₁) (inj : ∀ b b' k k', H₂ b = some k → H₂ b' = some k' → f b = f b' → b = b')
    (hb : ∀ b k₂, H₂ b = some k₂ → ∃ k₁, H₁ (f b) = some k₁ ∧ μ₂ b = μ₁ (f b) ∧ Shape k₁ k₂ ∧ ∀ p, BRep μ₁ F w p k₁ → BRep μ₂ F w p k₂) : HRep μ₂ F w H₂ := by
  refine ⟨fun b k hk => ?_, fun b b' k k' p p' hne hk hk' hp hp' i i' ho ho' => ?_, h.prot⟩
  · obtain ⟨k₁, h1, h2, _, h3⟩ := hb b k hk
    obtain ⟨p, hp, hB⟩ := h.blk _ _ h1
    exact ⟨p, h2.trans hp, h3 p hB⟩
  · obtain ⟨k₁, h1, h2, h3, _⟩ := hb b k hk
    obtain ⟨k₁', h1', h2', h3', _⟩ := hb b' k' hk'
    exact h.apart (f b) (f b') k₁ k₁' p p' (fun e => hne (inj b b' k k' hk hk' e)) h1 h1' (by rw [← h2]; exact hp) (by rw [← h2']; exact hp') i i' ((h3.owns _ _).1 ho) ((h3'.owns _ _).1 ho')
end
end Go.Proofs.Ytlmhajfbpplpoaa
namespace Go.Proofs.Ytlmhajfbpplpoaa
open Go.RowKit

abbrev SemT := List Value → World → (Value → World → Prop) → Prop
def MonoS (S : SemT) : Prop := ∀ us w Q Q', S us w Q → (∀ u w', Q u w' → Q' u w') → S us w Q'
def SoundM (S : SemT) (m : List AV → AM AV) : Prop := ∀ (args : List AV) (μ : Mu) (F : Prot) (w : World) (H : AH) (us : List Value), RepList μ F w args us → HRep μ F w H.get → H.wf → Fresh μ H →
  ∀ r H' ft, m args H = some (r, H', ft) → S us w fun u w' => Post μ F w H r H' u w'
def outAt (bs : List ABlk) (out : List BO) (b : Nat) : Option ABlk := match out[b]? with
  | some .keep => bs[b]?
  | some (.set k) => some k
  | _ => none
def GoodD (S : SemT) (D : DF) : Prop := ∀ args bs r out, D args bs = some (r, out) → bs.length ≤ out.length ∧ ∃ t0, out.length ≤ t0 ∧ ∀ t, t0 ≤ t → ∀ (μ : Mu) (F : Prot) (w : World) (KL : List (Nat × ABlk)) (us : List Value), (∀ p ∈ KL, t ≤ p.1) →
  RepList μ F w args us → HRep μ F w (fun b => if b < t then bs[b]? else look b KL) → (∀ b, bs.length ≤ b → b < t → μ b = none) →
  S us w fun u w' => ∃ μ' F', Rep μ' F' w' r u ∧ HRep μ' F' w' (fun b => if b < t then outAt bs out b else look b KL) ∧ Later μ μ' F F' w w' ∧ WStep F w w' ∧ ∀ b, (b < bs.length ∨ out.length ≤ b) → μ' b = μ b
theorem hasN_eq (b : Nat) : ∀ l, hasN b l = l.contains b
  | [] => rfl
  | c :: r => by
    unfold hasN
    rw [beqN]
    simp only [List.contains_cons]
    cases e : b == c with
    | true => simp
    | false => simp [hasN_eq b r]
theorem hasN_iff {b : Nat} {l : List Nat} : hasN b l = true ↔ b ∈ l := by rw [hasN_eq]; simp
theorem look_enum (KL : List (Nat × ABlk)) : ∀ (bs : List ABlk) (n b : Nat), look b (enumB n bs ++ KL) = if n ≤ b ∧ b < n + bs.length then bs[b - n]? else look b KL
  | [], n, b => by
    simp only [enumB, List.nil_append, List.length_nil, Nat.add_zero]
    rw [if_neg (by omega)]
  | k :: r, n, b => by
    simp only [enumB, List.cons_append, look]
    by_cases h : n = b
    · subst h
      simp
    · rw [if_neg h, look_enum KL r (n + 1) b]
      by_cases h2 : n ≤ b
      · by_cases h3 : b < n + 1 + r.length
        · rw [if_pos (by omega), if_pos (by simp; omega)]
          rw [show b - n = (b - (n + 1)) + 1 by omega]
          simp
        · rw [if_neg (by omega), if_neg (by simp; omega)]
      · rw [if_neg (by omega), if_neg (by omega)]
theorem look_none {KL : List (Nat × ABlk)} {t b : Nat} (h : ∀ p ∈ KL, t ≤ p.1) (hb : b < t) : look b KL = none := by
  induction KL with
  | nil => rfl
  | cons p r ih =>
    obtain ⟨c, k⟩ := p
    simp only [look]
    have := h (c, k) (by simp)
    simp only at this
    rw [if_neg (by omega)]
    exact ih fun p hp => h p (by simp [hp])
theorem get_rangeN : ∀ (n a i : Nat), (rangeN a n)[i]? = if i < n then some (a + i) else none
  | 0, a, i => by simp [rangeN]
  | n + 1, a, 0 => by simp [rangeN]
  | n + 1, a, i + 1 => by
    simp only [rangeN, List.getElem?_cons_succ, get_rangeN n (a + 1) i, Nat.add_lt_add_iff_right]
    rw [show a + 1 + i = a + (i + 1) by omega]
theorem length_rangeN : ∀ (n a : Nat), (rangeN a n).length = n
  | 0, a => rfl
  | n + 1, a => by simp [rangeN, length_rangeN n]
theorem runD_good {S : SemT} {m : List AV → AM AV} (hS : SoundM S m) (hL : ∀ args, Loc (m args)) : GoodD S (runD m) := by
  intro args bs r out h
  unfold runD at h
  rcases e : m args ⟨enumB 0 bs, bs.length, none⟩ with _ | ⟨r0, H', ft⟩ <;> rw [e] at h
  · cases h
  simp only [Option.some.injEq, Prod.mk.injEq] at h
  obtain ⟨rfl, hout⟩ := h
  have get0 : ∀ b, AH.get ⟨enumB 0 bs, bs.length, none⟩ b = bs[b]? := fun b => by
    have := look_enum [] bs 0 b
    rw [List.append_nil] at this
    show look b (enumB 0 bs) = _
    rw [this]
    by_cases hb : b < bs.length
    · rw [if_pos (by omega)]; rfl
    · rw [if_neg (by omega), List.getElem?_eq_none (by omega)]; rfl
  have wf0 : AH.wf ⟨enumB 0 bs, bs.length, none⟩ := fun b hb _ => by
    rw [get0, List.getElem?_eq_none hb]
  have L := hL args _ _ _ _ wf0 e
  have hn : bs.length ≤ H'.next := L.next
  have hlen : out.length = H'.next := by
    rw [← hout]
    simp only [List.length_append, List.length_map, length_rangeN]
    omega
  refine ⟨by omega, H'.next, by omega, fun t ht μ F w KL us hKL hr hH hμ => ?_⟩
  have getK : ∀ b, AH.get ⟨enumB 0 bs ++ KL, bs.length, some t⟩ b = if b < t then bs[b]? else look b KL := fun b => by
    show look b (enumB 0 bs ++ KL) = _
    rw [look_enum KL bs 0 b]
    by_cases hb : b < bs.length
    · rw [if_pos (by omega), if_pos (by omega)]; rfl
    · rw [if_neg (by omega)]
      by_cases hbt : b < t
      · rw [if_pos hbt, look_none hKL hbt, List.getElem?_eq_none (by omega)]
      · rw [if_neg hbt]
  have lt : ∀ b, b ∈ ft.rd ∨ b ∈ ft.wr → b < H'.next := fun b hb => by
    rcases Nat.lt_or_ge b H'.next with h1 | h1
    · exact h1
    · exact absurd (show AH.below ⟨enumB 0 bs, bs.length, none⟩ b from fun t h => by cases h) (L.bound b hb h1)
  obtain ⟨K', k1, k2, k3, k4⟩ := L.move ⟨enumB 0 bs ++ KL, bs.length, some t⟩ rfl (fun b _ h2 => fun t' ht' => by cases ht'; omega) (fun b hb hx => by
    rw [getK, get0]
    have := lt b hb
    rw [if_pos (by omega)])
  have hwK : AH.wf ⟨enumB 0 bs ++ KL, bs.length, some t⟩ := fun b h1 h2 => by
    rw [getK]
    have h1' : bs.length ≤ b := h1
    have h2' : b < t := h2 t rfl
    rw [if_pos h2', List.getElem?_eq_none h1']
  have hfK : Fresh μ ⟨enumB 0 bs ++ KL, bs.length, some t⟩ := fun b h1 h2 => hμ b h1 (h2 t rfl)
  have hHK : HRep μ F w (AH.get ⟨enumB 0 bs ++ KL, bs.length, some t⟩) := by
    have : (AH.get ⟨enumB 0 bs ++ KL, bs.length, some t⟩) = fun b => if b < t then bs[b]? else look b KL := funext getK
    rw [this]; exact hH
  have hPost := hS args μ F w _ us hr hHK hwK hfK _ _ _ k1
  have hK' : K'.get = fun b => if b < t then outAt bs out b else look b KL := by
    funext b
    rw [k4, getK]
    have hob : out[b]? = if b < bs.length then some (outK H' ft.wr b) else if b < H'.next then some (outN H' b) else none := by
      rw [← hout, List.getElem?_append]
      simp only [List.length_map, length_rangeN, List.getElem?_map, get_rangeN]
      by_cases h1 : b < bs.length
      · rw [if_pos h1, if_pos h1, if_pos h1]; simp
      · rw [if_neg h1, if_neg h1]
        by_cases h2 : b < H'.next
        · rw [if_pos (by omega), if_pos h2, show bs.length + (b - bs.length) = b by omega]; rfl
        · rw [if_neg (by omega), if_neg h2]; rfl
    unfold outAt
    rw [hob]
    by_cases hbt : b < t
    · rw [if_pos hbt, if_pos hbt]
      by_cases h1 : b < bs.length
      · rw [if_pos h1]
        simp only [outK]
        cases e1 : hasN b ft.wr with
        | true =>
          rw [if_pos (hasN_iff.1 e1)]
          cases H'.get b <;> rfl
        | false =>
          rw [if_neg (fun hc => by rw [hasN_iff.2 hc] at e1; cases e1)]
      · rw [if_neg h1]
        by_cases h2 : b < H'.next
        · rw [if_pos h2]
          rw [if_pos (L.new b (by show bs.length ≤ b; omega) h2)]
          simp only [outN]
          cases H'.get b <;> rfl
        · rw [if_neg h2]
          rw [if_neg (fun hc => h2 (lt b (.inr hc))), List.getElem?_eq_none (by omega)]
    · rw [if_neg hbt, if_neg hbt, if_neg (fun hc => by have := lt b (.inr hc); omega)]
  have : (fun u w' => Post μ F w ⟨enumB 0 bs ++ KL, bs.length, some t⟩ r0 K' u w') = fun u w' => ∃ μ' F', Rep μ' F' w' r0 u ∧ HRep μ' F' w' (fun b => if b < t then outAt bs out b else look b KL) ∧ Later μ μ' F F' w w' ∧ WStep F w w' ∧ ∀ b, (b < bs.length ∨ out.length ≤ b) → μ' b = μ b := by
    funext u w'
    unfold Post
    rw [hK', k2, ← hlen]
  rw [this] at hPost
  exact hPost
end Go.Proofs.Ytlmhajfbpplpoaa
namespace Go.Proofs.Ytlmhajfbpplpoaa
open Go.RowKit

theorem bltN (a b : Nat) : Nat.blt a b = decide (a < b) := Bool.eq_iff_iff.2 (by simp [Nat.blt]; omega)
theorem nthO_eq : ∀ (l : List BO) (n : Nat), nthO l n = l[n]?
  | [], _ => by simp [nthO]
  | x :: r, 0 => by simp [nthO]
  | x :: r, n + 1 => by simp [nthO, nthO_eq r n]
theorem takeO_eq : ∀ (l : List BO) (n : Nat), takeO l n = l.take n
  | [], _ => by simp [takeO]
  | x :: r, 0 => by simp [takeO]
  | x :: r, n + 1 => by simp [takeO, takeO_eq r n]
theorem renO_eq (τ : Nat → Nat) : ∀ l, renO τ l = l.map (BO.ren τ)
  | [] => rfl
  | x :: r => by simp [renO, renO_eq τ r]
theorem pickO_eq (τ : Nat → Nat) (out : List BO) : ∀ l, pickO τ out l = l.map fun b => match out[b]? with
    | some o => o.ren τ
    | none => .del
  | [] => rfl
  | x :: r => by
    simp only [pickO, nthO_eq, List.map_cons, pickO_eq τ out r]
    rfl
theorem mem_idsO {c : Nat} : ∀ {l : List BO}, c ∈ idsO l ↔ ∃ o ∈ l, c ∈ o.ids
  | [] => by simp [idsO]
  | o :: r => by simp [idsO, mem_idsO (l := r)]
theorem idx_spec {b : Nat} : ∀ {l : List Nat}, b ∈ l → l[idx b l]? = some b
  | [], h => by cases h
  | c :: r, h => by
    unfold idx
    rw [beqN]
    by_cases e : b = c
    · subst e; simp
    · have : (b == c) = false := by simpa using e
      rw [this]
      simp only [List.getElem?_cons_succ]
      exact idx_spec (by rcases List.mem_cons.1 h with h | h; exact absurd h e; exact h)
theorem idx_lt {b : Nat} {l : List Nat} (h : b ∈ l) : idx b l < l.length := (List.getElem?_eq_some_iff.1 (idx_spec h)).1
structure GcOk (k : Nat) (out : List BO) (todo acc acc' : List Nat) : Prop where
  sub : ∀ b ∈ acc, b ∈ acc'
  nodup : acc.Nodup → acc'.Nodup
  new : ∀ b ∈ acc', b ∈ acc ∨ (k ≤ b ∧ ∃ kb, out[b]? = some (.set kb) ∧ ∀ c ∈ kb.ids, c < k ∨ c ∈ acc')
  todo : ∀ b ∈ todo, b < k ∨ b ∈ acc'
theorem gcTrav_ok (k : Nat) (out : List BO) : ∀ (n : Nat) (todo acc acc' : List Nat), gcTrav k out n todo acc = some acc' → GcOk k out todo acc acc'
  | n, [], acc, acc', h => by
    have : acc = acc' := by cases n <;> (unfold gcTrav at h; simpa using h)
    subst this
    exact ⟨fun _ h => h, fun h => h, fun _ h => .inl h, fun _ h => by cases h⟩
  | 0, b :: r, acc, acc', h => by unfold gcTrav at h; cases h
  | n + 1, b :: r, acc, acc', h => by
    unfold gcTrav at h
    cases e1 : Nat.blt b k with
    | true =>
      rw [e1] at h
      have ih := gcTrav_ok k out n r acc acc' h
      have hbk : b < k := by simpa [bltN] using e1
      exact ⟨ih.sub, ih.nodup, ih.new, fun c hc => by
        rcases List.mem_cons.1 hc with rfl | hc
        · exact .inl (by omega)
        · exact ih.todo c hc⟩
    | false =>
      rw [e1] at h
      have hbk : k ≤ b := by
        have : ¬ b < k := by simpa [bltN] using e1
        omega
      cases e2 : hasN b acc with
      | true =>
        rw [e2] at h
        have ih := gcTrav_ok k out n r acc acc' h
        exact ⟨ih.sub, ih.nodup, ih.new, fun c hc => by
          rcases List.mem_cons.1 hc with rfl | hc
          · exact .inr (ih.sub _ (hasN_iff.1 e2))
          · exact ih.todo c hc⟩
      | false =>
        rw [e2] at h
        simp only [nthO_eq] at h
        have hb : b ∉ acc := fun hc => by rw [hasN_iff.2 hc] at e2; cases e2
        cases e3 : out[b]? with
        | none => rw [e3] at h; cases h
        | some o =>
          rw [e3] at h
          cases o with
          | keep => cases h
          | del => cases h
          | set kb =>
            have ih := gcTrav_ok k out n (r ++ kb.ids) (acc ++ [b]) acc' h
            refine ⟨fun c hc => ih.sub c (by simp [hc]), fun hn => ih.nodup ?_, fun c hc => ?_, fun c hc => ?_⟩
            · rw [List.nodup_append]
              exact ⟨hn, by simp, fun x hx y hy => by simp at hy; subst hy; exact fun e => hb (e ▸ hx)⟩
            · rcases ih.new c hc with h1 | h1
              · simp only [List.mem_append, List.mem_singleton] at h1
                rcases h1 with h1 | rfl
                · exact .inl h1
                · exact .inr ⟨hbk, kb, e3, fun d hd => ih.todo d (by simp [hd])⟩
              · exact .inr h1
            · rcases List.mem_cons.1 hc with rfl | hc
              · exact .inr (ih.sub _ (by simp))
              · exact ih.todo c (by simp [hc])
theorem gcN_lt {k : Nat} {acc : List Nat} {b : Nat} (h : b < k) : gcN k acc b = b := by
  unfold gcN
  rw [show Nat.blt b k = true by simp [bltN]; omega]
theorem gcN_ge {k : Nat} {acc : List Nat} {b : Nat} (h : k ≤ b) : gcN k acc b = k + idx b acc := by
  unfold gcN
  rw [show Nat.blt b k = false by simp [bltN]; omega]
theorem gcD_good {S : SemT} (hm : MonoS S) {D : DF} (hD : GoodD S D) : GoodD S (gcD D) := by
  intro args bs r' out' h
  unfold gcD at h
  rcases e : D args bs with _ | ⟨r, out⟩ <;> rw [e] at h
  · cases h
  simp only at h
  rcases e2 : gcTrav bs.length out 4096 (r.ids ++ idsO (takeO out bs.length)) [] with _ | acc <;> rw [e2] at h
  · cases h
  simp only [Option.some.injEq, Prod.mk.injEq] at h
  obtain ⟨rfl, hout⟩ := h
  have hg := gcTrav_ok _ _ _ _ _ _ e2
  have hnd := hg.nodup (by simp)
  obtain ⟨hle, t0, ht0, hD⟩ := hD args bs r out e
  have hacc : ∀ b ∈ acc, bs.length ≤ b ∧ ∃ kb, out[b]? = some (.set kb) ∧ ∀ c ∈ kb.ids, c < bs.length ∨ c ∈ acc := fun b hb => by
    rcases hg.new b hb with h | h
    · cases h
    · exact h
  rw [takeO_eq, renO_eq, pickO_eq] at hout
  have hlen : out'.length = bs.length + acc.length := by
    rw [← hout]
    simp only [List.length_append, List.length_map, List.length_take]
    omega
  refine ⟨by omega, max t0 out'.length, by omega, fun t ht μ F w KL us hKL hr hH hμ => ?_⟩
  refine hm _ _ _ _ (hD t (by omega) μ F w KL us hKL hr hH hμ) ?_
  rintro u w' ⟨μ', F', g1, g2, g3, g4, g5⟩
  have hob : ∀ b, out'[b]? = if b < bs.length then out[b]?.map (BO.ren (gcN bs.length acc)) else (acc[b - bs.length]?).map fun b => match out[b]? with
      | some o => o.ren (gcN bs.length acc)
      | none => .del := fun b => by
    rw [← hout, List.getElem?_append]
    simp only [List.length_map, List.length_take, List.getElem?_map, List.getElem?_take]
    by_cases h1 : b < bs.length
    · rw [if_pos (by omega), if_pos h1, if_pos h1]
    · rw [if_neg (by omega), if_neg h1, show min bs.length out.length = bs.length by omega]
  -- the new numbering
  let μ'' : Mu := fun b => if b < bs.length then μ' b else if b < out'.length then (acc[b - bs.length]?).bind μ' else μ b
  have hτ : ∀ c, c < bs.length ∨ c ∈ acc → μ'' (gcN bs.length acc c) = μ' c := fun c hc => by
    by_cases h1 : c < bs.length
    · rw [gcN_lt h1]
      show (if c < bs.length then _ else _) = _
      rw [if_pos h1]
    · have hc' : c ∈ acc := by rcases hc with h | h; exact absurd h h1; exact h
      rw [gcN_ge (by omega)]
      have h2 := idx_lt hc'
      show (if bs.length + idx c acc < bs.length then _ else if bs.length + idx c acc < out'.length then (acc[bs.length + idx c acc - bs.length]?).bind μ' else _) = _
      rw [if_neg (by omega), if_pos (by omega), show bs.length + idx c acc - bs.length = idx c acc by omega, idx_spec hc']
      rfl
  have hold : ∀ c p, μ c = some p → μ'' c = μ' c := fun c p hp => by
    show (if c < bs.length then _ else if c < out'.length then _ else _) = _
    by_cases h1 : c < bs.length
    · rw [if_pos h1]
    · rw [if_neg h1]
      by_cases h2 : c < out'.length
      · rw [hμ c (by omega) (by omega)] at hp; cases hp
      · rw [if_neg h2]
        by_cases h3 : c < t
        · rw [hμ c (by omega) h3] at hp; cases hp
        · exact (g5 c (.inr (by omega))).symm
  have hrids : ∀ c ∈ r.ids, c < bs.length ∨ c ∈ acc := fun c hc => hg.todo c (by simp [hc])
  have hkids : ∀ b kb, b < bs.length → out[b]? = some (.set kb) → ∀ c ∈ kb.ids, c < bs.length ∨ c ∈ acc := fun b kb hb hk c hc => hg.todo c (by
    rw [List.mem_append]
    refine .inr (mem_idsO.2 ⟨.set kb, ?_, hc⟩)
    rw [takeO_eq]
    refine List.mem_of_getElem? (i := b) ?_
    rw [List.getElem?_take, if_pos hb, hk])
  refine ⟨μ'', F', (rep_ren r u fun c hc => hτ c (hrids c hc)).2 g1, ?_, ⟨fun b p hp => ?_, g3.prot⟩, g4, fun b hb => ?_⟩
  · -- the heap
    let f : Nat → Nat := fun b => if b < bs.length then b else if b < out'.length then (acc[b - bs.length]?).getD 0 else b
    have hf1 : ∀ b, b < bs.length → f b = b := fun b hb => by show (if _ then _ else _) = _; rw [if_pos hb]
    have hf2 : ∀ b, bs.length ≤ b → b < out'.length → ∃ c, acc[b - bs.length]? = some c ∧ f b = c := fun b h1 h2 => by
      have : b - bs.length < acc.length := by omega
      refine ⟨acc[b - bs.length], List.getElem?_eq_getElem this, ?_⟩
      show (if b < bs.length then _ else if b < out'.length then _ else _) = _
      rw [if_neg (by omega), if_pos h2, List.getElem?_eq_getElem this]; rfl
    have hf3 : ∀ b, out'.length ≤ b → f b = b := fun b hb => by
      show (if b < bs.length then _ else if b < out'.length then _ else _) = _
      rw [if_neg (by omega), if_neg (by omega)]
    -- which numbers have a block
    have live : ∀ b k, (if b < t then outAt bs out' b else look b KL) = some k → b < out'.length ∨ t ≤ b := fun b k hk => by
      by_cases h1 : b < t
      · rw [if_pos h1] at hk
        unfold outAt at hk
        rcases Nat.lt_or_ge b out'.length with h2 | h2
        · exact .inl h2
        · rw [List.getElem?_eq_none h2] at hk; cases hk
      · exact .inr (by omega)
    refine hrep_ren f g2 ?_ ?_
    · intro b b' k k' hk hk' he
      have l1 := live b k hk
      have l2 := live b' k' hk'
      have cls : ∀ b, b < out'.length ∨ t ≤ b → (b < bs.length ∧ f b = b) ∨ (bs.length ≤ b ∧ b < out'.length ∧ ∃ c, acc[b - bs.length]? = some c ∧ f b = c ∧ bs.length ≤ c ∧ c < t) ∨ (t ≤ b ∧ f b = b) := fun b hb => by
        rcases Nat.lt_or_ge b bs.length with h1 | h1
        · exact .inl ⟨h1, hf1 b h1⟩
        · rcases hb with h2 | h2
          · obtain ⟨c, c1, c2⟩ := hf2 b h1 h2
            obtain ⟨c3, kb, c4, _⟩ := hacc c (List.mem_of_getElem? c1)
            have := (List.getElem?_eq_some_iff.1 c4).1
            exact .inr (.inl ⟨h1, h2, c, c1, c2, c3, by omega⟩)
          · exact .inr (.inr ⟨h2, hf3 b (by omega)⟩)
      rcases cls b l1 with ⟨a1, a2⟩ | ⟨a1, a2, c, a3, a4, a5, a6⟩ | ⟨a1, a2⟩ <;> rcases cls b' l2 with ⟨d1, d2⟩ | ⟨d1, d2, c', d3, d4, d5, d6⟩ | ⟨d1, d2⟩ <;> try omega
      have hcc : c = c' := by omega
      subst hcc
      have := (List.getElem?_inj (by omega) hnd).1 (a3.trans d3.symm)
      omega
    · intro b k₂ hk₂
      rcases live b k₂ hk₂ with h1 | h1
      · have hbt : b < t := by omega
        rw [if_pos hbt] at hk₂
        unfold outAt at hk₂
        rw [hob] at hk₂
        by_cases h2 : b < bs.length
        · rw [if_pos h2] at hk₂
          rw [hf1 b h2]
          have hμb : μ'' b = μ' b := by show (if _ then _ else _) = _; rw [if_pos h2]
          cases e3 : out[b]? with
          | none => rw [e3] at hk₂; cases hk₂
          | some o =>
            rw [e3] at hk₂
            cases o with
            | del => cases hk₂
            | keep =>
              simp only [Option.map_some, BO.ren] at hk₂
              refine ⟨k₂, by rw [if_pos hbt]; unfold outAt; rw [e3]; exact hk₂, hμb, ⟨rfl, rfl, rfl⟩, fun p hB => ?_⟩
              -- a block that was there before
              obtain ⟨p0, _, hB0⟩ := hH.blk b k₂ (by rw [if_pos hbt]; exact hk₂)
              have : ∀ c ∈ k₂.ids, μ'' c = μ' c := fun c hc => by
                obtain ⟨q, hq⟩ := brep_ids hB0 c hc
                exact hold c q hq
              exact brep_id this hB
            | set k0 =>
              simp only [Option.map_some, BO.ren, Option.some.injEq] at hk₂
              subst hk₂
              exact ⟨k0, by rw [if_pos hbt]; unfold outAt; rw [e3], hμb, shape_ren _ _, fun p hB => (brep_ren fun c hc => hτ c (hkids b k0 h2 e3 c hc)).2 hB⟩
        · rw [if_neg h2] at hk₂
          obtain ⟨c, c1, c2⟩ := hf2 b (by omega) h1
          rw [c1] at hk₂
          obtain ⟨c3, kb, c4, c5⟩ := hacc c (List.mem_of_getElem? c1)
          have clt := (List.getElem?_eq_some_iff.1 c4).1
          simp only [Option.map_some, c4, BO.ren, Option.some.injEq] at hk₂
          subst hk₂
          rw [c2]
          refine ⟨kb, by rw [if_pos (by omega)]; unfold outAt; rw [c4], ?_, shape_ren _ _, fun p hB => (brep_ren fun d hd => hτ d (c5 d hd)).2 hB⟩
          show (if b < bs.length then _ else if b < out'.length then (acc[b - bs.length]?).bind μ' else _) = _
          rw [if_neg h2, if_pos h1, c1]; rfl
      · rw [if_neg (by omega)] at hk₂
        rw [hf3 b (by omega)]
        have hμb : μ'' b = μ' b := by
          show (if b < bs.length then _ else if b < out'.length then _ else _) = _
          rw [if_neg (by omega), if_neg (by omega)]
          exact (g5 b (.inr (by omega))).symm
        refine ⟨k₂, by rw [if_neg (by omega)]; exact hk₂, hμb, ⟨rfl, rfl, rfl⟩, fun p hB => ?_⟩
        obtain ⟨p0, _, hB0⟩ := hH.blk b k₂ (by rw [if_neg (by omega)]; exact hk₂)
        have : ∀ c ∈ k₂.ids, μ'' c = μ' c := fun c hc => by
          obtain ⟨q, hq⟩ := brep_ids hB0 c hc
          exact hold c q hq
        exact brep_id this hB
  · show (if b < bs.length then _ else if b < out'.length then _ else _) = _
    by_cases h1 : b < bs.length
    · rw [if_pos h1]; exact g3.mu b p hp
    · rw [if_neg h1]
      by_cases h2 : b < out'.length
      · rw [hμ b (by omega) (by omega)] at hp; cases hp
      · rw [if_neg h2]; exact hp
  · show (if b < bs.length then _ else if b < out'.length then _ else _) = _
    rcases hb with hb | hb
    · rw [if_pos hb]; exact g5 b (.inl hb)
    · rw [if_neg (by omega), if_neg (by omega)]
end Go.Proofs.Ytlmhajfbpplpoaa
namespace Go.Proofs.Ytlmhajfbpplpoaa
open Go.RowKit

structure TravOk (H : AH) (todo acc L : List Nat) : Prop where
  sub : ∀ b ∈ acc, b ∈ L
  nodup : acc.Nodup → L.Nodup
  new : ∀ b ∈ L, b ∈ acc ∨ ∃ k, H.get b = some k ∧ ∀ c ∈ k.ids, c ∈ L
  todo : ∀ b ∈ todo, b ∈ L
theorem trav_ok {H : AH} : ∀ (n : Nat) (todo acc L : List Nat) {H' : AH} {ft : Foot}, trav n todo acc H = some (L, H', ft) → H' = H ∧ TravOk H todo acc L
  | n, [], acc, L, H', ft, h => by
    have : AM.ret acc H = some (L, H', ft) := by cases n <;> (unfold trav at h; exact h)
    obtain ⟨rfl, rfl⟩ := ret_some this
    exact ⟨rfl, fun _ h => h, fun h => h, fun _ h => .inl h, fun _ h => by cases h⟩
  | 0, b :: r, acc, L, H', ft, h => by unfold trav at h; exact (fail_some h).elim
  | n + 1, b :: r, acc, L, H', ft, h => by
    unfold trav at h
    cases e2 : hasN b acc with
    | true =>
      rw [e2] at h
      obtain ⟨e0, ih⟩ := trav_ok n r acc L h
      exact ⟨e0, ih.sub, ih.nodup, ih.new, fun c hc => by
        rcases List.mem_cons.1 hc with rfl | hc
        · exact ih.sub _ (hasN_iff.1 e2)
        · exact ih.todo c hc⟩
    | false =>
      rw [e2] at h
      have hb : b ∉ acc := fun hc => by rw [hasN_iff.2 hc] at e2; cases e2
      obtain ⟨k, H1, f1, f2, h1, h2⟩ := bind_some h
      obtain ⟨hk, e1⟩ := getB_some h1
      rw [e1] at h2
      obtain ⟨e0, ih⟩ := trav_ok n (r ++ k.ids) (acc ++ [b]) L h2
      refine ⟨e0, fun c hc => ih.sub c (by simp [hc]), fun hn => ih.nodup ?_, fun c hc => ?_, fun c hc => ?_⟩
      · rw [List.nodup_append]
        exact ⟨hn, by simp, fun x hx y hy => by simp at hy; subst hy; exact fun e => hb (e ▸ hx)⟩
      · rcases ih.new c hc with h1 | h1
        · simp only [List.mem_append, List.mem_singleton] at h1
          rcases h1 with h1 | rfl
          · exact .inl h1
          · exact .inr ⟨k, hk, fun d hd => ih.todo d (by simp [hd])⟩
        · exact .inr h1
      · rcases List.mem_cons.1 hc with rfl | hc
        · exact ih.sub _ (by simp)
        · exact ih.todo c (by simp [hc])
theorem readAll_ok {H : AH} : ∀ (L : List Nat) {bs : List ABlk} {H' : AH} {ft : Foot}, readAll L H = some (bs, H', ft) → H' = H ∧ bs.length = L.length ∧ ∀ (i b : Nat), L[i]? = some b → ∃ k, bs[i]? = some k ∧ H.get b = some k
  | [], bs, H', ft, h => by
    obtain ⟨rfl, rfl⟩ := ret_some h
    exact ⟨rfl, rfl, fun i b hb => by simp at hb⟩
  | c :: r, bs, H', ft, h => by
    unfold readAll at h
    obtain ⟨k, H1, f1, f2, h1, h2⟩ := bind_some h
    obtain ⟨hk, e1⟩ := getB_some h1
    rw [e1] at h2
    obtain ⟨l, H2, f3, f4, h3, h4⟩ := bind_some h2
    obtain ⟨rfl, e2⟩ := ret_some h4
    obtain ⟨e3, h5, h6⟩ := readAll_ok r h3
    refine ⟨e2.trans e3, by simp [h5], fun i b hb => ?_⟩
    cases i with
    | zero => simp at hb; subst hb; exact ⟨k, rfl, hk⟩
    | succ i => simpa using h6 i b (by simpa using hb)
def wrote (H : AH) (σ : Nat → Nat) (o : Option BO) (b : Nat) : Option ABlk := match o with
  | some .keep => H.get b
  | some (.set k) => some (k.ren σ)
  | _ => none
theorem writeAll_ok {σ : Nat → Nat} : ∀ (L : List Nat) (out : List BO) {H : AH} {rest : List BO} {H' : AH} {ft : Foot}, L.Nodup → (∀ b ∈ L, ∃ k, H.get b = some k) → writeAll σ L out H = some (rest, H', ft) →
    L.length ≤ out.length ∧ rest = out.drop L.length ∧ H'.next = H.next ∧ H'.top = H.top ∧ (∀ (i b : Nat), L[i]? = some b → H'.get b = wrote H σ out[i]? b) ∧ ∀ b, b ∉ L → H'.get b = H.get b
  | [], out, H, rest, H', ft, _, _, h => by
    unfold writeAll at h
    obtain ⟨rfl, rfl⟩ := ret_some h
    exact ⟨Nat.zero_le _, rfl, rfl, rfl, fun i b hb => by simp at hb, fun _ _ => rfl⟩
  | c :: r, [], H, rest, H', ft, _, _, h => by unfold writeAll at h; exact (fail_some h).elim
  | c :: r, o :: out, H, rest, H', ft, hnd, hl, h => by
    unfold writeAll at h
    obtain ⟨_, H1, f1, f2, h1, h2⟩ := bind_some h
    rw [List.nodup_cons] at hnd
    have step : H1.next = H.next ∧ H1.top = H.top ∧ H1.get c = wrote H σ (some o) c ∧ ∀ b, b ≠ c → H1.get b = H.get b := by
      cases o with
      | keep =>
        obtain ⟨_, rfl⟩ := ret_some h1
        exact ⟨rfl, rfl, rfl, fun _ _ => rfl⟩
      | del =>
        have := delB_some h1
        rw [this]
        exact ⟨rfl, rfl, by rw [AH.get_del, if_pos rfl]; rfl, fun b hb => by rw [AH.get_del, if_neg hb]⟩
      | set k =>
        have := setB_some h1
        rw [this]
        exact ⟨rfl, rfl, by rw [AH.get_put, if_pos rfl]; rfl, fun b hb => by rw [AH.get_put, if_neg hb]⟩
    obtain ⟨s1, s2, s3, s4⟩ := step
    obtain ⟨i1, i2, i3, i4, i5, i6⟩ := writeAll_ok r out hnd.2 (fun b hb => by
      rw [s4 b (fun e => hnd.1 (e ▸ hb))]
      exact hl b (by simp [hb])) h2
    refine ⟨by simp; omega, by simpa using i2, i3.trans s1, i4.trans s2, fun i b hb => ?_, fun b hb => ?_⟩
    · cases i with
      | zero =>
        simp at hb
        subst hb
        rw [i6 _ hnd.1, s3]
        rfl
      | succ i =>
        have hb' : r[i]? = some b := by simpa using hb
        have hbc : b ≠ c := fun e => hnd.1 (e ▸ List.mem_of_getElem? hb')
        rw [i5 i b hb']
        simp only [List.getElem?_cons_succ]
        cases out[i]? with
        | none => rfl
        | some o => cases o <;> simp only [wrote, s4 b hbc]
    · rw [List.mem_cons, not_or] at hb
      rw [i6 b hb.2, s4 b hb.1]
theorem newAll_ok {σ : Nat → Nat} : ∀ (out : List BO) {H : AH} {u : Unit} {H' : AH} {ft : Foot}, newAll σ out H = some (u, H', ft) →
    H'.next = H.next + out.length ∧ H'.top = H.top ∧ (∀ b, H.next ≤ b → b < H.next + out.length → H.below b) ∧ ∀ b, H'.get b = if H.next ≤ b ∧ b < H.next + out.length then wrote H σ out[b - H.next]? b else H.get b
  | [], H, u, H', ft, h => by
    unfold newAll at h
    obtain ⟨_, rfl⟩ := ret_some h
    exact ⟨rfl, rfl, fun b h1 h2 => by simp at h2; omega, fun b => by rw [if_neg (by simp)]⟩
  | .keep :: r, H, u, H', ft, h => by unfold newAll at h; exact (fail_some h).elim
  | .del :: r, H, u, H', ft, h => by unfold newAll at h; exact (fail_some h).elim
  | .set k :: r, H, u, H', ft, h => by
    unfold newAll at h
    obtain ⟨n, H1, f1, f2, h1, h2⟩ := bind_some h
    obtain ⟨b1, b2⟩ := newB_run h1
    simp only [Prod.mk.injEq] at b2
    obtain ⟨_, b2, _⟩ := b2
    have hg : ∀ b, H1.get b = if b = H.next then some (k.ren σ) else H.get b := fun b => by rw [b2, get_cons]
    have hn : H1.next = H.next + 1 := by rw [b2]
    have ht : H1.top = H.top := by rw [b2]
    obtain ⟨i1, i2, i3, i4⟩ := newAll_ok r h2
    refine ⟨by rw [i1, hn]; simp; omega, i2.trans ht, fun b h3 h4 => ?_, fun b => ?_⟩
    · simp only [List.length_cons] at h4
      rcases Nat.lt_or_ge b (H.next + 1) with h5 | h5
      · have : b = H.next := by omega
        subst this; exact b1
      · have := i3 b (by omega) (by omega)
        unfold AH.below at this ⊢
        rwa [ht] at this
    · rw [i4, hn]
      simp only [List.length_cons]
      by_cases h3 : H.next + 1 ≤ b ∧ b < H.next + 1 + r.length
      · rw [if_pos h3, if_pos (by omega)]
        rw [show b - H.next = (b - (H.next + 1)) + 1 by omega]
        simp only [List.getElem?_cons_succ]
        cases r[b - (H.next + 1)]? with
        | none => rfl
        | some o => cases o <;> simp only [wrote, hg, if_neg (show ¬ b = H.next by omega)]
      · rw [if_neg h3, hg]
        by_cases h4 : b = H.next
        · subst h4
          rw [if_pos rfl, if_pos (by omega)]
          simp [wrote]
        · rw [if_neg h4, if_neg (by omega)]
theorem nthN_eq : ∀ (l : List Nat) (n : Nat), nthN l n = l[n]?
  | [], _ => by simp [nthN]
  | x :: r, 0 => by simp [nthN]
  | x :: r, n + 1 => by simp [nthN, nthN_eq r n]
theorem bndN_ok {n : Nat} : ∀ {l : List Nat}, bndN n l = true → ∀ c ∈ l, c < n
  | [], _, c, hc => by cases hc
  | d :: r, h, c, hc => by
    unfold bndN at h
    cases e : Nat.blt d n with
    | false => rw [e] at h; cases h
    | true =>
      rw [e] at h
      rcases List.mem_cons.1 hc with rfl | hc
      · simpa [bltN] using e
      · exact bndN_ok h c hc
theorem bndO_ok {n : Nat} : ∀ {l : List BO}, bndO n l = true → ∀ o ∈ l, ∀ c ∈ o.ids, c < n
  | [], _, o, ho => by cases ho
  | d :: r, h, o, ho => by
    unfold bndO at h
    cases e : bndN n d.ids with
    | false => rw [e] at h; cases h
    | true =>
      rw [e] at h
      rcases List.mem_cons.1 ho with rfl | ho
      · exact bndN_ok e
      · exact bndO_ok h o ho
theorem Loc.trav : ∀ (n : Nat) (todo acc : List Nat), Loc (trav n todo acc)
  | n, [], acc => by cases n <;> (unfold Go.Proofs.Ytlmhajfbpplpoaa.trav; exact Loc.ret _)
  | 0, _ :: _, _ => by unfold Go.Proofs.Ytlmhajfbpplpoaa.trav; exact Loc.fail
  | n + 1, b :: r, acc => by
    unfold Go.Proofs.Ytlmhajfbpplpoaa.trav
    split
    · exact Loc.trav n _ _
    · exact Loc.bind (Loc.getB _) fun k => Loc.trav n _ _
theorem Loc.readAll : ∀ (L : List Nat), Loc (readAll L)
  | [] => Loc.ret _
  | b :: r => Loc.bind (Loc.getB _) fun _ => Loc.bind (Loc.readAll r) fun _ => Loc.ret _
theorem Loc.nextB : Loc nextB := fun H a H' ft hw h => by
  unfold Go.Proofs.Ytlmhajfbpplpoaa.nextB at h
  simp only [Option.some.injEq, Prod.mk.injEq] at h
  obtain ⟨rfl, rfl, rfl⟩ := h
  exact ⟨Nat.le_refl _, rfl, fun b h1 h2 => by omega, hw, fun b h1 h2 => by omega, fun b hb => by simp at hb, fun _ _ => rfl, fun K hn _ _ => ⟨K, by unfold Go.Proofs.Ytlmhajfbpplpoaa.nextB; rw [hn], hn, rfl, fun b => by simp⟩⟩
theorem Loc.writeAll (σ : Nat → Nat) : ∀ (L : List Nat) (out : List BO), Loc (writeAll σ L out)
  | [], out => by unfold Go.Proofs.Ytlmhajfbpplpoaa.writeAll; exact Loc.ret _
  | _ :: _, [] => by unfold Go.Proofs.Ytlmhajfbpplpoaa.writeAll; exact Loc.fail
  | b :: r, o :: out => by
    unfold Go.Proofs.Ytlmhajfbpplpoaa.writeAll
    refine Loc.bind ?_ fun _ => Loc.writeAll σ r out
    cases o with
    | keep => exact Loc.ret _
    | del => exact Loc.delB _
    | set k => exact Loc.setB _ _
theorem Loc.newAll (σ : Nat → Nat) : ∀ (out : List BO), Loc (newAll σ out)
  | [] => Loc.ret _
  | .set k :: r => Loc.bind (Loc.newB _) fun _ => Loc.newAll σ r
  | .keep :: r => Loc.fail
  | .del :: r => Loc.fail
theorem Loc.callD (D : DF) (args : List AV) : Loc (callD D args) := by
  unfold Go.Proofs.Ytlmhajfbpplpoaa.callD
  refine Loc.bind (Loc.trav _ _ _) fun L => Loc.bind (Loc.readAll L) fun bs => Loc.bind (Loc.opt _) fun r => ?_
  split
  · exact Loc.bind Loc.nextB fun n => Loc.bind (Loc.writeAll _ _ _) fun out => Loc.bind (Loc.newAll _ _) fun _ => Loc.ret _
  · exact Loc.fail
end Go.Proofs.Ytlmhajfbpplpoaa
namespace Go.Proofs.Ytlmhajfbpplpoaa
open Go.RowKit

/-- The other blocks, from t on. -/
def farB (L : List Nat) (t : Nat) (τ : Nat → Nat) : List (Nat × ABlk) → List (Nat × ABlk)
  | [] => []
  | (b, k) :: r => if b ∈ L then farB L t τ r else (t + b, k.ren τ) :: farB L t τ r
theorem look_far {L : List Nat} {t : Nat} {τ : Nat → Nat} {b : Nat} (hb : b ∉ L) : ∀ l, look (t + b) (farB L t τ l) = (look b l).map (ABlk.ren τ)
  | [] => rfl
  | (c, k) :: r => by
    unfold farB
    by_cases hc : c ∈ L
    · rw [if_pos hc, look_far hb r]
      simp only [look]
      rw [if_neg (show ¬ c = b from fun e => hb (e ▸ hc))]
    · rw [if_neg hc]
      simp only [look]
      by_cases e : c = b
      · subst e
        simp
      · rw [if_neg (by omega), if_neg e, look_far hb r]
theorem look_far_in {L : List Nat} {t : Nat} {τ : Nat → Nat} {b : Nat} (hb : b ∈ L) : ∀ l, look (t + b) (farB L t τ l) = none
  | [] => rfl
  | (c, k) :: r => by
    unfold farB
    by_cases hc : c ∈ L
    · rw [if_pos hc, look_far_in hb r]
    · rw [if_neg hc]
      simp only [look]
      rw [if_neg (fun e => hc (by rw [show c = b by omega]; exact hb)), look_far_in hb r]
theorem far_ge {L : List Nat} {t : Nat} {τ : Nat → Nat} : ∀ l, ∀ p ∈ farB L t τ l, t ≤ p.1
  | [], p, hp => by cases hp
  | (c, k) :: r, p, hp => by
    unfold farB at hp
    by_cases hc : c ∈ L
    · rw [if_pos hc] at hp; exact far_ge r p hp
    · rw [if_neg hc] at hp
      rcases List.mem_cons.1 hp with rfl | hp
      · exact Nat.le_add_right _ _
      · exact far_ge r p hp
theorem callD_sound {S : SemT} (hm : MonoS S) {D : DF} (hD : GoodD S D) : SoundM S (callD D) := by
  intro args μ F w H us hr hH hw hfr r' H' ft h
  unfold callD at h
  obtain ⟨L, H1, f1, f2, h1, h⟩ := bind_some h
  obtain ⟨e1, hT⟩ := trav_ok _ _ _ _ h1
  rw [e1] at h
  obtain ⟨bs, H2, f3, f4, h2, h⟩ := bind_some h
  obtain ⟨e2, hbl, hbs⟩ := readAll_ok _ h2
  rw [e2] at h
  obtain ⟨⟨r, out⟩, H3, f5, f6, h3, h⟩ := bind_some h
  obtain ⟨hd, e3⟩ := opt_some h3
  rw [e3] at h
  simp only at h
  cases c1 : bndN out.length r.ids with
  | false => rw [c1] at h; exact (fail_some h).elim
  | true =>
  cases c2 : bndO out.length out with
  | false => rw [c1, c2] at h; exact (fail_some h).elim
  | true =>
  rw [c1, c2] at h
  obtain ⟨n, H4, f7, f8, h4, h⟩ := bind_some h
  have h4' : n = H.next ∧ H4 = H := by
    unfold nextB at h4
    simp only [Option.some.injEq, Prod.mk.injEq] at h4
    exact ⟨h4.1.symm, h4.2.1.symm⟩
  obtain ⟨rfl, e4⟩ := h4'
  rw [e4] at h
  obtain ⟨rest, H5, f9, f10, h5, h⟩ := bind_some h
  obtain ⟨_, H6, f11, f12, h6, h⟩ := bind_some h
  obtain ⟨rfl, rfl⟩ := ret_some h
  clear h h1 h2 h3 h4 e1 e2 e3 e4
  have hnd : L.Nodup := hT.nodup (by simp)
  have hL : ∀ b ∈ L, ∃ k, H.get b = some k ∧ ∀ c ∈ k.ids, c ∈ L := fun b hb => by
    rcases hT.new b hb with h | h
    · cases h
    · exact h
  obtain ⟨w1, w2, w3, w4, w5, w6⟩ := writeAll_ok L out hnd (fun b hb => (hL b hb).imp fun _ h => h.1) h5
  obtain ⟨n1, n2, n3, n4⟩ := newAll_ok rest h6
  rw [w3] at n1 n3 n4
  have hrl : rest.length = out.length - L.length := by rw [w2]; simp
  have hfree : ∀ b, H.next ≤ b → b < H.next + rest.length → H.get b = none ∧ μ b = none := fun b g1 g2 => by
    have hb : H.below b := by
      have := n3 b g1 g2
      unfold AH.below at this ⊢
      rwa [w4] at this
    exact ⟨hw b g1 hb, hfr b g1 hb⟩
  have hLfree : ∀ b ∈ L, ¬ (H.next ≤ b ∧ b < H.next + rest.length) := fun b hb hx => by
    obtain ⟨k, hk, _⟩ := hL b hb
    rw [(hfree b hx.1 hx.2).1] at hk
    cases hk
  obtain ⟨hle, t0, ht0, hD⟩ := hD _ _ _ _ hd
  rw [List.length_map, hbl] at hle
  -- the callee's numbering
  let t := t0
  let τ : Nat → Nat := fun c => if c ∈ L then idx c L else t + c
  let μK : Mu := fun c => if c < L.length then (L[c]?).bind μ else if c < t then none else μ (c - t)
  have hLt : L.length ≤ t := Nat.le_trans w1 ht0
  have hτ : ∀ c, μK (τ c) = μ c := fun c => by
    show μK (if c ∈ L then idx c L else t + c) = _
    by_cases hc : c ∈ L
    · rw [if_pos hc]
      show (if idx c L < L.length then _ else _) = _
      rw [if_pos (idx_lt hc), idx_spec hc]; rfl
    · rw [if_neg hc]
      show (if t + c < L.length then _ else if t + c < t then _ else _) = _
      rw [if_neg (by omega), if_neg (by omega), show t + c - t = c by omega]
  have hτL : ∀ c ∈ L, τ c = idx c L := fun c hc => if_pos hc
  have hτidx : ∀ c ∈ L, μK (idx c L) = μ c := fun c hc => by rw [← hτL c hc]; exact hτ c
  have hbs' : ∀ i b, L[i]? = some b → ∃ k, H.get b = some k ∧ (bs.map (ABlk.ren fun b => idx b L))[i]? = some (k.ren fun b => idx b L) ∧ ∀ c ∈ k.ids, c ∈ L := fun i b hb => by
    obtain ⟨k, q1, q2⟩ := hbs i b hb
    obtain ⟨k', q3, q4⟩ := hL b (List.mem_of_getElem? hb)
    rw [q2] at q3
    cases q3
    exact ⟨k, q2, by rw [List.getElem?_map, q1]; rfl, q4⟩
  have hargs : RepList μK F w (renL (fun b => idx b L) args) us := (repList_ren args us fun c hc => hτidx c (hT.todo c hc)).2 hr
  have hHK : HRep μK F w (fun b => if b < t then (bs.map (ABlk.ren fun b => idx b L))[b]? else look b (farB L t τ H.bs)) := by
    refine hrep_ren (fun c => if c < L.length then (L[c]?).getD 0 else c - t) hH ?_ ?_
    · intro b b' k k' hk hk' he
      have cls : ∀ b k, (if b < t then (bs.map (ABlk.ren fun b => idx b L))[b]? else look b (farB L t τ H.bs)) = some k → (∃ c, L[b]? = some c ∧ (if b < L.length then (L[b]?).getD 0 else b - t) = c) ∨ (t ≤ b ∧ b - t ∉ L ∧ (if b < L.length then (L[b]?).getD 0 else b - t) = b - t) := fun b k hk => by
        by_cases hbt : b < t
        · rw [if_pos hbt, List.getElem?_map] at hk
          cases e : bs[b]? with
          | none => rw [e] at hk; cases hk
          | some k0 =>
            have hbL : b < L.length := by rw [← hbl]; exact (List.getElem?_eq_some_iff.1 e).1
            exact .inl ⟨L[b], List.getElem?_eq_getElem hbL, by rw [if_pos hbL, List.getElem?_eq_getElem hbL]; rfl⟩
        · rw [if_neg hbt] at hk
          refine .inr ⟨by omega, fun hc => ?_, by rw [if_neg (by omega)]⟩
          have := look_far_in (t := t) (τ := τ) hc H.bs
          rw [show t + (b - t) = b by omega] at this
          rw [this] at hk; cases hk
      rcases cls b k hk with ⟨c, a1, a2⟩ | ⟨a1, a2, a3⟩ <;> rcases cls b' k' hk' with ⟨c', d1, d2⟩ | ⟨d1, d2, d3⟩
      · rw [a2, d2] at he
        subst he
        exact (List.getElem?_inj (List.getElem?_eq_some_iff.1 a1).1 hnd).1 (a1.trans d1.symm)
      · rw [a2, d3] at he
        exact absurd (he ▸ List.mem_of_getElem? a1) d2
      · rw [a3, d2] at he
        exact absurd (he ▸ List.mem_of_getElem? d1) a2
      · rw [a3, d3] at he
        omega
    · intro b k₂ hk₂
      by_cases hbt : b < t
      · rw [if_pos hbt, List.getElem?_map] at hk₂
        cases e : bs[b]? with
        | none => rw [e] at hk₂; cases hk₂
        | some k0 =>
          have hbL : b < L.length := by rw [← hbl]; exact (List.getElem?_eq_some_iff.1 e).1
          have hLb : L[b]? = some L[b] := List.getElem?_eq_getElem hbL
          obtain ⟨k, q1, q2, q3⟩ := hbs' b _ hLb
          rw [List.getElem?_map, e] at q2
          rw [e] at hk₂
          simp only [Option.map_some, Option.some.injEq] at q2 hk₂
          rw [q2] at hk₂
          subst hk₂
          refine ⟨k, by rw [if_pos hbL, hLb]; exact q1, ?_, shape_ren _ _, fun p hB => (brep_ren fun c hc => hτidx c (q3 c hc)).2 hB⟩
          show (if b < L.length then (L[b]?).bind μ else _) = _
          rw [if_pos hbL, if_pos hbL, hLb]; rfl
      · rw [if_neg hbt] at hk₂
        have hbn : b - t ∉ L := fun hc => by
          have := look_far_in (t := t) (τ := τ) hc H.bs
          rw [show t + (b - t) = b by omega] at this
          rw [this] at hk₂; cases hk₂
        have := look_far (t := t) (τ := τ) hbn H.bs
        rw [show t + (b - t) = b by omega, hk₂] at this
        cases e : look (b - t) H.bs with
        | none => rw [e] at this; cases this
        | some k =>
          rw [e] at this
          simp only [Option.map_some, Option.some.injEq] at this
          subst this
          refine ⟨k, by rw [if_neg (by omega)]; exact e, ?_, shape_ren _ _, fun p hB => (brep_ren fun c _ => hτ c).2 hB⟩
          show (if b < L.length then _ else if b < t then _ else _) = _
          rw [if_neg (by omega), if_neg hbt, if_neg (by omega)]
  have hμK : ∀ b, (bs.map (ABlk.ren fun b => idx b L)).length ≤ b → b < t → μK b = none := fun b g1 g2 => by
    rw [List.length_map, hbl] at g1
    show (if b < L.length then _ else if b < t then _ else _) = _
    rw [if_neg (by omega), if_pos g2]
  refine hm _ _ _ _ (hD t (Nat.le_refl _) μK F w (farB L t τ H.bs) us (far_ge _) hargs hHK hμK) ?_
  rintro u w' ⟨μ', F', g1, g2, g3, g4, g5⟩
  rw [List.length_map, hbl] at g5
  -- back
  let μf : Mu := fun b => if H.next ≤ b ∧ b < H.next + rest.length then μ' (L.length + (b - H.next)) else μ b
  have hμold : ∀ c, ¬ (H.next ≤ c ∧ c < H.next + rest.length) → μf c = μ c := fun c hc => if_neg hc
  have hμL : ∀ c ∈ L, μf c = μ' (idx c L) := fun c hc => by
    rw [hμold c (hLfree c hc), g5 _ (.inl (idx_lt hc)), hτidx c hc]
  have hσ : ∀ c, c < out.length → μf (backN L H.next c) = μ' c := fun c hc => by
    unfold backN
    rw [nthN_eq]
    cases e : L[c]? with
    | some b =>
      have hb := List.mem_of_getElem? e
      simp only
      rw [hμL b hb]
      have := (List.getElem?_inj (idx_lt hb) hnd).1 ((idx_spec hb).trans e.symm)
      rw [this]
    | none =>
      have hcl : L.length ≤ c := List.getElem?_eq_none_iff.1 e
      simp only
      show (if H.next ≤ H.next + (c - L.length) ∧ H.next + (c - L.length) < H.next + rest.length then _ else _) = _
      rw [if_pos (by omega), show L.length + (H.next + (c - L.length) - H.next) = c by omega]
  have hfar : ∀ c p, μ c = some p → μf c = μ' (τ c) := fun c p hp => by
    have hc : ¬ (H.next ≤ c ∧ c < H.next + rest.length) := fun hx => by rw [(hfree c hx.1 hx.2).2] at hp; cases hp
    rw [hμold c hc]
    have h1 : μK (τ c) = some p := (hτ c).trans hp
    rw [hp, g3.mu _ _ h1]
  have hget : ∀ b, H'.get b = if H.next ≤ b ∧ b < H.next + rest.length then wrote H5 (backN L H.next) rest[b - H.next]? b else H5.get b := n4
  refine ⟨μf, F', (rep_ren r u fun c hc => hσ c (bndN_ok c1 c hc)).2 g1, ?_, ⟨fun b p hp => ?_, g3.prot⟩, g4, fun b hb => ?_⟩
  · -- the heap
    let f : Nat → Nat := fun b => if b ∈ L then idx b L else if H.next ≤ b ∧ b < H.next + rest.length then L.length + (b - H.next) else t + b
    have f1 : ∀ b, b ∈ L → f b = idx b L := fun b hb => if_pos hb
    have f2 : ∀ b, H.next ≤ b → b < H.next + rest.length → f b = L.length + (b - H.next) := fun b h1 h2 => by
      show (if b ∈ L then _ else if _ then _ else _) = _
      rw [if_neg (fun hc => hLfree b hc ⟨h1, h2⟩), if_pos ⟨h1, h2⟩]
    have f3 : ∀ b, b ∉ L → ¬ (H.next ≤ b ∧ b < H.next + rest.length) → f b = t + b := fun b h1 h2 => by
      show (if b ∈ L then _ else if _ then _ else _) = _
      rw [if_neg h1, if_neg h2]
    refine hrep_ren f g2 ?_ ?_
    · intro b b' k k' _ _ he
      have cls : ∀ b, (b ∈ L ∧ f b = idx b L ∧ f b < L.length) ∨ ((H.next ≤ b ∧ b < H.next + rest.length) ∧ f b = L.length + (b - H.next)) ∨ f b = t + b := fun b => by
        by_cases h1 : b ∈ L
        · exact .inl ⟨h1, f1 b h1, by rw [f1 b h1]; exact idx_lt h1⟩
        · by_cases h2 : H.next ≤ b ∧ b < H.next + rest.length
          · exact .inr (.inl ⟨h2, f2 b h2.1 h2.2⟩)
          · exact .inr (.inr (f3 b h1 h2))
      rcases cls b with ⟨a1, a2, a3⟩ | ⟨a1, a2⟩ | a1 <;> rcases cls b' with ⟨d1, d2, d3⟩ | ⟨d1, d2⟩ | d1 <;> try omega
      have := idx_spec a1
      rw [← a2, he, d2, idx_spec d1] at this
      exact (Option.some.inj this).symm
    · intro b k₂ hk₂
      rw [hget] at hk₂
      by_cases hbL : b ∈ L
      · rw [if_neg (hLfree b hbL), w5 _ b (idx_spec hbL)] at hk₂
        have hlt : idx b L < t := Nat.lt_of_lt_of_le (idx_lt hbL) hLt
        obtain ⟨k, q1, q2, q3⟩ := hbs' _ b (idx_spec hbL)
        rw [f1 b hbL]
        cases e : out[idx b L]? with
        | none => rw [e] at hk₂; cases hk₂
        | some o =>
          rw [e] at hk₂
          cases o with
          | del => cases hk₂
          | keep =>
            simp only [wrote] at hk₂
            rw [q1] at hk₂
            have hkk := Option.some.inj hk₂
            rw [← hkk]
            exact ⟨k.ren fun b => idx b L, by rw [if_pos hlt]; unfold outAt; rw [e]; exact q2, hμL b hbL, (shape_ren _ _).symm, fun p hB => (brep_ren fun c hc => (hμL c (q3 c hc)).symm).1 hB⟩
          | set k0 =>
            simp only [wrote, Option.some.injEq] at hk₂
            subst hk₂
            exact ⟨k0, by rw [if_pos hlt]; unfold outAt; rw [e], hμL b hbL, shape_ren _ _, fun p hB => (brep_ren fun c hc => hσ c (bndO_ok c2 _ (List.mem_of_getElem? e) c hc)).2 hB⟩
      · by_cases hx : H.next ≤ b ∧ b < H.next + rest.length
        · rw [if_pos hx] at hk₂
          rw [f2 b hx.1 hx.2]
          have hlt : L.length + (b - H.next) < t := by omega
          have hor : rest[b - H.next]? = out[L.length + (b - H.next)]? := by rw [w2, List.getElem?_drop]
          rw [hor] at hk₂
          have hμb : μf b = μ' (L.length + (b - H.next)) := if_pos hx
          cases e : out[L.length + (b - H.next)]? with
          | none => rw [e] at hk₂; cases hk₂
          | some o =>
            rw [e] at hk₂
            cases o with
            | del => cases hk₂
            | keep =>
              simp only [wrote] at hk₂
              rw [w6 b hbL, (hfree b hx.1 hx.2).1] at hk₂
              cases hk₂
            | set k0 =>
              simp only [wrote, Option.some.injEq] at hk₂
              subst hk₂
              exact ⟨k0, by rw [if_pos hlt]; unfold outAt; rw [e], hμb, shape_ren _ _, fun p hB => (brep_ren fun c hc => hσ c (bndO_ok c2 _ (List.mem_of_getElem? e) c hc)).2 hB⟩
        · rw [if_neg hx, w6 b hbL] at hk₂
          rw [f3 b hbL hx]
          have hk0 : look (t + b) (farB L t τ H.bs) = some (k₂.ren τ) := by
            rw [look_far hbL]
            show (H.get b).map _ = _
            rw [hk₂]; rfl
          obtain ⟨p0, hp0, hB0⟩ := hH.blk b k₂ hk₂
          refine ⟨k₂.ren τ, by rw [if_neg (by omega)]; exact hk0, ?_, (shape_ren _ _).symm, fun p hB => (brep_ren fun c hc => ?_).1 hB⟩
          · rw [hfar b p0 hp0]
            show μ' (if b ∈ L then _ else _) = _
            rw [if_neg hbL]
          · obtain ⟨q, hq⟩ := brep_ids hB0 c hc
            exact (hfar c q hq).symm
  · have hb : ¬ (H.next ≤ b ∧ b < H.next + rest.length) := fun hx => by rw [(hfree b hx.1 hx.2).2] at hp; cases hp
    rw [hμold b hb]; exact hp
  · exact hμold b (by omega)
end Go.Proofs.Ytlmhajfbpplpoaa
namespace Go.Proofs.Ytlmhajfbpplpoaa
open Go.RowKit

theorem Loc.frzA (own : List (Nat × Nat)) (f : Nat) : ∀ (i : Nat) (l : List AV), Loc (frzA own f i l)
  | _, [] => Loc.ret _
  | i, x :: r => by
    unfold Go.Proofs.Ytlmhajfbpplpoaa.frzA
    split
    · exact Loc.bind (Loc.frzA own f _ r) fun _ => Loc.ret _
    · exact Loc.bind (Loc.frz _ _) fun _ => Loc.bind (Loc.frzA own f _ r) fun _ => Loc.ret _
theorem frzA_sound (own : List (Nat × Nat)) (f : Nat) : ∀ (i : Nat) (l : List AV) {μ : Mu} {F : Prot} {w : World} {H : AH} {us : List Value} {y : List AV} {H' : AH} {ft : Foot}, RepList μ F w l us → HRep μ F w H.get → H.wf → frzA own f i l H = some (y, H', ft) → Gh μ F w H H' fun μ' F' => RepList μ' F' w y us
  | i, [], μ, F, w, H, us, y, H', ft, hx, hH, hw, h => by
    unfold frzA at h
    obtain ⟨rfl, rfl⟩ := ret_some h
    exact Gh.same hH hx
  | i, x :: r, μ, F, w, H, us, y, H', ft, hx, hH, hw, h => by
    unfold frzA at h
    simp only [RepList] at hx
    obtain ⟨u, t, rfl, hu, ht⟩ := hx
    cases e : ownB own f i with
    | true =>
      rw [e] at h
      obtain ⟨r', H2, f3, f4, h3, h4⟩ := bind_some h
      obtain ⟨rfl, rfl⟩ := ret_some h4
      refine (frzA_sound own f (i + 1) r ht hH hw h3).mono fun μ2 F2 l2 hr2 => ?_
      simp only [RepList]
      exact ⟨u, t, rfl, hu.later l2, hr2⟩
    | false =>
      rw [e] at h
      obtain ⟨x', H1, f1, f2, h1, h2⟩ := bind_some h
      obtain ⟨r', H2, f3, f4, h3, h4⟩ := bind_some h2
      obtain ⟨rfl, rfl⟩ := ret_some h4
      obtain ⟨n1, w1⟩ := frz_next 1000 x hw h1
      have n2 := (Loc.frzA own f (i + 1) r _ _ _ _ w1 h3).next
      refine Gh.trans n1 n2 (frz_sound 1000 x hu hH hw h1) fun μ1 F1 l1 hH1 _ hx1 => ?_
      refine (frzA_sound own f (i + 1) r (ht.later' l1) hH1 w1 h3).mono fun μ2 F2 l2 hr2 => ?_
      simp only [RepList]
      exact ⟨u, t, rfl, hx1.later l2, hr2⟩
/-- What a call of a function is. -/
def SemFn (P : Program) (f : FuncId) : SemT := fun us w Q => Calls P f us.toArray w fun e w' => ∃ u, e = .returned u ∧ Q u w'
theorem semFn_mono (P : Program) (f : FuncId) : MonoS (SemFn P f) := fun _ _ _ _ h k => Calls.mono h fun _ w' ⟨u, h1, h2⟩ => ⟨u, h1, k u w' h2⟩
theorem Post.ghost {μ μ1 : Mu} {F F1 : Prot} {w w' : World} {H H1 H' : AH} {r : AV} {u : Value} (hn : H.next ≤ H1.next) (hn' : H1.next ≤ H'.next) (h1 : Later μ μ1 F F1 w w) (h2 : ∀ b, (b < H.next ∨ H1.next ≤ b) → μ1 b = μ b) (h : Post μ1 F1 w H1 r H' u w') : Post μ F w H r H' u w' := by
  obtain ⟨μ2, F2, k1, k2, k3, k4, k5⟩ := h
  exact ⟨μ2, F2, k1, k2, h1.trans k3, k4.less fun g o hg => (h1.prot g o hg).1, fun b hb => by rw [k5 b (by omega), h2 b (by omega)]⟩
theorem callsM_sound {P : Program} {D : Orc} (own : List (Nat × Nat)) (hD : ∀ f, GoodD (SemFn P f) (D.ask (.fn f))) : SoundG P (callsM D own) := by
  intro f args μ F w H us hv hH hw hf r H' ft h
  unfold callsM at h
  obtain ⟨l, H1, f1, f2, h1, h2⟩ := bind_some h
  have L1 := Loc.frzA own f 0 args _ _ _ _ hw h1
  obtain ⟨μ1, F1, g1, g2, g3, g4⟩ := frzA_sound own f 0 args hv hH hw h1
  have L2 := Loc.callD (D.ask (.fn f)) l _ _ _ _ L1.wf h2
  have := callD_sound (semFn_mono P f) (hD f) l μ1 F1 w H1 us.toList g4 g2 L1.wf (fresh_step hf L1.next L1.top g3) r H' f2 h2
  have := semFn_mono P f _ _ _ _ this fun u w' hp => Post.ghost L1.next L2.next g1 g3 hp
  exact this
theorem Loc.callsM (D : Orc) (own : List (Nat × Nat)) (f : FuncId) (args : List AV) : Loc (callsM D own f args) := Loc.bind (Loc.frzA _ _ _ _) fun _ => Loc.callD _ _
theorem pick_rep {μ : Mu} {F : Prot} {w : World} : ∀ {m : List Bool} {T : List AV} {us : List Value}, RepList μ F w T us → RepList μ F w (pickB m T) (pickB m us)
  | true :: l, x :: r, us, h => by
    simp only [RepList] at h
    obtain ⟨u, t, rfl, h2, h3⟩ := h
    simp only [pickB, RepList]
    exact ⟨u, _, rfl, h2, pick_rep h3⟩
  | false :: l, x :: r, us, h => by
    simp only [RepList] at h
    obtain ⟨u, t, rfl, h2, h3⟩ := h
    simp only [pickB]
    exact pick_rep h3
  | [], x :: r, us, h => by simp only [pickB, RepList]
  | [], [], us, h => by simp only [pickB, RepList]
  | _ :: _, [], us, h => by
    simp only [RepList] at h
    subst h
    simp only [pickB, RepList]
theorem spread_rep {μ : Mu} {F : Prot} {w : World} : ∀ (m : List Bool) (us : List Value) {xs : List AV}, RepList μ F w xs (pickB m us) → RepList μ F w (spreadB m us.length xs) us
  | _, [], xs, _ => by
    cases xs <;> simp only [List.length_nil, spreadB, RepList]
  | true :: l, u :: us, xs, h => by
    simp only [pickB] at h
    cases xs with
    | nil => simp only [RepList] at h; cases h
    | cons x xs =>
      simp only [RepList] at h
      obtain ⟨u', t, e, h2, h3⟩ := h
      simp only [List.cons.injEq] at e
      obtain ⟨rfl, rfl⟩ := e
      simp only [List.length_cons, spreadB, RepList]
      exact ⟨u, us, rfl, h2, spread_rep l us h3⟩
  | false :: l, u :: us, xs, h => by
    simp only [pickB] at h
    simp only [List.length_cons, spreadB, RepList]
    exact ⟨u, us, rfl, trivial, spread_rep l us h⟩
  | [], u :: us, xs, h => by
    simp only [List.length_cons, spreadB, RepList]
    refine ⟨u, us, rfl, trivial, spread_rep [] us (xs := []) ?_⟩
    cases us <;> simp only [pickB, RepList]
theorem length_spread : ∀ (m : List Bool) (n : Nat) (xs : List AV), (spreadB m n xs).length = n
  | _, 0, _ => by cases ‹List Bool› <;> simp [spreadB]
  | true :: l, n + 1, x :: xs => by simp [spreadB, length_spread l n xs]
  | true :: l, n + 1, [] => by simp [spreadB, length_spread l n []]
  | false :: l, n + 1, xs => by simp [spreadB, length_spread l n xs]
  | [], n + 1, xs => by simp [spreadB, length_spread [] n []]
theorem adopt_new {μ : Mu} {F : Prot} {w : World} {H : AH} (hH : HRep μ F w H.get) (hb : H.below H.next) (hf : Fresh μ H) :
    HRep (μ.set H.next ⟨0, 0, 0⟩) F w (AH.get ⟨(H.next, ⟨[], true, true⟩) :: H.bs, H.next + 1, H.top⟩) ∧ Later μ (μ.set H.next ⟨0, 0, 0⟩) F F w w := by
  have hμ : μ H.next = none := hf H.next (Nat.le_refl _) hb
  have hl : Later μ (μ.set H.next ⟨0, 0, 0⟩) F F w w := ⟨fun b p hp => by
    unfold Mu.set
    rw [if_neg (fun e => by rw [e, hμ] at hp; cases hp)]; exact hp, fun g o hg => ⟨hg, rfl⟩⟩
  refine ⟨?_, hl⟩
  have get : ∀ b, AH.get ⟨(H.next, ⟨[], true, true⟩) :: H.bs, H.next + 1, H.top⟩ b = if b = H.next then some ⟨[], true, true⟩ else H.get b := fun b => get_cons _ _ _ _ _ _
  have emp : ∀ i, ¬ (⟨[], true, true⟩ : ABlk).owns 0 i := fun i h => by
    unfold ABlk.owns at h
    simp at h
  have old : ∀ {b : Nat} {p : Pl}, b ≠ H.next → (μ.set H.next ⟨0, 0, 0⟩) b = some p → μ b = some p := fun {b p} hb h => by
    unfold Mu.set at h
    rwa [if_neg hb] at h
  have new : ∀ {p : Pl}, (μ.set H.next ⟨0, 0, 0⟩) H.next = some p → p = ⟨0, 0, 0⟩ := fun {p} h => by
    unfold Mu.set at h
    rw [if_pos rfl] at h
    exact (Option.some.inj h).symm
  refine ⟨fun b k hk => ?_, fun b b' k k' p p' hne hk hk' hp hp' i i' ho ho' => ?_, hH.prot⟩
  · rw [get] at hk
    by_cases e : b = H.next
    · rw [if_pos e] at hk
      cases hk
      refine ⟨⟨0, 0, 0⟩, by unfold Mu.set; rw [if_pos e], ⟨fun i x hx => (by simp at hx), Nat.le_refl _, fun i hi => absurd hi (Nat.not_lt_zero _), fun h => (by cases h), fun i hi => absurd hi (emp i), fun _ => rfl⟩⟩
    · rw [if_neg e] at hk
      obtain ⟨p, hp, hB⟩ := hH.blk b k hk
      exact ⟨p, hl.mu b p hp, hB.step hl (WStep.refl _ _) (fun _ _ _ => rfl) hB.free⟩
  · rw [get] at hk hk'
    by_cases e : b = H.next
    · rw [if_pos e] at hk
      cases hk
      rw [e] at hp
      rw [new hp] at ho
      exact absurd ho (emp i)
    · by_cases e' : b' = H.next
      · rw [if_pos e'] at hk'
        cases hk'
        rw [e'] at hp'
        rw [new hp'] at ho'
        exact absurd ho' (emp i')
      · rw [if_neg e] at hk
        rw [if_neg e'] at hk'
        exact hH.apart b b' k k' p p' hne hk hk' (old e hp) (old e' hp') i i' ho ho'
theorem adoptM_sound : ∀ (l : List (Nat × Nat)) (T : List AV) {μ : Mu} {F : Prot} {w : World} {H : AH} {us : List Value} {T1 : List AV} {H1 : AH} {ft : Foot}, RepList μ F w T us → HRep μ F w H.get → H.wf → Fresh μ H → adoptM l T H = some (T1, H1, ft) → Gh μ F w H H1 fun μ' F' => RepList μ' F' w T1 us
  | [], T, μ, F, w, H, us, T1, H1, ft, hT, hH, hw, hf, h => by
    obtain ⟨rfl, rfl⟩ := ret_some h
    exact Gh.same hH hT
  | (t, e) :: r, T, μ, F, w, H, us, T1, H1, ft, hT, hH, hw, hf, h => by
    unfold adoptM at h
    cases en : nilAt T t with
    | true =>
      rw [en] at h
      have ht := nilAt_eq en
      obtain ⟨b, H2, f1, f2, h1, h2⟩ := bind_some h
      have L1 := Loc.newB _ _ _ _ _ hw h1
      obtain ⟨b1, b2⟩ := newB_run h1
      simp only [Prod.mk.injEq] at b2
      obtain ⟨rfl, rfl, _⟩ := b2
      obtain ⟨g1, g2⟩ := adopt_new hH b1 hf
      have g3 : ∀ b, (b < H.next ∨ H.next + 1 ≤ b) → (μ.set H.next ⟨0, 0, 0⟩) b = μ b := fun b hb => by
        unfold Mu.set
        rw [if_neg (by omega)]
      have hT2 : RepList (μ.set H.next ⟨0, 0, 0⟩) F w (T.set t (.sl H.next 0 0 e)) us := by
        obtain ⟨u, hu, hr⟩ := hT.get ht
        simp only [Rep] at hr
        have hnew : Rep (μ.set H.next ⟨0, 0, 0⟩) F w (.sl H.next 0 0 e) u := by
          simp only [Rep]
          exact ⟨⟨0, 0, 0⟩, by unfold Mu.set; rw [if_pos rfl], .inl ⟨trivial, hr.1⟩⟩
        have hl := hT.length
        refine RepList.mk (by simp [hl]) fun i x hx => ?_
        rw [List.getElem?_set] at hx
        split at hx
        · rename_i e1
          subst e1
          split at hx
          · simp only [Option.some.injEq] at hx
            subst hx
            exact ⟨u, hu, hnew⟩
          · cases hx
        · obtain ⟨v, v1, v2⟩ := hT.get hx
          exact ⟨v, v1, v2.later g2⟩
      have L2 := Loc.adoptM r _ _ _ _ _ L1.wf h2
      refine Gh.trans L1.next L2.next (Q1 := fun μ' F' => μ' = μ.set H.next ⟨0, 0, 0⟩ ∧ F' = F) ⟨_, F, g2, g1, g3, rfl, rfl⟩ ?_
      rintro μ' F' _ _ _ ⟨rfl, rfl⟩
      exact adoptM_sound r _ hT2 g1 L1.wf (fresh_step hf L1.next L1.top g3) h2
    | false =>
      rw [en] at h
      exact adoptM_sound r T hT hH hw hf h
/-- A block under another number. -/
theorem touch_new {μ : Mu} {F : Prot} {w : World} {H : AH} {b : Nat} {k : ABlk} {p : Pl} (hH : HRep μ F w H.get) (hk : H.get b = some k) (hp : μ b = some p) (hb : (H.del b).below H.next) (hf : Fresh μ H) :
    HRep (μ.set H.next p) F w (AH.get ⟨(H.next, k) :: (H.del b).bs, H.next + 1, H.top⟩) ∧ Later μ (μ.set H.next p) F F w w := by
  have hμ : μ H.next = none := hf H.next (Nat.le_refl _) hb
  have hl : Later μ (μ.set H.next p) F F w w := ⟨fun c q hq => by
    unfold Mu.set
    rw [if_neg (fun e => by rw [e, hμ] at hq; cases hq)]; exact hq, fun g o hg => ⟨hg, rfl⟩⟩
  refine ⟨?_, hl⟩
  have get : ∀ c, AH.get ⟨(H.next, k) :: (H.del b).bs, H.next + 1, H.top⟩ c = if c = H.next then some k else if c = b then none else H.get c := fun c => by
    rw [get_cons, AH.get_del]
  have old : ∀ {c : Nat} {q : Pl}, c ≠ H.next → (μ.set H.next p) c = some q → μ c = some q := fun {c q} hc h => by
    unfold Mu.set at h
    rwa [if_neg hc] at h
  have new : ∀ {q : Pl}, (μ.set H.next p) H.next = some q → q = p := fun {q} h => by
    unfold Mu.set at h
    rw [if_pos rfl] at h
    exact (Option.some.inj h).symm
  -- every block of the new heap is one of the old, at the same place
  have src : ∀ c kc, AH.get ⟨(H.next, k) :: (H.del b).bs, H.next + 1, H.top⟩ c = some kc → ∃ c0, H.get c0 = some kc ∧ (∀ q, (μ.set H.next p) c = some q → μ c0 = some q) ∧ (μ.set H.next p) c = μ c0 ∧ (c = H.next ∧ c0 = b ∨ c ≠ H.next ∧ c ≠ b ∧ c0 = c) := fun c kc h => by
    rw [get] at h
    by_cases e : c = H.next
    · rw [if_pos e] at h
      cases h
      refine ⟨b, hk, fun q hq => ?_, ?_, .inl ⟨e, rfl⟩⟩
      · rw [e] at hq; rw [new hq]; exact hp
      · unfold Mu.set; rw [if_pos e, hp]
    · rw [if_neg e] at h
      by_cases e2 : c = b
      · rw [if_pos e2] at h; cases h
      · rw [if_neg e2] at h
        refine ⟨c, h, fun q hq => old e hq, ?_, .inr ⟨e, e2, rfl⟩⟩
        unfold Mu.set; rw [if_neg e]
  refine ⟨fun c kc hc => ?_, fun c c' kc kc' q q' hne hc hc' hq hq' i i' ho ho' => ?_, hH.prot⟩
  · obtain ⟨c0, h0, h1, h2, _⟩ := src c kc hc
    obtain ⟨q, hq, hB⟩ := hH.blk c0 kc h0
    exact ⟨q, by rw [h2]; exact hq, hB.step hl (WStep.refl _ _) (fun _ _ _ => rfl) hB.free⟩
  · obtain ⟨c0, h0, h1, _, h3⟩ := src c kc hc
    obtain ⟨c0', h0', h1', _, h3'⟩ := src c' kc' hc'
    refine hH.apart c0 c0' kc kc' q q' ?_ h0 h0' (h1 q hq) (h1' q' hq') i i' ho ho'
    intro e
    rcases h3 with ⟨e1, e2⟩ | ⟨e1, e2, e3⟩ <;> rcases h3' with ⟨e1', e2'⟩ | ⟨e1', e2', e3'⟩
    · exact hne (e1.trans e1'.symm)
    · exact e2' (by rw [← e3', ← e, e2])
    · exact e2 (by rw [← e3, e, e2'])
    · exact hne (by rw [← e3, ← e3', e])
theorem touchS_sound (x : AV) {μ : Mu} {F : Prot} {w : World} {H : AH} {u : Value} {y : AV} {H1 : AH} {ft : Foot} (hx : Rep μ F w x u) (hH : HRep μ F w H.get) (hw : H.wf) (hf : Fresh μ H) (h : touchS x H = some (y, H1, ft)) : Gh μ F w H H1 fun μ' F' => Rep μ' F' w y u := by
  unfold touchS at h
  split at h
  · rename_i b o n e
    obtain ⟨k, H2, f1, f2, h1, h2⟩ := bind_some h
    obtain ⟨hk, e1⟩ := getB_some h1
    rw [e1] at h2
    cases ex : k.ex with
    | false =>
      rw [ex] at h2
      obtain ⟨rfl, rfl⟩ := ret_some h2
      exact Gh.same hH hx
    | true =>
      rw [ex] at h2
      obtain ⟨_, H3, f3, f4, h3, h4⟩ := bind_some h2
      obtain ⟨c, H4, f5, f6, h5, h6⟩ := bind_some h4
      obtain ⟨rfl, rfl⟩ := ret_some h6
      have e3 : H3 = H.del b := by
        unfold AM.delB at h3
        rw [hk] at h3
        simp only [Option.some.injEq, Prod.mk.injEq] at h3
        exact h3.2.1.symm
      subst e3
      obtain ⟨b1, b2⟩ := newB_run h5
      simp only [Prod.mk.injEq] at b2
      obtain ⟨rfl, rfl, _⟩ := b2
      simp only [Rep] at hx
      obtain ⟨p, hp, hu⟩ := hx
      obtain ⟨g1, g2⟩ := touch_new hH hk hp b1 hf
      refine ⟨μ.set H.next p, F, g2, g1, fun c hc => ?_, ?_⟩
      · unfold Mu.set
        have hc : c < H.next ∨ H.next + 1 ≤ c := hc
        rw [if_neg (by omega)]
      · simp only [Rep]
        refine ⟨p, ?_, hu⟩
        show (μ.set H.next p) H.next = some p
        unfold Mu.set
        rw [if_pos rfl]
  · obtain ⟨rfl, rfl⟩ := ret_some h
    exact Gh.same hH hx
theorem Gh.fresh {μ : Mu} {F : Prot} {w : World} {H H1 : AH} {Q : Mu → Prot → Prop} (hf : Fresh μ H) (hn : H.next ≤ H1.next) (ht : H1.top = H.top) (h : Gh μ F w H H1 Q) : Gh μ F w H H1 fun μ' F' => Q μ' F' ∧ Fresh μ' H1 := by
  obtain ⟨μ', F', h1, h2, h3, h4⟩ := h
  exact ⟨μ', F', h1, h2, h3, h4, fresh_step hf hn ht h3⟩
theorem touchL_sound : ∀ (l : List AV) {μ : Mu} {F : Prot} {w : World} {H : AH} {us : List Value} {y : List AV} {H1 : AH} {ft : Foot}, RepList μ F w l us → HRep μ F w H.get → H.wf → Fresh μ H → touchL l H = some (y, H1, ft) → Gh μ F w H H1 fun μ' F' => RepList μ' F' w y us
  | [], μ, F, w, H, us, y, H1, ft, hx, hH, hw, hf, h => by
    obtain ⟨rfl, rfl⟩ := ret_some h
    exact Gh.same hH hx
  | x :: r, μ, F, w, H, us, y, H1, ft, hx, hH, hw, hf, h => by
    unfold touchL at h
    obtain ⟨x', H2, f1, f2, h1, h2⟩ := bind_some h
    obtain ⟨r', H3, f3, f4, h3, h4⟩ := bind_some h2
    obtain ⟨rfl, rfl⟩ := ret_some h4
    simp only [RepList] at hx
    obtain ⟨u, t, rfl, hu, ht⟩ := hx
    have L1 := Loc.touchS x _ _ _ _ hw h1
    have L2 := Loc.touchL r _ _ _ _ L1.wf h3
    refine Gh.trans L1.next L2.next (Gh.fresh hf L1.next L1.top (touchS_sound x hu hH hw hf h1)) fun μ1 F1 l1 hH1 _ hx1 => ?_
    refine (touchL_sound r (ht.later' l1) hH1 L1.wf hx1.2 h3).mono fun μ2 F2 l2 hr2 => ?_
    simp only [RepList]
    exact ⟨u, t, rfl, hx1.1.later l2, hr2⟩
/-- A block told in other words. -/
theorem hrep_same {μ : Mu} {F : Prot} {w : World} {H : Nat → Option ABlk} {b : Nat} {k k' : ABlk} {p : Pl} (hH : HRep μ F w H) (hk : H b = some k) (hp : μ b = some p) (hs : Shape k k') (hB : BRep μ F w p k') : HRep μ F w fun c => if c = b then some k' else H c := by
  have src : ∀ {c : Nat} {kc : ABlk}, (if c = b then some k' else H c) = some kc → ∃ k0, H c = some k0 ∧ ∀ room i, kc.owns room i → k0.owns room i := fun {c kc} h => by
    by_cases e : c = b
    · rw [if_pos e] at h
      cases h
      exact ⟨k, by rw [e]; exact hk, fun room i => (hs.owns room i).1⟩
    · rw [if_neg e] at h
      exact ⟨kc, h, fun _ _ h => h⟩
  refine ⟨fun c kc hc => ?_, fun c c' kc kc' q q' hne hc hc' hq hq' i i' ho ho' => ?_, hH.prot⟩
  · have hc : (if c = b then some k' else H c) = some kc := hc
    by_cases e : c = b
    · rw [if_pos e] at hc
      cases hc
      exact ⟨p, by rw [e]; exact hp, hB⟩
    · rw [if_neg e] at hc
      exact hH.blk c kc hc
  · obtain ⟨k0, h0, h1⟩ := src hc
    obtain ⟨k0', h0', h1'⟩ := src hc'
    exact hH.apart c c' k0 k0' q q' hne h0 h0' hq hq' i i' (h1 _ _ ho) (h1' _ _ ho')
theorem touchB_sound (b : Nat) {μ : Mu} {F : Prot} {w : World} {H : AH} {y : Unit} {H1 : AH} {ft : Foot} (hH : HRep μ F w H.get) (hw : H.wf) (hf : Fresh μ H) (h : touchB b H = some (y, H1, ft)) : Gh μ F w H H1 fun _ _ => True := by
  unfold touchB at h
  obtain ⟨k, H2, f1, f2, h1, h2⟩ := bind_some h
  obtain ⟨hk, e1⟩ := getB_some h1
  rw [e1] at h2
  cases kex : k.ex <;> cases kst : k.st <;> rw [kex, kst] at h2 <;> try (obtain ⟨_, rfl⟩ := ret_some h2; exact Gh.same hH trivial)
  obtain ⟨cs, H3, f3, f4, h3, h4⟩ := bind_some h2
  obtain ⟨k2, H4, f5, f6, h5, h6⟩ := bind_some h4
  obtain ⟨hk2, e4⟩ := getB_some h5
  rw [e4] at h6
  cases hex : k2.ex <;> cases hlen : Nat.beq cs.length k2.cells.length <;> rw [hex, hlen] at h6 <;> try exact (fail_some h6).elim
  obtain ⟨e5, _⟩ := setB_run h6
  have hlen' : cs.length = k2.cells.length := Nat.eq_of_beq_eq_true hlen
  obtain ⟨p, hp, hB⟩ := hH.blk b k hk
  obtain ⟨us, r1, r2⟩ := read_list (g := p.g) (cs := k.cells) (o := p.o) (μ := μ) (F := F) (w := w) hB.cell
  have L1 := Loc.touchL k.cells _ _ _ _ hw h3
  have hG := touchL_sound k.cells r1 hH hw hf h3
  have hn3 : H3.next ≤ H1.next := by rw [e5]; exact Nat.le_refl _
  refine Gh.trans L1.next hn3 hG fun μ1 F1 l1 hH1 _ hr1 => ?_
  have hp1 := l1.mu _ _ hp
  obtain ⟨p2, hp2, hB2⟩ := hH1.blk b k2 hk2
  rw [hp1] at hp2
  cases hp2
  have hs : Shape k2 { k2 with cells := cs } := ⟨hlen', rfl, rfl⟩
  have hBn : BRep μ1 F1 w p { k2 with cells := cs } := brep_of hs hB2 (fun i x hi => by
    obtain ⟨v, v1, v2⟩ := hr1.get hi
    exact ⟨v, r2 i v v1, v2⟩) fun he => absurd (hex.symm.trans he) (by simp)
  refine ⟨μ1, F1, Later.refl _ _ _, ?_, fun _ _ => rfl, trivial⟩
  have : H1.get = fun c => if c = b then some { k2 with cells := cs } else H3.get c := by
    funext c
    rw [e5, AH.get_put, hex]
  rw [this]
  exact hrep_same hH1 hk2 hp1 hs hBn
theorem touchI_sound : ∀ (l : List Nat) {μ : Mu} {F : Prot} {w : World} {H : AH} {y : Unit} {H1 : AH} {ft : Foot}, HRep μ F w H.get → H.wf → Fresh μ H → touchI l H = some (y, H1, ft) → Gh μ F w H H1 fun _ _ => True
  | [], μ, F, w, H, y, H1, ft, hH, hw, hf, h => by
    obtain ⟨_, rfl⟩ := ret_some h
    exact Gh.same hH trivial
  | b :: r, μ, F, w, H, y, H1, ft, hH, hw, hf, h => by
    unfold touchI at h
    obtain ⟨_, H2, f1, f2, h1, h2⟩ := bind_some h
    have L1 := Loc.touchB b _ _ _ _ hw h1
    have L2 := Loc.touchI r _ _ _ _ L1.wf h2
    exact Gh.trans L1.next L2.next (Gh.fresh hf L1.next L1.top (touchB_sound b hH hw hf h1)) fun μ1 F1 l1 hH1 _ hx1 => touchI_sound r hH1 L1.wf hx1.2 h2
theorem touchV_sound (x : AV) {μ : Mu} {F : Prot} {w : World} {H : AH} {u : Value} {y : AV} {H1 : AH} {ft : Foot} (hx : Rep μ F w x u) (hH : HRep μ F w H.get) (hw : H.wf) (hf : Fresh μ H) (h : touchV x H = some (y, H1, ft)) : Gh μ F w H H1 fun μ' F' => Rep μ' F' w y u := by
  unfold touchV at h
  split at h
  · exact touchS_sound _ hx hH hw hf h
  · obtain ⟨cs', H2, f1, f2, h1, h2⟩ := bind_some h
    obtain ⟨_, H3, f3, f4, h3, h4⟩ := bind_some h2
    obtain ⟨rfl, rfl⟩ := ret_some h4
    simp only [Rep] at hx
    obtain ⟨us, rfl, hr⟩ := hx
    have L1 := Loc.touchL _ _ _ _ _ hw h1
    have L2 := Loc.touchI _ _ _ _ _ L1.wf h3
    refine Gh.trans L1.next L2.next (Gh.fresh hf L1.next L1.top (touchL_sound _ hr hH hw hf h1)) fun μ1 F1 l1 hH1 _ hx1 => ?_
    refine (touchI_sound _ hH1 L1.wf hx1.2 h3).mono fun μ2 F2 l2 _ => ?_
    simp only [Rep]
    exact ⟨us, rfl, hx1.1.later' l2⟩
  · obtain ⟨_, H3, f3, f4, h3, h4⟩ := bind_some h
    obtain ⟨rfl, rfl⟩ := ret_some h4
    exact (touchI_sound _ hH hw hf h3).mono fun μ2 F2 l2 _ => hx.later l2
theorem touchA_sound : ∀ (l : List AV) {μ : Mu} {F : Prot} {w : World} {H : AH} {us : List Value} {y : List AV} {H1 : AH} {ft : Foot}, RepList μ F w l us → HRep μ F w H.get → H.wf → Fresh μ H → touchA l H = some (y, H1, ft) → Gh μ F w H H1 fun μ' F' => RepList μ' F' w y us
  | [], μ, F, w, H, us, y, H1, ft, hx, hH, hw, hf, h => by
    obtain ⟨rfl, rfl⟩ := ret_some h
    exact Gh.same hH hx
  | x :: r, μ, F, w, H, us, y, H1, ft, hx, hH, hw, hf, h => by
    unfold touchA at h
    obtain ⟨x', H2, f1, f2, h1, h2⟩ := bind_some h
    obtain ⟨r', H3, f3, f4, h3, h4⟩ := bind_some h2
    obtain ⟨rfl, rfl⟩ := ret_some h4
    simp only [RepList] at hx
    obtain ⟨u, t, rfl, hu, ht⟩ := hx
    have L1 := Loc.touchV x _ _ _ _ hw h1
    have L2 := Loc.touchA r _ _ _ _ L1.wf h3
    refine Gh.trans L1.next L2.next (Gh.fresh hf L1.next L1.top (touchV_sound x hu hH hw hf h1)) fun μ1 F1 l1 hH1 _ hx1 => ?_
    refine (touchA_sound r (ht.later' l1) hH1 L1.wf hx1.2 h3).mono fun μ2 F2 l2 hr2 => ?_
    simp only [RepList]
    exact ⟨u, t, rfl, hx1.1.later l2, hr2⟩
theorem frzB_sound (b : Nat) {μ : Mu} {F : Prot} {w : World} {H : AH} {y : Unit} {H1 : AH} {ft : Foot} (hH : HRep μ F w H.get) (hw : H.wf) (h : frzB b H = some (y, H1, ft)) : Gh μ F w H H1 fun _ _ => True := by
  unfold frzB at h
  obtain ⟨k, H2, f1, f2, h1, h2⟩ := bind_some h
  obtain ⟨hk, e1⟩ := getB_some h1
  rw [e1] at h2
  cases kex : k.ex <;> cases kst : k.st <;> rw [kex, kst] at h2 <;> try (obtain ⟨_, rfl⟩ := ret_some h2; exact Gh.same hH trivial)
  obtain ⟨cs, H3, f3, f4, h3, h4⟩ := bind_some h2
  obtain ⟨k2, H4, f5, f6, h5, h6⟩ := bind_some h4
  obtain ⟨hk2, e4⟩ := getB_some h5
  rw [e4] at h6
  cases hex : k2.ex <;> cases hlen : Nat.beq cs.length k2.cells.length <;> rw [hex, hlen] at h6 <;> try exact (fail_some h6).elim
  obtain ⟨e5, _⟩ := setB_run h6
  have hlen' : cs.length = k2.cells.length := Nat.eq_of_beq_eq_true hlen
  obtain ⟨p, hp, hB⟩ := hH.blk b k hk
  obtain ⟨us, r1, r2⟩ := read_list (g := p.g) (cs := k.cells) (o := p.o) (μ := μ) (F := F) (w := w) hB.cell
  have L1 := Loc.frzL 1000 k.cells _ _ _ _ hw h3
  have hG := frzL_sound 1000 k.cells r1 hH hw h3
  have hn3 : H3.next ≤ H1.next := by rw [e5]; exact Nat.le_refl _
  refine Gh.trans L1.next hn3 hG fun μ1 F1 l1 hH1 _ hr1 => ?_
  have hp1 := l1.mu _ _ hp
  obtain ⟨p2, hp2, hB2⟩ := hH1.blk b k2 hk2
  rw [hp1] at hp2
  cases hp2
  have hs : Shape k2 { k2 with cells := cs } := ⟨hlen', rfl, rfl⟩
  have hBn : BRep μ1 F1 w p { k2 with cells := cs } := brep_of hs hB2 (fun i x hi => by
    obtain ⟨v, v1, v2⟩ := hr1.get hi
    exact ⟨v, r2 i v v1, v2⟩) fun he => absurd (hex.symm.trans he) (by simp)
  refine ⟨μ1, F1, Later.refl _ _ _, ?_, fun _ _ => rfl, trivial⟩
  have : H1.get = fun c => if c = b then some { k2 with cells := cs } else H3.get c := by
    funext c
    rw [e5, AH.get_put, hex]
  rw [this]
  exact hrep_same hH1 hk2 hp1 hs hBn
theorem frzT_sound : ∀ (l : List Nat) (T : List AV) {μ : Mu} {F : Prot} {w : World} {H : AH} {us : List Value} {T1 : List AV} {H1 : AH} {ft : Foot}, RepList μ F w T us → HRep μ F w H.get → H.wf → frzT l T H = some (T1, H1, ft) → Gh μ F w H H1 fun μ' F' => RepList μ' F' w T1 us
  | [], T, μ, F, w, H, us, T1, H1, ft, hT, hH, hw, h => by
    obtain ⟨rfl, rfl⟩ := ret_some h
    exact Gh.same hH hT
  | t :: r, T, μ, F, w, H, us, T1, H1, ft, hT, hH, hw, h => by
    unfold frzT at h
    cases et : T[t]? with
    | none =>
      rw [et] at h
      exact frzT_sound r T hT hH hw h
    | some x =>
      rw [et] at h
      have gen : ((frz 1000 x).bind fun y => frzT r (T.set t y)) H = some (T1, H1, ft) → Gh μ F w H H1 fun μ' F' => RepList μ' F' w T1 us := fun h => by
        obtain ⟨y, H2, f1, f2, h1, h2⟩ := bind_some h
        have L1 := Loc.frz 1000 x _ _ _ _ hw h1
        have L2 := Loc.frzT r _ _ _ _ _ L1.wf h2
        obtain ⟨u, hu, hx⟩ := hT.get et
        refine Gh.trans L1.next L2.next (frz_sound 1000 x hx hH hw h1) fun μ1 F1 l1 hH1 _ hy => ?_
        refine frzT_sound r _ (RepList.mk (by simp [hT.length]) fun i z hz => ?_) hH1 L1.wf h2
        rw [List.getElem?_set] at hz
        split at hz
        · rename_i e
          subst e
          split at hz
          · simp only [Option.some.injEq] at hz
            subst hz
            exact ⟨u, hu, hy⟩
          · cases hz
        · obtain ⟨v, v1, v2⟩ := hT.get hz
          exact ⟨v, v1, v2.later l1⟩
      cases x with
      | ptr b o =>
        obtain ⟨_, H2, f1, f2, h1, h2⟩ := bind_some h
        have L1 := Loc.frzB b _ _ _ _ hw h1
        have L2 := Loc.frzT r _ _ _ _ _ L1.wf h2
        exact Gh.trans L1.next L2.next (frzB_sound b hH hw h1) fun μ1 F1 l1 hH1 _ _ => frzT_sound r T (hT.later' l1) hH1 L1.wf h2
      | _ => exact gen h
theorem frzT_length : ∀ (l : List Nat) (T : List AV) {H : AH} {T1 : List AV} {H1 : AH} {ft : Foot}, frzT l T H = some (T1, H1, ft) → T1.length = T.length
  | [], T, H, T1, H1, ft, h => by
    obtain ⟨rfl, rfl⟩ := ret_some h
    rfl
  | t :: r, T, H, T1, H1, ft, h => by
    unfold frzT at h
    cases et : T[t]? with
    | none =>
      rw [et] at h
      exact frzT_length r T h
    | some x =>
      rw [et] at h
      have gen : ((frz 1000 x).bind fun y => frzT r (T.set t y)) H = some (T1, H1, ft) → T1.length = T.length := fun h => by
        obtain ⟨y, H2, f1, f2, h1, h2⟩ := bind_some h
        rw [frzT_length r _ h2, List.length_set]
      cases x with
      | ptr b o =>
        obtain ⟨_, H2, f1, f2, h1, h2⟩ := bind_some h
        exact frzT_length r T h2
      | _ => exact gen h
theorem delB_sound (b : Nat) {μ : Mu} {F : Prot} {w : World} {H : AH} {y : Unit} {H1 : AH} {ft : Foot} (hH : HRep μ F w H.get) (h : AM.delB b H = some (y, H1, ft)) : Gh μ F w H H1 fun _ _ => True := by
  have e : H1 = H.del b := by
    unfold AM.delB at h
    split at h
    · simp only [Option.some.injEq, Prod.mk.injEq] at h
      exact h.2.1.symm
    · cases h
  subst e
  refine ⟨μ, F, Later.refl _ _ _, ⟨fun c k hc => ?_, fun c c' k k' p p' hne hc hc' => ?_, hH.prot⟩, fun _ _ => rfl, trivial⟩
  · rw [AH.get_del] at hc
    split at hc
    · cases hc
    · exact hH.blk c k hc
  · rw [AH.get_del] at hc hc'
    split at hc
    · cases hc
    · split at hc'
      · cases hc'
      · exact hH.apart c c' k k' p p' hne hc hc'
theorem delT_sound : ∀ (l : List Nat) (T : List AV) {μ : Mu} {F : Prot} {w : World} {H : AH} {y : Unit} {H1 : AH} {ft : Foot}, HRep μ F w H.get → H.wf → delT l T H = some (y, H1, ft) → Gh μ F w H H1 fun _ _ => True
  | [], T, μ, F, w, H, y, H1, ft, hH, hw, h => by
    obtain ⟨_, rfl⟩ := ret_some h
    exact Gh.same hH trivial
  | t :: r, T, μ, F, w, H, y, H1, ft, hH, hw, h => by
    have gen : ∀ b, ((AM.delB b).bind fun _ => delT r T) H = some (y, H1, ft) → Gh μ F w H H1 fun _ _ => True := fun b h => by
      obtain ⟨_, H2, f1, f2, h1, h2⟩ := bind_some h
      have L1 := Loc.delB b _ _ _ _ hw h1
      have L2 := Loc.delT r T _ _ _ _ L1.wf h2
      exact Gh.trans L1.next L2.next (delB_sound b hH h1) fun μ1 F1 l1 hH1 _ _ => delT_sound r T hH1 L1.wf h2
    unfold delT at h
    cases et : T[t]? with
    | none => rw [et] at h; exact delT_sound r T hH hw h
    | some x =>
      rw [et] at h
      cases x with
      | sl b o n e => exact gen b h
      | ptr b o => exact gen b h
      | _ => exact delT_sound r T hH hw h
end Go.Proofs.Ytlmhajfbpplpoaa
