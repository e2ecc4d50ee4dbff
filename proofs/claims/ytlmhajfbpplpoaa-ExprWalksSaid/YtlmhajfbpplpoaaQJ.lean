/-
  Pieces of resolved code run as the pieces of code do. No program in sight.
  Functions and loops asked about by name: what is asked is right. No program in sight.
  The limit of what can be asked: functions and loops by their code, as equations in plain Lean. No program in sight.
-/
import Derived.Test.YtlmhajfbpplpoaaQ6
set_option linter.unusedSectionVars false
set_option linter.unusedSimpArgs false
set_option linter.unusedVariables false
namespace Go.Proofs.Ytlmhajfbpplpoaa
open Go.RowKit

/-- The loops of a piece of code, in order. -/
def lpsC : Code → List Code
  | .seq a b => lpsC a ++ lpsC b
  | .cond _ a b => lpsC a ++ lpsC b
  | .block _ c => lpsC c
  | .loop c => c :: lpsC c
  | _ => []
theorem lps_length (P : Program) (ents : Nat) (hs : Hints) : ∀ (c : Code) (n : Nat), (compC P ents hs c n).2.length = (lpsC c).length
  | .skip, n => rfl
  | .region .., n => rfl
  | .seq a b, n => by
    have h1 := lps_length P ents hs a n
    have h2 := lps_length P ents hs b (n + (compC P ents hs a n).2.length)
    simp only [compC, lpsC, List.length_append, h1] at h2 ⊢
    rw [h2]
  | .cond c a b, n => by
    have h1 := lps_length P ents hs a n
    have h2 := lps_length P ents hs b (n + (compC P ents hs a n).2.length)
    simp only [compC, lpsC, List.length_append, h1] at h2 ⊢
    rw [h2]
  | .block id c, n => by
    have h1 := lps_length P ents hs c n
    simp only [compC, lpsC, h1]
  | .loop c, n => by
    have h1 := lps_length P ents hs c (n + 1)
    unfold compC lpsC
    simp only [List.length_cons]
    cases hs[n]? <;> simp [h1]
  | .exit _, n => rfl
  | .ret, n => rfl
  | .rangeFunc .., n => rfl
  | .scope _, n => rfl
  | .label _, n => rfl
  | .goto _, n => rfl
  | .refuse _, n => rfl
/-- What is asked about a loop is right. -/
def SoundL (P : Program) (h : LpH) (Λ : List AV → AM (AX × List AV)) (c : Code) : Prop := ∀ (xs : List AV) (H : AH) (x : AX) (ys : List AV) (H' : AH) (ft : Foot), Λ xs H = some ((x, ys), H', ft) →
  ∀ (μ : Mu) (F : Prot) (w : World) (a : Act), a.tmps.toList.length = h.n → RepList μ F w xs (pickB h.live a.tmps.toList) → a.defers = [] → HRep μ F w H.get → H.wf → Fresh μ H → (Code.loop c).wp P (EndsA μ F w H fun x1 T1 H1 => x1 = x ∧ T1 = spreadB (h.out x) h.n ys ∧ H1 = H') a w
section
variable {P : Program} {Γ : FuncId → List AV → AM AV} {ents : Nat}
theorem core_le (hE : EntOk P ents) (ops : Array Oper) (o : Oper) (T : List AV) : Le (coreM realA Γ (compO P ents ops o) T) (coreA P Γ ops o T) := by
  unfold compO
  cases e : compG ops o.guard with
  | none =>
    simp only
    intro H r h
    unfold coreM wantM at h
    simp only at h
    cases h
  | some g =>
    simp only
    intro H r h
    unfold coreM at h
    cases e2 : wantM realA T g with
    | none => simp only [e2] at h; cases h
    | some t =>
      simp only [e2] at h
      have hw : wantedA ops o T = some t := by
        unfold compG at e
        unfold wantedA
        unfold wantM at e2
        cases eg : o.guard with
        | none =>
          rw [eg] at e
          simp only [Option.some.injEq] at e
          rw [← e] at e2
          exact e2
        | some jw =>
          obtain ⟨j, want⟩ := jw
          rw [eg] at e
          simp only at e ⊢
          unfold yieldsA
          cases ed : (ops[j]?).bind (·.dst) with
          | none => rw [ed] at e; cases e
          | some d =>
            rw [ed] at e
            simp only [Option.some.injEq] at e
            rw [← e] at e2
            simp only [Option.bind_some] at e2 ⊢
            cases et : T[d]? with
            | none => rw [et] at e2; cases e2
            | some v =>
              rw [et] at e2
              cases v with
              | v z =>
                cases z with
                | bool b => cases want <;> (simp only [Option.some.injEq] at e2; subst e2; simp [realA, realA0, Ar.not])
                | tuple vs => simp only [Option.some.injEq] at e2; subst e2; cases want <;> rfl
                | _ => cases e2
              | _ => cases e2
      unfold coreA
      rw [hw]
      cases t with
      | true => exact mop_aop hE o T H r h
      | false => exact h
theorem run_le (hE : EntOk P ents) (ops : Array Oper) : ∀ (l : List Oper) {T : List AV} {H : AH} {r : List AV × AH × List Foot}, runM realA Γ (l.map (compO P ents ops)) T H = some r → runL P Γ ops l T H = some r
  | [], T, H, r, h => h
  | o :: l, T, H, r, h => by
    simp only [List.map_cons, runM] at h
    simp only [runL, stepA]
    cases e : coreM realA Γ (compO P ents ops o) T H with
    | none => rw [e] at h; cases h
    | some q =>
      obtain ⟨v, H1, f⟩ := q
      rw [e] at h
      rw [core_le hE ops o T H _ e]
      simp only at h ⊢
      have hd : (compO P ents ops o).dst = o.dst := by unfold compO; split <;> rfl
      rw [hd] at h
      cases e2 : runM realA Γ (l.map (compO P ents ops)) (dstSet T o.dst v) H1 with
      | none => rw [e2] at h; cases h
      | some q2 =>
        rw [e2] at h
        rw [run_le hE ops l e2]
        exact h
theorem EndsA.ghost {μ μ1 : Mu} {F F1 : Prot} {w : World} {H H1 : AH} {Q : AX → List AV → AH → Prop} {e : Exit} {a' : Act} {w' : World} (hn : H.next ≤ H1.next) (ht : H1.top = H.top) (h1 : Later μ μ1 F F1 w w) (h2 : ∀ b, (b < H.next ∨ H1.next ≤ b) → μ1 b = μ b) (h : EndsA μ1 F1 w H1 Q e a' w') : EndsA μ F w H Q e a' w' := by
  obtain ⟨x, T', H', e1, hq, hg⟩ := h
  exact ⟨x, T', H', e1, hq, GoodA.trans h1 (WStep.refl _ _) h2 hn ht hg⟩
/-- The end of a piece, known. -/
abbrev AtE (x : AX) (T' : List AV) (H' : AH) : AX → List AV → AH → Prop := fun x1 T1 H1 => x1 = x ∧ T1 = T' ∧ H1 = H'
theorem evC_sound {Λ : Nat → List AV → AM (AX × List AV)} (hm : P.follows .mixedOrders = true) (hE : EntOk P ents) (hΓ : SoundG P Γ) (hL : ∀ f args, Loc (Γ f args)) (hLΛ : ∀ i T, Loc (Λ i T)) (hs : Hints) : ∀ (c : Code) (n : Nat), okC c = true → (∀ j c' q, (lpsC c)[j]? = some c' → hs[n + j]? = some q → SoundL P q (Λ (n + j)) c') →
    ∀ {T : List AV} {H : AH} {x : AX} {T' : List AV} {H' : AH} {ft : Foot}, evC realA Γ Λ (compC P ents hs c n).1 T H = some ((x, T'), H', ft) → ∀ {μ : Mu} {F : Prot} {w : World} {a : Act}, RT μ F w T a → HRep μ F w H.get → H.wf → Fresh μ H → c.wp P (EndsA μ F w H (AtE x T' H')) a w
  | .skip, n, _, _, T, H, x, T', H', ft, h, μ, F, w, a, hT, hH, hw, hf => by
    obtain ⟨e, rfl⟩ := ret_some h
    simp only [Prod.mk.injEq] at e
    obtain ⟨rfl, rfl⟩ := e
    exact wp_skip ⟨.normal, _, _, rfl, ⟨rfl, rfl, rfl⟩, GoodA.refl hT hH hw⟩
  | .exit id, n, _, _, T, H, x, T', H', ft, h, μ, F, w, a, hT, hH, hw, hf => by
    obtain ⟨e, rfl⟩ := ret_some h
    simp only [Prod.mk.injEq] at e
    obtain ⟨rfl, rfl⟩ := e
    exact wp_exit ⟨.exit id, _, _, rfl, ⟨rfl, rfl, rfl⟩, GoodA.refl hT hH hw⟩
  | .ret, n, _, _, T, H, x, T', H', ft, h, μ, F, w, a, hT, hH, hw, hf => by
    obtain ⟨e, rfl⟩ := ret_some h
    simp only [Prod.mk.injEq] at e
    obtain ⟨rfl, rfl⟩ := e
    exact wp_ret ⟨.ret, _, _, rfl, ⟨rfl, rfl, rfl⟩, GoodA.refl hT hH hw⟩
  | .region id ops draw, n, hok, _, T, H, x, T', H', ft, h, μ, F, w, a, hT, hH, hw, hf => by
    have h : regM realA Γ (ops.toList.map (compO P ents ops)) (if draw then some (bef ops) else none) T H = some ((x, T'), H', ft) := h
    unfold regM at h
    cases e : runM realA Γ (ops.toList.map (compO P ents ops)) T H with
    | none => rw [e] at h; cases h
    | some q =>
      obtain ⟨T1, H1, fs⟩ := q
      rw [e] at h
      have h1 := run_le hE ops _ e
      have key : x = .normal ∧ T' = T1 ∧ H' = H1 ∧ (draw = true → heapOk (bef ops) fs = true) := by
        cases draw with
        | false =>
          simp only [Bool.false_eq_true, if_false, Option.some.injEq, Prod.mk.injEq] at h
          exact ⟨h.1.1.symm, h.1.2.symm, h.2.1.symm, fun h => by cases h⟩
        | true =>
          simp only [if_true] at h
          cases eh : heapOk (bef ops) fs with
          | false => rw [eh] at h; cases h
          | true =>
            rw [eh] at h
            simp only [Option.some.injEq, Prod.mk.injEq] at h
            exact ⟨h.1.1.symm, h.1.2.symm, h.2.1.symm, fun _ => rfl⟩
      obtain ⟨rfl, rfl, rfl, k⟩ := key
      exact aw_sound hm hΓ hL (.region id ops draw) _ T H hok (by simp only [aw]; exact ⟨_, _, fs, h1, k, rfl, rfl, rfl⟩) hT hH hw hf
  | .seq y z, n, hok, hl, T, H, x, T', H', ft, h, μ, F, w, a, hT, hH, hw, hf => by
    have h : ((evC realA Γ Λ (compC P ents hs y n).1 T).bind fun r => match r.1 with
      | .normal => evC realA Γ Λ (compC P ents hs z (n + (compC P ents hs y n).2.length)).1 r.2
      | ax => AM.ret (ax, r.2)) H = some ((x, T'), H', ft) := h
    simp only [okC, Bool.and_eq_true] at hok
    obtain ⟨⟨x1, T1⟩, H1, f1, f2, h1, h2⟩ := bind_some h
    have hly : ∀ j c' q, (lpsC y)[j]? = some c' → hs[n + j]? = some q → SoundL P q (Λ (n + j)) c' := fun j c' q hj => hl j c' q (by
      show (lpsC y ++ lpsC z)[j]? = some c'
      rw [List.getElem?_append_left (List.getElem?_eq_some_iff.1 hj).1]; exact hj)
    have hlz : ∀ j c' q, (lpsC z)[j]? = some c' → hs[n + (compC P ents hs y n).2.length + j]? = some q → SoundL P q (Λ (n + (compC P ents hs y n).2.length + j)) c' := fun j c' q hj => by
      rw [lps_length, Nat.add_assoc]
      exact hl _ c' q (by
        show (lpsC y ++ lpsC z)[(lpsC y).length + j]? = some c'
        rw [List.getElem?_append_right (Nat.le_add_right _ _), Nat.add_sub_cancel_left]; exact hj)
    refine wp_seq (wp_mono (evC_sound hm hE hΓ hL hLΛ hs y n hok.1 hly h1 hT hH hw hf) ?_)
    rintro e a1 w1 ⟨ax, T2, H2, rfl, ⟨rfl, rfl, rfl⟩, hg⟩
    simp only at h2
    cases ax with
    | normal =>
      obtain ⟨⟨μ1, F1, g1, g2, g3, g4, g5⟩, g6, g7, g8⟩ := hg
      refine wp_mono (evC_sound hm hE hΓ hL hLΛ hs z _ hok.2 hlz h2 g1 g2 g8 (fresh_step hf g6 g7 g5)) ?_
      rintro e a2 w2 ⟨ax, T3, H3, rfl, hq2, hg2⟩
      exact ⟨ax, T3, H3, rfl, hq2, GoodA.trans g3 g4 g5 g6 g7 hg2⟩
    | exit i =>
      obtain ⟨e, rfl⟩ := ret_some h2
      simp only [Prod.mk.injEq] at e
      obtain ⟨rfl, rfl⟩ := e
      exact ⟨.exit i, _, _, rfl, ⟨rfl, rfl, rfl⟩, hg⟩
    | goto l =>
      obtain ⟨e, rfl⟩ := ret_some h2
      simp only [Prod.mk.injEq] at e
      obtain ⟨rfl, rfl⟩ := e
      exact ⟨.goto l, _, _, rfl, ⟨rfl, rfl, rfl⟩, hg⟩
    | ret =>
      obtain ⟨e, rfl⟩ := ret_some h2
      simp only [Prod.mk.injEq] at e
      obtain ⟨rfl, rfl⟩ := e
      exact ⟨.ret, _, _, rfl, ⟨rfl, rfl, rfl⟩, hg⟩
  | .cond c y z, n, hok, hl, T, H, x, T', H', ft, h, μ, F, w, a, hT, hH, hw, hf => by
    have h : (match opdA T c with
      | .v (.bool t) => (match t with
        | true => evC realA Γ Λ (compC P ents hs y n).1 T
        | false => evC realA Γ Λ (compC P ents hs z (n + (compC P ents hs y n).2.length)).1 T)
      | _ => AM.fail) H = some ((x, T'), H', ft) := h
    simp only [okC, Bool.and_eq_true] at hok
    have hly : ∀ j c' q, (lpsC y)[j]? = some c' → hs[n + j]? = some q → SoundL P q (Λ (n + j)) c' := fun j c' q hj => hl j c' q (by
      show (lpsC y ++ lpsC z)[j]? = some c'
      rw [List.getElem?_append_left (List.getElem?_eq_some_iff.1 hj).1]; exact hj)
    have hlz : ∀ j c' q, (lpsC z)[j]? = some c' → hs[n + (compC P ents hs y n).2.length + j]? = some q → SoundL P q (Λ (n + (compC P ents hs y n).2.length + j)) c' := fun j c' q hj => by
      rw [lps_length, Nat.add_assoc]
      exact hl _ c' q (by
        show (lpsC y ++ lpsC z)[(lpsC y).length + j]? = some c'
        rw [List.getElem?_append_right (Nat.le_add_right _ _), Nat.add_sub_cancel_left]; exact hj)
    have h3 := rep_opd hT c
    cases ec : opdA T c with
    | v u =>
      rw [ec] at h h3
      simp only [Rep] at h3
      cases u with
      | bool t =>
        cases t with
        | true => exact wp_cond_true h3.1 (evC_sound hm hE hΓ hL hLΛ hs y n hok.1 hly h hT hH hw hf)
        | false => exact wp_cond_false h3.1 (evC_sound hm hE hΓ hL hLΛ hs z _ hok.2 hlz h hT hH hw hf)
      | _ => exact (fail_some h).elim
    | _ => rw [ec] at h; exact (fail_some h).elim
  | .block id c, n, hok, hl, T, H, x, T', H', ft, h, μ, F, w, a, hT, hH, hw, hf => by
    have h : ((evC realA Γ Λ (compC P ents hs c n).1 T).bind fun r => match r.1 with
      | .exit i => if i = id then AM.ret (.normal, r.2) else AM.ret (.exit i, r.2)
      | ax => AM.ret (ax, r.2)) H = some ((x, T'), H', ft) := h
    simp only [okC] at hok
    obtain ⟨⟨x1, T1⟩, H1, f1, f2, h1, h2⟩ := bind_some h
    refine wp_block (wp_mono (evC_sound hm hE hΓ hL hLΛ hs c n hok hl h1 hT hH hw hf) ?_)
    rintro e a1 w1 ⟨ax, T2, H2, rfl, ⟨rfl, rfl, rfl⟩, hg⟩
    simp only at h2
    cases ax with
    | normal =>
      obtain ⟨e, rfl⟩ := ret_some h2
      simp only [Prod.mk.injEq] at e
      obtain ⟨rfl, rfl⟩ := e
      exact ⟨.normal, _, _, rfl, ⟨rfl, rfl, rfl⟩, hg⟩
    | goto l =>
      obtain ⟨e, rfl⟩ := ret_some h2
      simp only [Prod.mk.injEq] at e
      obtain ⟨rfl, rfl⟩ := e
      exact ⟨.goto l, _, _, rfl, ⟨rfl, rfl, rfl⟩, hg⟩
    | ret =>
      obtain ⟨e, rfl⟩ := ret_some h2
      simp only [Prod.mk.injEq] at e
      obtain ⟨rfl, rfl⟩ := e
      exact ⟨.ret, _, _, rfl, ⟨rfl, rfl, rfl⟩, hg⟩
    | exit i =>
      simp only [AX.ex, Exit.inBlock]
      rcases ite_some h2 with ⟨hi, h2⟩ | ⟨hi, h2⟩
      · obtain ⟨e, rfl⟩ := ret_some h2
        simp only [Prod.mk.injEq] at e
        obtain ⟨rfl, rfl⟩ := e
        rw [if_pos hi]
        exact ⟨.normal, _, _, rfl, ⟨rfl, rfl, rfl⟩, hg⟩
      · obtain ⟨e, rfl⟩ := ret_some h2
        simp only [Prod.mk.injEq] at e
        obtain ⟨rfl, rfl⟩ := e
        rw [if_neg hi]
        exact ⟨.exit i, _, _, rfl, ⟨rfl, rfl, rfl⟩, hg⟩
  | .loop c, n, hok, hl, T, H, x, T', H', ft, h, μ, F, w, a, hT, hH, hw, hf => by
    cases eh : hs[n]? with
    | none =>
      have : (compC P ents hs (.loop c) n).1 = .bad := by unfold compC; rw [eh]
      rw [this] at h
      exact (fail_some h).elim
    | some q =>
      have : (compC P ents hs (.loop c) n).1 = .loop n q := by unfold compC; rw [eh]
      rw [this] at h
      have h : ((adoptM q.ad T).bind fun T => (frzT q.fz T).bind fun T => match Nat.beq T.length q.n with
        | true => (Λ n (pickB q.live T)).bind fun r => AM.ret (r.1, spreadB (q.out r.1) q.n r.2)
        | false => AM.fail) H = some ((x, T'), H', ft) := h
      obtain ⟨T0, H0, f1, f2, h1, h2⟩ := bind_some h
      obtain ⟨T1, H1, f3, f4, h3, h2⟩ := bind_some h2
      have L0 := Loc.adoptM q.ad T _ _ _ _ hw h1
      have L1 := Loc.frzT q.fz T0 _ _ _ _ L0.wf h3
      obtain ⟨μ1, F1, g1, g2, g3, g4⟩ := Gh.trans L0.next L1.next (adoptM_sound q.ad T hT.1 hH hw hf h1) fun μ0 F0 l0 hH0 _ hT0 => frzT_sound q.fz T0 hT0 hH0 L0.wf h3
      cases en : Nat.beq T1.length q.n with
      | false => rw [en] at h2; exact (fail_some h2).elim
      | true =>
        rw [en] at h2
        obtain ⟨⟨y, ys⟩, H2, f5, f6, h5, h4⟩ := bind_some h2
        obtain ⟨e4, rfl⟩ := ret_some h4
        simp only [Prod.mk.injEq] at e4
        obtain ⟨rfl, rfl⟩ := e4
        have hn : a.tmps.toList.length = q.n := by rw [g4.length]; exact Nat.eq_of_beq_eq_true en
        have := hl 0 c q (by unfold lpsC; rfl) eh _ _ _ _ _ _ h5 μ1 F1 w a hn (pick_rep g4) hT.2 g2 L1.wf (fresh_step hf (Nat.le_trans L0.next L1.next) (L1.top.trans L0.top) g3)
        exact wp_mono this fun e a' w' he => EndsA.ghost (Nat.le_trans L0.next L1.next) (L1.top.trans L0.top) g1 g3 he
  | .rangeFunc .., n, _, _, T, H, x, T', H', ft, h, _, _, _, _, _, _, _, _ => (fail_some h).elim
  | .scope _, n, _, _, T, H, x, T', H', ft, h, _, _, _, _, _, _, _, _ => (fail_some h).elim
  | .label _, n, _, _, T, H, x, T', H', ft, h, _, _, _, _, _, _, _, _ => (fail_some h).elim
  | .goto _, n, _, _, T, H, x, T', H', ft, h, _, _, _, _, _, _, _, _ => (fail_some h).elim
  | .refuse _, n, _, _, T, H, x, T', H', ft, h, _, _, _, _, _, _, _, _ => (fail_some h).elim
end
end Go.Proofs.Ytlmhajfbpplpoaa
namespace Go.Proofs.Ytlmhajfbpplpoaa
open Go.RowKit

theorem Loc.loopsM (D : Orc) (f i : Nat) (T : List AV) : Loc (loopsM D f i T) := by
  unfold Go.Proofs.Ytlmhajfbpplpoaa.loopsM
  refine Loc.bind (Loc.callD _ _) fun r => ?_
  split
  · split
    · exact Loc.ret _
    · exact Loc.fail
  · exact Loc.fail
theorem Loc.resM (T : List AV) : ∀ l, Loc (resM T l)
  | [] => Loc.ret _
  | .tmp _ :: r => Loc.bind (Loc.resM T r) fun _ => Loc.ret _
  | .cell _ _ _ :: r => Loc.bind (Loc.loadM _ _ _) fun _ => Loc.bind (Loc.resM T r) fun _ => Loc.ret _
theorem Loc.fnM (A : Ar) (D : Orc) (own : List (Nat × Nat)) (f : Nat) (mf : MFn) (args : List AV) : Loc (fnM A D own f mf args) := by
  unfold Go.Proofs.Ytlmhajfbpplpoaa.fnM
  refine Loc.bind (Loc.evC (Loc.callsM D own) (Loc.loopsM D f) _ _) fun r => ?_
  split
  · exact Loc.fail
  · exact Loc.fail
  · refine Loc.bind (Loc.resM _ _) fun l => Loc.bind ?_ fun v => ?_
    · split
      · exact Loc.ret _
      · exact Loc.frz _ _
    · split
      · exact Loc.bind (Loc.touchI _) fun _ => Loc.ret _
      · exact Loc.ret _
theorem Loc.lpM (A : Ar) (D : Orc) (own : List (Nat × Nat)) (f i : Nat) (h : LpH) (c : MC) (xs : List AV) : Loc (lpM A D own f i h c xs) := by
  unfold Go.Proofs.Ytlmhajfbpplpoaa.lpM
  refine Loc.bind (Loc.evC (Loc.callsM D own) (Loc.loopsM D f) _ _) fun r => ?_
  split
  · exact Loc.bind (Loc.frzT _ _) fun _ => Loc.bind (Loc.loopsM _ _ _ _) fun _ => Loc.ret _
  · exact Loc.fail
  · exact Loc.bind (Loc.frzT _ _) fun _ => Loc.bind (Loc.delT _ _) fun _ => Loc.bind (Loc.touchA _) fun _ => Loc.ret _
theorem runM_length {A : Ar} {Γ : FuncId → List AV → AM AV} : ∀ (l : List MOp) {T : List AV} {H : AH} {T' : List AV} {H' : AH} {fs : List Foot}, runM A Γ l T H = some (T', H', fs) → T'.length = T.length
  | [], T, H, T', H', fs, h => by
    simp only [runM, Option.some.injEq, Prod.mk.injEq] at h
    rw [h.1]
  | o :: r, T, H, T', H', fs, h => by
    simp only [runM] at h
    rcases e1 : coreM A Γ o T H with _ | ⟨v, H1, f⟩ <;> rw [e1] at h
    · cases h
    simp only at h
    rcases e2 : runM A Γ r (dstSet T o.dst v) H1 with _ | ⟨T2, H2, fs'⟩ <;> rw [e2] at h
    · cases h
    simp only [Option.some.injEq, Prod.mk.injEq] at h
    obtain ⟨rfl, rfl, rfl⟩ := h
    rw [runM_length r e2, dstSet_length]
theorem adoptM_length : ∀ (l : List (Nat × Nat)) (T : List AV) {H : AH} {T' : List AV} {H' : AH} {ft : Foot}, adoptM l T H = some (T', H', ft) → T'.length = T.length
  | [], T, H, T', H', ft, h => by
    obtain ⟨rfl, rfl⟩ := ret_some h
    rfl
  | (t, e) :: r, T, H, T', H', ft, h => by
    unfold adoptM at h
    cases en : nilAt T t with
    | true =>
      rw [en] at h
      obtain ⟨b, H1, f1, f2, h1, h2⟩ := bind_some h
      rw [adoptM_length r _ h2, List.length_set]
    | false =>
      rw [en] at h
      exact adoptM_length r T h
theorem evC_length {A : Ar} {Γ : FuncId → List AV → AM AV} {Λ : Nat → List AV → AM (AX × List AV)} : ∀ (c : MC) (T : List AV) (r : AX × List AV) {H H' : AH} {ft : Foot}, (h : evC A Γ Λ c T H = some (r, H', ft)) → r.2.length = T.length
  | .skip, T, r, H, H', ft, h => by
    obtain ⟨rfl, rfl⟩ := ret_some h
    rfl
  | .reg ops bf, T, r, H, H', ft, h => by
    have h : regM A Γ ops bf T H = some (r, H', ft) := h
    unfold regM at h
    rcases e : runM A Γ ops T H with _ | ⟨T1, H1, fs⟩ <;> rw [e] at h
    · cases h
    simp only at h
    cases bf with
    | none =>
      simp only [Option.some.injEq, Prod.mk.injEq] at h
      rw [← h.1]; exact runM_length ops e
    | some bf =>
      simp only at h
      cases eh : heapOk bf fs with
      | true =>
        rw [eh] at h
        simp only [Option.some.injEq, Prod.mk.injEq] at h
        rw [← h.1]; exact runM_length ops e
      | false => rw [eh] at h; cases h
  | .seq a b, T, r, H, H', ft, h => by
    obtain ⟨⟨ax, T1⟩, H1, f1, f2, h1, h2⟩ := bind_some h
    have e1 := evC_length a T _ h1
    cases ax with
    | normal => rw [evC_length b _ r h2]; exact e1
    | _ =>
      obtain ⟨rfl, rfl⟩ := ret_some h2
      exact e1
  | .cond c a b, T, r, H, H', ft, h => by
    have h : (match opdA T c with
      | .v (.bool t) => (match t with
        | true => evC A Γ Λ a T
        | false => evC A Γ Λ b T)
      | _ => AM.fail) H = some (r, H', ft) := h
    cases ec : opdA T c with
    | v u =>
      rw [ec] at h
      cases u with
      | bool t =>
        cases t with
        | true => exact evC_length a T r h
        | false => exact evC_length b T r h
      | _ => exact (fail_some h).elim
    | _ => rw [ec] at h; exact (fail_some h).elim
  | .block id c, T, r, H, H', ft, h => by
    obtain ⟨⟨ax, T1⟩, H1, f1, f2, h1, h2⟩ := bind_some h
    have e1 := evC_length c T _ h1
    cases ax with
    | exit i =>
      rcases ite_some h2 with ⟨_, h2⟩ | ⟨_, h2⟩ <;>
      · obtain ⟨rfl, rfl⟩ := ret_some h2
        exact e1
    | _ =>
      obtain ⟨rfl, rfl⟩ := ret_some h2
      exact e1
  | .loop i q, T, r, H, H', ft, h => by
    obtain ⟨T1, H1, f1, f2, h1, h2⟩ := bind_some h
    have e1 := adoptM_length _ _ h1
    obtain ⟨T2, H3, f5, f6, h5, h2⟩ := bind_some h2
    have e2 := frzT_length _ _ h5
    cases en : Nat.beq T2.length q.n with
    | true =>
      rw [en] at h2
      obtain ⟨r1, H2, f3, f4, h3, h4⟩ := bind_some h2
      obtain ⟨rfl, rfl⟩ := ret_some h4
      simp only
      rw [length_spread, ← e1, ← e2]
      exact (Nat.eq_of_beq_eq_true en).symm
    | false => rw [en] at h2; exact (fail_some h2).elim
  | .exit id, T, r, H, H', ft, h => by
    obtain ⟨rfl, rfl⟩ := ret_some h
    rfl
  | .ret, T, r, H, H', ft, h => by
    obtain ⟨rfl, rfl⟩ := ret_some h
    rfl
  | .bad, T, r, H, H', ft, h => (fail_some h).elim
/-- How a loop ends, as a value. -/
def axV : AX → Value
  | .normal => .bool false
  | .ret => .bool true
  | .exit i => .int .i64 (Int.ofNat i)
  | .goto _ => .bool false
/-- A loop from the head of a round on. -/
def LoopW (P : Program) (c : Code) (Q : Exit → Act → World → Prop) (a : Act) (w : World) : Prop := ∀ b k cs, ∃ e a' w', Q e a' w' ∧ Arrives P (lone (b.at a (.code c :: .inLoop c :: k)) cs w) b k cs e a' w'
theorem LoopW.mono {P : Program} {c : Code} {Q Q' : Exit → Act → World → Prop} {a : Act} {w : World} (h : LoopW P c Q a w) (k : ∀ e a' w', Q e a' w' → Q' e a' w') : LoopW P c Q' a w := fun b l cs => by
  obtain ⟨e, a', w', h1, h2⟩ := h b l cs
  exact ⟨e, a', w', k _ _ _ h1, h2⟩
theorem LoopW.wp {P : Program} {c : Code} {Q : Exit → Act → World → Prop} {a : Act} {w : World} (h : LoopW P c Q a w) : (Code.loop c).wp P Q a w := fun b k cs => by
  obtain ⟨e, a', w', h1, h2⟩ := h b k cs
  exact ⟨e, a', w', h1, .of_steps (.one step_loop) h2⟩
/-- One round of a loop, and then whatever the loop does. -/
theorem LoopW.step {P : Program} {c : Code} {Q : Exit → Act → World → Prop} {a : Act} {w : World} (h : c.wp P (fun e a' w' => match e with
    | .normal => LoopW P c Q a' w'
    | e => Q e a' w') a w) : LoopW P c Q a w := by
  intro b k cs
  obtain ⟨e, a₁, w₁, hq, harr⟩ := h b (.inLoop c :: k) cs
  cases e with
  | normal =>
    obtain ⟨e₂, a₂, w₂, hq₂, harr₂⟩ := hq b k cs
    exact ⟨e₂, a₂, w₂, hq₂, .of_steps (Steps.trans harr (.one step_inLoop)) harr₂⟩
  | exit id => exact ⟨_, a₁, w₁, hq, .pass (x := .inLoop c) rfl (fun _ _ => .inl (by simp)) harr⟩
  | goto l => exact ⟨_, a₁, w₁, hq, .pass (x := .inLoop c) rfl (fun _ _ => .inl (by simp)) harr⟩
  | ret => exact ⟨_, a₁, w₁, hq, .pass (x := .inLoop c) rfl (fun _ _ => .inl (by simp)) harr⟩
  | panic ch => exact ⟨_, a₁, w₁, hq, .pass (x := .inLoop c) rfl (fun _ _ => .inl (by simp)) harr⟩
  | outgrown => exact ⟨_, a₁, w₁, hq, .pass (x := .inLoop c) rfl (fun _ _ => .inl (by simp)) harr⟩
/-- What a loop is. -/
def SemLp (P : Program) (h : LpH) (c : Code) : SemT := fun us w Q => ∀ a : Act, a.tmps.toList.length = h.n → pickB h.live a.tmps.toList = us → a.defers = [] → LoopW P c (fun e a' w' => a'.defers = [] ∧ a'.tmps.toList.length = h.n ∧ ∃ x : AX, e = x.ex ∧ (x = .ret ∨ ∃ i, x = .exit i) ∧ Q (.tuple (axV x :: pickB (h.out x) a'.tmps.toList).toArray) w') a w
theorem semLp_mono (P : Program) (h : LpH) (c : Code) : MonoS (SemLp P h c) := fun _ _ _ _ g k a h1 h2 h3 => LoopW.mono (g a h1 h2 h3) fun _ _ w' ⟨q1, q2, x, q3, q4, q5⟩ => ⟨q1, q2, x, q3, q4, k _ w' q5⟩
theorem axOf_rep {μ : Mu} {F : Prot} {w : World} {v : AV} {ax x : AX} (h : axOf v = some ax) (hr : Rep μ F w v (axV x)) (hx : x = .ret ∨ ∃ i, x = .exit i) : ax = x := by
  unfold axOf at h
  split at h <;> simp only [Option.some.injEq, reduceCtorEq] at h
  · simp only [Rep] at hr
    rcases hx with rfl | ⟨i, rfl⟩
    · exact h.symm
    · exact absurd hr.1 (by simp [axV])
  · simp only [Rep] at hr
    rcases hx with rfl | ⟨i, rfl⟩
    · exact absurd hr.1 (by simp [axV])
    · exact absurd hr.1 (by simp [axV])
  · simp only [Rep] at hr
    rcases hx with rfl | ⟨i, rfl⟩
    · exact absurd hr.1 (by simp [axV])
    · have := hr.1
      simp [axV] at this
      rw [← h]
      exact congrArg AX.exit (by omega)
theorem loopsM_round {P : Program} {D : Orc} {f i : Nat} {c : Code} {q : LpH} (hD : GoodD (SemLp P q c) (D.ask (.lp f i))) {xs : List AV} {H : AH} {x : AX} {ys : List AV} {H' : AH} {ft : Foot} (h : loopsM D f i xs H = some ((x, ys), H', ft)) {μ : Mu} {F : Prot} {w : World} {a : Act} (hn : a.tmps.toList.length = q.n) (hT : RepList μ F w xs (pickB q.live a.tmps.toList)) (hd : a.defers = []) (hH : HRep μ F w H.get) (hw : H.wf) (hf : Fresh μ H) :
    LoopW P c (fun e a' w' => e = x.ex ∧ a'.defers = [] ∧ a'.tmps.toList.length = q.n ∧ (x = .ret ∨ ∃ i, x = .exit i) ∧ H.next ≤ H'.next ∧ H'.top = H.top ∧ H'.wf ∧ ∃ μ' F', RepList μ' F' w' ys (pickB (q.out x) a'.tmps.toList) ∧ HRep μ' F' w' H'.get ∧ Later μ μ' F F' w w' ∧ WStep F w w' ∧ ∀ b, (b < H.next ∨ H'.next ≤ b) → μ' b = μ b) a w := by
  unfold loopsM at h
  obtain ⟨r, H1, f1, f2, h1, h2⟩ := bind_some h
  have L1 := Loc.callD (D.ask (.lp f i)) xs _ _ _ _ hw h1
  have key := callD_sound (semLp_mono P q c) hD xs μ F w H _ hT hH hw hf r H1 f1 h1 a hn rfl hd
  refine LoopW.mono key ?_
  rintro e a' w' ⟨hd', hn', y, rfl, hy, μ', F', q1, q2, q3, q4, q5⟩
  cases r with
  | tup vs =>
    cases vs with
    | nil => exact (fail_some h2).elim
    | cons v vs =>
      simp only at h2
      cases e1 : axOf v with
      | none => rw [e1] at h2; exact (fail_some h2).elim
      | some ax =>
        rw [e1] at h2
        obtain ⟨e2, rfl⟩ := ret_some h2
        simp only [Prod.mk.injEq] at e2
        obtain ⟨rfl, rfl⟩ := e2
        simp only [Rep] at q1
        obtain ⟨us, hus, hr⟩ := q1
        simp only [Value.tuple.injEq] at hus
        rw [← hus] at hr
        simp only [RepList] at hr
        obtain ⟨u, t, e3, hu, ht⟩ := hr
        simp only [List.cons.injEq] at e3
        obtain ⟨rfl, rfl⟩ := e3
        have := axOf_rep e1 hu hy
        subst this
        exact ⟨rfl, hd', hn', hy, L1.next, L1.top, L1.wf, μ', F', ht, q2, q3, q4, q5⟩
  | _ => exact (fail_some h2).elim
theorem loopsM_sound {P : Program} {D : Orc} {f i : Nat} {c : Code} {q : LpH} (hD : GoodD (SemLp P q c) (D.ask (.lp f i))) : SoundL P q (loopsM D f i) c := fun _ _ _ _ _ _ h _ _ _ _ hn hT hd hH hw hf =>
  (LoopW.mono (loopsM_round hD h hn hT hd hH hw hf) fun _ a' _ ⟨h1, h2, h3, _, h5, h6, h7, μ', F', k1, k2, k3, k4, k5⟩ => ⟨_, _, _, h1, ⟨rfl, rfl, rfl⟩, ⟨μ', F', ⟨by rw [← h3]; exact spread_rep _ _ k1, h2⟩, k2, k3, k4, k5⟩, h5, h6, h7⟩).wp
theorem resM_le {P : Program} (T : List AV) : ∀ (rs : List ResultVar), (∀ t ty, .cell t ty ∈ rs → (isRowT P ty = some true ∧ ∃ n, szT P ty = some n) ∨ isRowT P ty = some false) → Le (resM T (compR P rs)) (resA P T rs)
  | [], _ => Le.refl _
  | .tmp t :: r, h => Le.bind (resM_le T r fun t ty ht => h t ty (by simp [ht])) fun _ => Le.refl _
  | .cell t ty :: r, h => by
    have ih := resM_le (P := P) T r fun t ty ht => h t ty (by simp [ht])
    rcases h t ty (by simp) with ⟨h1, n, h2⟩ | h1
    · have : compR P (.cell t ty :: r) = .cell t true n :: compR P r := by unfold compR; rw [List.map_cons]; simp only [h1, h2]
      rw [this]
      exact Le.bind (le_load h1 (fun _ => h2) _) fun _ => Le.bind ih fun _ => Le.refl _
    · have : compR P (.cell t ty :: r) = .cell t false 0 :: compR P r := by unfold compR; rw [List.map_cons]; simp only [h1]
      rw [this]
      exact Le.bind (le_load (n := 0) h1 (fun h => by cases h) _) fun _ => Le.bind ih fun _ => Le.refl _
/-- The results that lie in boxes are of types that can be read. -/
def okR (P : Program) (rs : List ResultVar) : Bool := rs.all fun r => match r with
  | .tmp _ => true
  | .cell _ ty => (match isRowT P ty, szT P ty with
    | some true, some _ => true
    | some false, _ => true
    | _, _ => false)
theorem okR_spec {P : Program} {rs : List ResultVar} (h : okR P rs = true) : ∀ t ty, .cell t ty ∈ rs → (isRowT P ty = some true ∧ ∃ n, szT P ty = some n) ∨ isRowT P ty = some false := fun t ty ht => by
  have := List.all_eq_true.1 h _ ht
  simp only at this
  split at this
  · exact .inl ⟨‹_›, _, ‹_›⟩
  · exact .inr ‹_›
  · cases this
/-- A function of a program as resolved code. -/
structure FnOk (P : Program) (ents : Nat) (f : FuncId) (mf : MFn) : Prop where
  ok : ∃ fn c hs, P.funcs[f]? = some fn ∧ fn.body = some c ∧ okC c = true ∧ okR P fn.results.toList = true ∧ mf.nt = fn.ntmps ∧ mf.res = compR P fn.results.toList ∧ mf.body = (compC P ents hs c 0).1 ∧ mf.loops = (compC P ents hs c 0).2
theorem fnM_sound {P : Program} {ents : Nat} {D : Orc} (own : List (Nat × Nat)) (hm : P.follows .mixedOrders = true) (hE : EntOk P ents) {f : FuncId} {mf : MFn} {fn : Func} {c : Code} {hs : Hints} (h1 : P.funcs[f]? = some fn) (h2 : fn.body = some c) (h3 : okC c = true) (h4 : okR P fn.results.toList = true)
    (h5 : mf.nt = fn.ntmps) (h6 : mf.res = compR P fn.results.toList) (h7 : mf.body = (compC P ents hs c 0).1) (hΓ : SoundG P (callsM D own)) (hΛ : ∀ j c' q, (lpsC c)[j]? = some c' → hs[j]? = some q → SoundL P q (loopsM D f j) c') : SoundM (SemFn P f) (fnM realA D own f mf) := by
  intro args μ F w H us hv hH hw hf r H' ft h
  unfold fnM at h
  obtain ⟨⟨x, T1⟩, H1, f1, f2, g1, g2⟩ := bind_some h
  rw [h7, h5] at g1
  have hlen := hv.length
  have hT : RT μ F w (frame0 fn.ntmps args) { tmps := us.toArray ++ Array.replicate (fn.ntmps - us.toArray.size) Go.undef, defers := [] } := by
    refine ⟨?_, rfl⟩
    unfold frame0
    simp only [Array.toList_append, Array.toList_replicate]
    refine RepList.append hv (RepList.mk (by simp [hlen]) fun i x hx => ?_)
    rw [List.getElem?_replicate] at hx
    split at hx
    · rename_i hi
      simp only [Option.some.injEq] at hx
      subst hx
      exact ⟨Go.undef, by rw [List.getElem?_replicate, if_pos (by simp [hlen]; omega)], rep_undef _ _ _⟩
    · cases hx
  refine calls_of_wp h1 h2 (wp_mono (evC_sound hm hE hΓ (Loc.callsM D own) (Loc.loopsM D f) hs c 0 h3 (fun j c' q hj => by rw [Nat.zero_add]; exact hΛ j c' q hj) g1 hT hH hw hf) ?_)
  rintro e a' w' ⟨x', T', H2, rfl, ⟨rfl, rfl, rfl⟩, ⟨μ', F', k1, k2, k3, k4, k5⟩, k6, k7, k8⟩
  simp only at g2
  have hx : (x' = .normal ∨ x' = .ret) ∧ ((resM T' mf.res).bind fun l => (match mf.own with
    | true => AM.ret (tupA l)
    | false => frz 1000 (tupA l)).bind fun v => match mf.tch with
      | true => (touchI (idsL args)).bind fun _ => AM.ret v
      | false => AM.ret v) H2 = some (r, H', f2) := by
    cases x' with
    | normal => exact ⟨.inl rfl, g2⟩
    | ret => exact ⟨.inr rfl, g2⟩
    | exit i => exact (fail_some g2).elim
    | goto l => exact (fail_some g2).elim
  obtain ⟨hx, g3⟩ := hx
  obtain ⟨l, H3, f3, f4, q1, q2⟩ := bind_some g3
  obtain ⟨v0, H4, f5, f6, q3, q4⟩ := bind_some q2
  rw [h6] at q1
  have q1' := resM_le T' fn.results.toList (okR_spec h4) _ _ q1
  have q1'' : resultsA P fn T' H2 = some (tupA l, H3, ⟨f3.rd ++ [], f3.wr ++ []⟩) := by
    unfold resultsA AM.bind
    rw [q1']
    rfl
  obtain ⟨e3, u, hu1, hu2⟩ := resultsA_sound k1 k2 q1''
  rw [e3] at q3
  have hf2 : Fresh μ' H2 := fresh_step hf k6 k7 k5
  have mid : H2.next ≤ H4.next ∧ H4.top = H2.top ∧ H4.wf ∧ Gh μ' F' w' H2 H4 fun μ2 F2 => Rep μ2 F2 w' v0 u := by
    cases eo : mf.own with
    | true =>
      rw [eo] at q3
      obtain ⟨rfl, rfl⟩ := ret_some q3
      exact ⟨Nat.le_refl _, rfl, k8, Gh.same k2 hu2⟩
    | false =>
      rw [eo] at q3
      have L3 := Loc.frz 1000 (tupA l) _ _ _ _ k8 q3
      exact ⟨L3.next, L3.top, L3.wf, frz_sound 1000 (tupA l) hu2 k2 k8 q3⟩
  obtain ⟨n4, t4, w4, μ2, F2, m1, m2, m3, m4⟩ := mid
  have hf4 : Fresh μ2 H4 := fresh_step hf2 n4 t4 m3
  have last : H4.next ≤ H'.next ∧ r = v0 ∧ Gh μ2 F2 w' H4 H' fun μ3 F3 => Rep μ3 F3 w' v0 u := by
    cases et : mf.tch with
    | false =>
      rw [et] at q4
      obtain ⟨rfl, rfl⟩ := ret_some q4
      exact ⟨Nat.le_refl _, rfl, Gh.same m2 m4⟩
    | true =>
      rw [et] at q4
      obtain ⟨ys, H5, f7, f8, p1, p2⟩ := bind_some q4
      obtain ⟨rfl, rfl⟩ := ret_some p2
      have L4 := Loc.touchI (idsL args) _ _ _ _ w4 p1
      exact ⟨L4.next, rfl, (touchI_sound (idsL args) m2 w4 hf4 p1).mono fun μ3 F3 l3 _ => m4.later l3⟩
  obtain ⟨n5, rfl, μ3, F3, o1, o2, o3, o4⟩ := last
  have fin : Post μ F w H r H' u w' :=
    ⟨μ3, F3, o4, o2, k3.trans (m1.trans o1), k4, fun b hb => by rw [o3 b (by omega), m3 b (by omega), k5 b (by omega)]⟩
  have fin2 : a'.defers = [] ∧ ∃ v, (results fn a'.tmps).run P w' = .ok v w' ∧ ∃ u, Ending.returned v = .returned u ∧ Post μ F w H r H' u w' := ⟨k1.2, u, hu1, u, rfl, fin⟩
  rcases hx with rfl | rfl
  · exact fin2
  · exact fin2
theorem lpM_sound {P : Program} {ents : Nat} {D : Orc} (own : List (Nat × Nat)) (hm : P.follows .mixedOrders = true) (hE : EntOk P ents) {f i : Nat} {q : LpH} {c : Code} {hs : Hints} {n : Nat} (h3 : okC c = true) (hΓ : SoundG P (callsM D own))
    (hΛ : ∀ j c' q, (lpsC c)[j]? = some c' → hs[n + j]? = some q → SoundL P q (loopsM D f (n + j)) c') (hD : GoodD (SemLp P q c) (D.ask (.lp f i))) : SoundM (SemLp P q c) (lpM realA D own f i q (compC P ents hs c n).1) := by
  intro xs μ F w H us hv hH hw hf r H' ft h a hn ha hd
  subst ha
  unfold lpM at h
  obtain ⟨⟨x, T1⟩, H1, f1, f2, g1, g2⟩ := bind_some h
  have hT0 : RT μ F w (spreadB q.live q.n xs) a := ⟨by rw [← hn]; exact spread_rep _ _ hv, hd⟩
  -- frames keep their size
  refine LoopW.step (wp_mono (evC_sound hm hE hΓ (Loc.callsM D own) (Loc.loopsM D f) hs c n h3 hΛ g1 hT0 hH hw hf) ?_)
  rintro e a' w' ⟨x', T', H2, rfl, ⟨rfl, rfl, rfl⟩, ⟨μ', F', k1, k2, k3, k4, k5⟩, k6, k7, k8⟩
  simp only at g2
  have hf2 : Fresh μ' H2 := fresh_step hf k6 k7 k5
  have hn' : a'.tmps.toList.length = q.n := by
    rw [k1.1.length, evC_length _ _ _ g1, length_spread]
  have tup : ∀ {y : AX} {ys : List AV} {μ2 : Mu} {F2 : Prot} {w2 : World} {vs : List Value}, (y = .ret ∨ ∃ i, y = .exit i) → RepList μ2 F2 w2 ys vs → Rep μ2 F2 w2 (.tup (axA y :: ys)) (.tuple (axV y :: vs).toArray) := fun {y ys μ2 F2 w2 vs} hy hT => by
    simp only [Rep]
    refine ⟨_, rfl, ?_⟩
    simp only [RepList]
    refine ⟨axV y, vs, rfl, ?_, hT⟩
    rcases hy with rfl | ⟨i, rfl⟩ <;> (simp only [axA, axV, Rep]; exact ⟨trivial, rfl⟩)
  have out : ∀ (y : AX), (y = .ret ∨ ∃ i, y = .exit i) → ((frzT (q.fzo y) T').bind fun T => (delT (q.dlo y) T).bind fun _ => (touchA (pickB (q.out y) T)).bind fun ys => AM.ret (.tup (axA y :: ys))) H2 = some (r, H', f2) → Post μ F w H r H' (.tuple (axV y :: pickB (q.out y) a'.tmps.toList).toArray) w' := fun y hy g => by
    obtain ⟨T3, H3, f3, f4, p1, p2⟩ := bind_some g
    obtain ⟨_, H4, f5, f6, p3, p4⟩ := bind_some p2
    obtain ⟨ys, H5, f7, f8, p5, p6⟩ := bind_some p4
    obtain ⟨rfl, rfl⟩ := ret_some p6
    have L3 := Loc.frzT (q.fzo y) T' _ _ _ _ k8 p1
    have L4 := Loc.delT (q.dlo y) T3 _ _ _ _ L3.wf p3
    have L5 := Loc.touchA (pickB (q.out y) T3) _ _ _ _ L4.wf p5
    have n3 := L3.next
    have n4 := L4.next
    have n5 := L5.next
    obtain ⟨μ3, F3, o1, o2, o3, o4⟩ := frzT_sound _ _ k1.1 k2 k8 p1
    have hf3 := fresh_step hf2 L3.next L3.top o3
    obtain ⟨μ4, F4, v1, v2, v3, _⟩ := delT_sound _ _ o2 L3.wf p3
    have hf4 := fresh_step hf3 L4.next L4.top v3
    obtain ⟨μ2, F2, m1, m2, m3, m4⟩ := touchA_sound _ (pick_rep (m := q.out y) (o4.later' v1)) v2 L4.wf hf4 p5
    exact ⟨μ2, F2, tup hy m4, m2, k3.trans (o1.trans (v1.trans m1)), k4, fun b hb => by rw [m3 b (by omega), v3 b (by omega), o3 b (by omega), k5 b (by omega)]⟩
  cases x' with
  | normal =>
    obtain ⟨T3, H4, f5, f6, p1, g3⟩ := bind_some g2
    obtain ⟨⟨y, ys⟩, H3, f3, f4, q1, q2⟩ := bind_some g3
    obtain ⟨rfl, rfl⟩ := ret_some q2
    have L3 := Loc.frzT q.fz T' _ _ _ _ k8 p1
    have n3 := L3.next
    obtain ⟨μ3, F3, o1, o2, o3, o4⟩ := frzT_sound q.fz T' k1.1 k2 k8 p1
    have := loopsM_round hD q1 (μ := μ3) (F := F3) (w := w') (a := a') hn' (pick_rep o4) k1.2 o2 L3.wf (fresh_step hf2 L3.next L3.top o3)
    refine LoopW.mono this ?_
    rintro e a2 w2 ⟨rfl, h1, h2, hy, h5, h6, h7, μ2, F2, m1, m2, m3, m4, m5⟩
    exact ⟨h1, h2, y, rfl, hy, μ2, F2, tup hy m1, m2, (k3.trans o1).trans m3, WStep.trans (fun g o hg => ((k3.trans o1).prot g o hg).1) k4 m4, fun b hb => by rw [m5 b (by omega), o3 b (by omega), k5 b (by omega)]⟩
  | goto l => exact (fail_some g2).elim
  | exit i => exact ⟨k1.2, hn', .exit i, rfl, .inr ⟨i, rfl⟩, out (.exit i) (.inr ⟨i, rfl⟩) g2⟩
  | ret => exact ⟨k1.2, hn', .ret, rfl, .inl rfl, out .ret (.inl rfl) g2⟩
end Go.Proofs.Ytlmhajfbpplpoaa
namespace Go.Proofs.Ytlmhajfbpplpoaa
open Go.RowKit

/-- A seat's functions as resolved code; X: what is told of a function from elsewhere. -/
structure Seat where
  fns : Nat → Option MFn
  own : List (Nat × Nat)
  ext : Nat → Option DF
def stepD (A : Ar) (M : Seat) (D : Orc) : Orc := .mk fun k args bs => match k with
  | .fn f => (match M.ext f with
    | some d => d args bs
    | none => (match M.fns f with
      | some mf => gcD (runD (fnM A D M.own f mf)) args bs
      | none => none))
  | .lp f i => (match M.fns f with
    | some mf => (match mf.loops[i]? with
      | some lc => gcD (runD (lpM A D M.own f i lc.1 lc.2)) args bs
      | none => none)
    | none => none)
def Dn (A : Ar) (M : Seat) : Nat → Orc
  | 0 => .no
  | n + 1 => stepD A M (Dn A M n)
open Classical in
noncomputable def Dstar (A : Ar) (M : Seat) : Orc := .mk fun k args bs => if h : ∃ r n, ∀ m, n ≤ m → (Dn A M m).ask k args bs = some r then some h.choose else none
section
variable {A : Ar} {M : Seat}
theorem star_some {k : Key} {args : List AV} {bs : List ABlk} {r : AV × List BO} (h : (Dstar A M).ask k args bs = some r) : ∃ n, ∀ m, n ≤ m → (Dn A M m).ask k args bs = some r := by
  unfold Dstar Orc.ask at h
  simp only at h
  split at h
  · rename_i hx
    simp only [Option.some.injEq] at h
    rw [← h]
    exact hx.choose_spec
  · cases h
open Classical in
theorem star_of {k : Key} {args : List AV} {bs : List ABlk} {r : AV × List BO} {n : Nat} (h : ∀ m, n ≤ m → (Dn A M m).ask k args bs = some r) : (Dstar A M).ask k args bs = some r := by
  have hx : ∃ r n, ∀ m, n ≤ m → (Dn A M m).ask k args bs = some r := ⟨r, n, h⟩
  have : (Dstar A M).ask k args bs = some hx.choose := by
    unfold Dstar
    show (if h : ∃ r n, ∀ m, n ≤ m → (Dn A M m).ask k args bs = some r then some h.choose else none) = _
    rw [dif_pos hx]
  rw [this]
  obtain ⟨n', h'⟩ := hx.choose_spec
  have e1 := h' (max n n') (Nat.le_max_right _ _)
  have e2 := h (max n n') (Nat.le_max_left _ _)
  rw [e1] at e2
  exact e2
/-- What is found over the limit is found over all late iterates. -/
def Ev {β : Type} (A : Ar) (M : Seat) (g : Orc → Option β) : Prop := ∀ r, g (Dstar A M) = some r → ∃ n, ∀ m, n ≤ m → g (Dn A M m) = some r
def EvM {α : Type} (A : Ar) (M : Seat) (g : Orc → AM α) : Prop := ∀ H, Ev A M fun D => g D H
theorem EvM.const {α : Type} (x : AM α) : EvM A M fun _ => x := fun _ _ h => ⟨0, fun _ _ => h⟩
theorem EvM.bind {α β : Type} {x : Orc → AM α} {f : Orc → α → AM β} (hx : EvM A M x) (hf : ∀ a, EvM A M fun D => f D a) : EvM A M fun D => (x D).bind (f D) := fun H r h => by
  simp only [AM.bind] at h ⊢
  cases e1 : x (Dstar A M) H with
  | none => rw [e1] at h; cases h
  | some q =>
    obtain ⟨a, H1, f1⟩ := q
    rw [e1] at h
    simp only at h
    cases e2 : f (Dstar A M) a H1 with
    | none => rw [e2] at h; cases h
    | some q2 =>
      rw [e2] at h
      obtain ⟨n1, h1⟩ : ∃ n, ∀ m, n ≤ m → x (Dn A M m) H = some (a, H1, f1) := hx H _ e1
      obtain ⟨n2, h2⟩ : ∃ n, ∀ m, n ≤ m → f (Dn A M m) a H1 = some q2 := hf a H1 _ e2
      refine ⟨max n1 n2, fun m hm => ?_⟩
      rw [h1 m (by omega)]
      simp only
      rw [h2 m (by omega)]
      exact h
theorem EvM.opt {α : Type} {g : Orc → Option α} (h : Ev A M g) : EvM A M fun D => AM.opt (g D) := fun H r e => by
  have e : AM.opt (g (Dstar A M)) H = some r := e
  cases e1 : g (Dstar A M) with
  | none => rw [e1] at e; cases e
  | some a =>
    obtain ⟨n, hn⟩ := h a e1
    refine ⟨n, fun m hm => ?_⟩
    show AM.opt (g (Dn A M m)) H = some r
    rw [hn m hm]; rw [e1] at e; exact e
theorem EvM.callD (k : Key) (args : List AV) : EvM A M fun D => callD (D.ask k) args := by
  unfold Go.Proofs.Ytlmhajfbpplpoaa.callD
  refine EvM.bind (EvM.const _) fun L => EvM.bind (EvM.const _) fun bs => EvM.bind (EvM.opt fun r h => star_some h) fun r => EvM.const _
theorem EvM.callsM (own : List (Nat × Nat)) (f : FuncId) (args : List AV) : EvM A M fun D => callsM D own f args := by
  unfold Go.Proofs.Ytlmhajfbpplpoaa.callsM
  exact EvM.bind (EvM.const _) fun l => EvM.callD _ _
theorem EvM.loopsM (f i : Nat) (T : List AV) : EvM A M fun D => loopsM D f i T := by
  unfold Go.Proofs.Ytlmhajfbpplpoaa.loopsM
  exact EvM.bind (EvM.callD _ _) fun r => EvM.const _
theorem EvM.mop {B : Ar} {Γ : Orc → FuncId → List AV → AM AV} (hΓ : ∀ f args, EvM A M fun D => Γ D f args) (o : MO) (T : List AV) : EvM A M fun D => mop B (Γ D) o T := by
  cases o with
  | callF f args => exact hΓ _ _
  | callV ents x args =>
    show EvM A M fun D => (match opdA T x with
      | .fn (.func g) a cs => (match ents.testBit g with
        | true => Γ D g (a ++ opsM T args ++ cs)
        | false => AM.fail)
      | _ => AM.fail)
    split
    · split
      · exact hΓ _ _
      · exact EvM.const _
    · exact EvM.const _
  | _ => exact EvM.const _
theorem EvM.coreM {B : Ar} {Γ : Orc → FuncId → List AV → AM AV} (hΓ : ∀ f args, EvM A M fun D => Γ D f args) (o : MOp) (T : List AV) : EvM A M fun D => coreM B (Γ D) o T := by
  unfold Go.Proofs.Ytlmhajfbpplpoaa.coreM
  split
  · split
    · exact EvM.mop hΓ _ _
    · exact EvM.const _
  · exact EvM.const _
theorem Ev.runM {B : Ar} {Γ : Orc → FuncId → List AV → AM AV} (hΓ : ∀ f args, EvM A M fun D => Γ D f args) : ∀ (l : List MOp) (T : List AV) (H : AH), Ev A M fun D => runM B (Γ D) l T H
  | [], T, H => fun r h => ⟨0, fun _ _ => h⟩
  | o :: l, T, H => fun r h => by
    simp only [Go.Proofs.Ytlmhajfbpplpoaa.runM] at h ⊢
    cases e1 : Go.Proofs.Ytlmhajfbpplpoaa.coreM B (Γ (Dstar A M)) o T H with
    | none => rw [e1] at h; cases h
    | some q =>
      obtain ⟨v, H1, f1⟩ := q
      rw [e1] at h
      simp only at h
      cases e2 : Go.Proofs.Ytlmhajfbpplpoaa.runM B (Γ (Dstar A M)) l (dstSet T o.dst v) H1 with
      | none => rw [e2] at h; cases h
      | some q2 =>
        rw [e2] at h
        obtain ⟨n1, h1⟩ : ∃ n, ∀ m, n ≤ m → Go.Proofs.Ytlmhajfbpplpoaa.coreM B (Γ (Dn A M m)) o T H = some (v, H1, f1) := EvM.coreM hΓ o T H _ e1
        obtain ⟨n2, h2⟩ : ∃ n, ∀ m, n ≤ m → Go.Proofs.Ytlmhajfbpplpoaa.runM B (Γ (Dn A M m)) l (dstSet T o.dst v) H1 = some q2 := Ev.runM hΓ l _ H1 _ e2
        refine ⟨max n1 n2, fun m hm => ?_⟩
        rw [h1 m (by omega)]
        simp only
        rw [h2 m (by omega)]
        exact h
theorem EvM.regM {B : Ar} {Γ : Orc → FuncId → List AV → AM AV} (hΓ : ∀ f args, EvM A M fun D => Γ D f args) (ops : List MOp) (bf : Option (List Nat)) (T : List AV) : EvM A M fun D => regM B (Γ D) ops bf T := fun H r h => by
  simp only [Go.Proofs.Ytlmhajfbpplpoaa.regM] at h ⊢
  cases e1 : Go.Proofs.Ytlmhajfbpplpoaa.runM B (Γ (Dstar A M)) ops T H with
  | none => rw [e1] at h; cases h
  | some q =>
    rw [e1] at h
    obtain ⟨n1, h1⟩ : ∃ n, ∀ m, n ≤ m → Go.Proofs.Ytlmhajfbpplpoaa.runM B (Γ (Dn A M m)) ops T H = some q := Ev.runM hΓ ops T H _ e1
    exact ⟨n1, fun m hm => by rw [h1 m hm]; exact h⟩
theorem EvM.evC {B : Ar} {Γ : Orc → FuncId → List AV → AM AV} {Λ : Orc → Nat → List AV → AM (AX × List AV)} (hΓ : ∀ f args, EvM A M fun D => Γ D f args) (hΛ : ∀ i T, EvM A M fun D => Λ D i T) : ∀ (c : MC) (T : List AV), EvM A M fun D => evC B (Γ D) (Λ D) c T
  | .skip, T => EvM.const _
  | .reg ops bf, T => EvM.regM hΓ _ _ _
  | .seq a b, T => by
    unfold Go.Proofs.Ytlmhajfbpplpoaa.evC
    refine EvM.bind (EvM.evC hΓ hΛ a T) fun r => ?_
    split
    · exact EvM.evC hΓ hΛ b _
    · exact EvM.const _
  | .cond c a b, T => by
    unfold Go.Proofs.Ytlmhajfbpplpoaa.evC
    split
    · split
      · exact EvM.evC hΓ hΛ a T
      · exact EvM.evC hΓ hΛ b T
    · exact EvM.const _
  | .block id c, T => by
    unfold Go.Proofs.Ytlmhajfbpplpoaa.evC
    exact EvM.bind (EvM.evC hΓ hΛ c T) fun r => EvM.const _
  | .loop i q, T => by
    unfold Go.Proofs.Ytlmhajfbpplpoaa.evC
    refine EvM.bind (EvM.const _) fun _ => EvM.bind (EvM.const _) fun _ => ?_
    split
    · exact EvM.bind (hΛ _ _) fun _ => EvM.const _
    · exact EvM.const _
  | .exit id, T => EvM.const _
  | .ret, T => EvM.const _
  | .bad, _ => EvM.const _
theorem EvM.fnM {B : Ar} (own : List (Nat × Nat)) (f : Nat) (mf : MFn) (args : List AV) : EvM A M fun D => fnM B D own f mf args := by
  unfold Go.Proofs.Ytlmhajfbpplpoaa.fnM
  exact EvM.bind (EvM.evC (Γ := fun D => Go.Proofs.Ytlmhajfbpplpoaa.callsM D own) (Λ := fun D => Go.Proofs.Ytlmhajfbpplpoaa.loopsM D f) (EvM.callsM own) (EvM.loopsM f) _ _) fun r => EvM.const _
theorem EvM.lpM {B : Ar} (own : List (Nat × Nat)) (f i : Nat) (q : LpH) (c : MC) (T : List AV) : EvM A M fun D => lpM B D own f i q c T := by
  unfold Go.Proofs.Ytlmhajfbpplpoaa.lpM
  refine EvM.bind (EvM.evC (Γ := fun D => Go.Proofs.Ytlmhajfbpplpoaa.callsM D own) (Λ := fun D => Go.Proofs.Ytlmhajfbpplpoaa.loopsM D f) (EvM.callsM own) (EvM.loopsM f) _ _) fun r => ?_
  split
  · exact EvM.bind (EvM.const _) fun _ => EvM.bind (EvM.loopsM _ _ _) fun _ => EvM.const _
  · exact EvM.const _
  · exact EvM.const _
theorem Ev.gcRun {m : Orc → List AV → AM AV} (h : ∀ args, EvM A M fun D => m D args) (args : List AV) (bs : List ABlk) : Ev A M fun D => gcD (runD (m D)) args bs := fun r e => by
  have key : ∀ q, runD (m (Dstar A M)) args bs = some q → ∃ n, ∀ k, n ≤ k → runD (m (Dn A M k)) args bs = some q := fun q hq => by
    unfold runD at hq ⊢
    cases e1 : m (Dstar A M) args ⟨enumB 0 bs, bs.length, none⟩ with
    | none => rw [e1] at hq; cases hq
    | some x =>
      rw [e1] at hq
      obtain ⟨n, hn⟩ : ∃ n, ∀ k, n ≤ k → m (Dn A M k) args ⟨enumB 0 bs, bs.length, none⟩ = some x := h args _ _ e1
      exact ⟨n, fun k hk => by rw [hn k hk]; exact hq⟩
  have e : gcD (runD (m (Dstar A M))) args bs = some r := e
  unfold gcD at e
  cases e1 : runD (m (Dstar A M)) args bs with
  | none => rw [e1] at e; cases e
  | some q =>
    rw [e1] at e
    obtain ⟨n, hn⟩ := key q e1
    refine ⟨n, fun k hk => ?_⟩
    show gcD (runD (m (Dn A M k))) args bs = some r
    unfold gcD
    rw [hn k hk]; exact e
theorem star_next {k : Key} {args : List AV} {bs : List ABlk} {r : AV × List BO} (h : ∃ n, ∀ m, n ≤ m → (stepD A M (Dn A M m)).ask k args bs = some r) : (Dstar A M).ask k args bs = some r := by
  obtain ⟨n, hn⟩ := h
  refine star_of (n := n + 1) fun m hm => ?_
  cases m with
  | zero => omega
  | succ m => exact hn m (by omega)
/-- THE RULE for a function: run its code, asking the limit. -/
theorem star_fn {f : Nat} {mf : MFn} (he : M.ext f = none) (hf : M.fns f = some mf) {args : List AV} {bs : List ABlk} {r : AV × List BO} (h : gcD (runD (fnM A (Dstar A M) M.own f mf)) args bs = some r) : (Dstar A M).ask (.fn f) args bs = some r := by
  obtain ⟨n, hn⟩ := Ev.gcRun (m := fun D => fnM A D M.own f mf) (fun args => EvM.fnM M.own f mf args) args bs r h
  refine star_next ⟨n, fun m hm => ?_⟩
  show (match M.ext f with
    | some d => d args bs
    | none => (match M.fns f with
      | some mf => gcD (runD (fnM A (Dn A M m) M.own f mf)) args bs
      | none => none)) = _
  rw [he, hf]
  exact hn m hm
/-- THE RULE for a loop. -/
theorem star_lp {f i : Nat} {mf : MFn} {live : LpH} {c : MC} (hf : M.fns f = some mf) (hl : mf.loops[i]? = some (live, c)) {args : List AV} {bs : List ABlk} {r : AV × List BO} (h : gcD (runD (lpM A (Dstar A M) M.own f i live c)) args bs = some r) : (Dstar A M).ask (.lp f i) args bs = some r := by
  obtain ⟨n, hn⟩ := Ev.gcRun (m := fun D => lpM A D M.own f i live c) (fun args => EvM.lpM M.own f i live c args) args bs r h
  refine star_next ⟨n, fun m hm => ?_⟩
  show (match M.fns f with
    | some mf => (match mf.loops[i]? with
      | some lc => gcD (runD (lpM A (Dn A M m) M.own f i lc.1 lc.2)) args bs
      | none => none)
    | none => none) = _
  rw [hf]
  simp only [hl]
  exact hn m hm
/-- A function that is told of from elsewhere. -/
theorem star_ext {f : Nat} {d : DF} (he : M.ext f = some d) {args : List AV} {bs : List ABlk} {r : AV × List BO} (h : d args bs = some r) : (Dstar A M).ask (.fn f) args bs = some r :=
  star_next ⟨0, fun m _ => by
    show (match M.ext f with
      | some d => d args bs
      | none => (match M.fns f with
        | some mf => gcD (runD (fnM A (Dn A M m) M.own f mf)) args bs
        | none => none)) = _
    rw [he]; exact h⟩
end
/-- A seat's resolved code is that of the program. -/
structure SeatOk (P : Program) (ents : Nat) (M : Seat) : Prop where
  mixed : P.follows .mixedOrders = true
  ent : EntOk P ents
  fns : ∀ f mf, M.fns f = some mf → FnOk P ents f mf
  ext : ∀ f d, M.ext f = some d → GoodD (SemFn P f) d
theorem sub_loops (P : Program) (ents : Nat) (hs : Hints) : ∀ (c : Code) (n : Nat) (j : Nat) (c' : Code), (lpsC c)[j]? = some c' → ∃ live, (∀ q, hs[n + j]? = some q → live = q) ∧ (compC P ents hs c n).2[j]? = some (live, (compC P ents hs c' (n + j + 1)).1) ∧ (okC c = true → okC c' = true) ∧ ∀ i c2, (lpsC c')[i]? = some c2 → (lpsC c)[j + 1 + i]? = some c2
  | .skip, n, j, c', h => by simp [lpsC] at h
  | .region .., n, j, c', h => by simp [lpsC] at h
  | .seq a b, n, j, c', h => by
    have h : (lpsC a ++ lpsC b)[j]? = some c' := h
    have hn : (compC P ents hs (.seq a b) n).2 = (compC P ents hs a n).2 ++ (compC P ents hs b (n + (compC P ents hs a n).2.length)).2 := rfl
    rw [hn]
    rcases Nat.lt_or_ge j (lpsC a).length with hj | hj
    · rw [List.getElem?_append_left hj] at h
      obtain ⟨live, h0, h1, h2, h3⟩ := sub_loops P ents hs a n j c' h
      refine ⟨live, h0, by rw [List.getElem?_append_left (by rw [lps_length]; exact hj)]; exact h1, fun hok => h2 (by simp only [okC, Bool.and_eq_true] at hok; exact hok.1), fun i c2 hi => ?_⟩
      have := h3 i c2 hi
      show (lpsC a ++ lpsC b)[j + 1 + i]? = some c2
      rw [List.getElem?_append_left (List.getElem?_eq_some_iff.1 this).1]; exact this
    · rw [List.getElem?_append_right hj] at h
      obtain ⟨live, h0, h1, h2, h3⟩ := sub_loops P ents hs b (n + (compC P ents hs a n).2.length) (j - (lpsC a).length) c' h
      have hl := lps_length P ents hs a n
      rw [hl] at h0
      refine ⟨live, fun q hq => h0 q (by rw [show n + (lpsC a).length + (j - (lpsC a).length) = n + j by omega]; exact hq), ?_, fun hok => h2 (by simp only [okC, Bool.and_eq_true] at hok; exact hok.2), fun i c2 hi => ?_⟩
      · rw [List.getElem?_append_right (by omega), hl]
        rw [hl] at h1
        rw [show n + j + 1 = n + (lpsC a).length + (j - (lpsC a).length) + 1 by omega]
        exact h1
      · have := h3 i c2 hi
        show (lpsC a ++ lpsC b)[j + 1 + i]? = some c2
        rw [List.getElem?_append_right (by omega), show j + 1 + i - (lpsC a).length = j - (lpsC a).length + 1 + i by omega]; exact this
  | .cond q a b, n, j, c', h => by
    have h : (lpsC a ++ lpsC b)[j]? = some c' := h
    have hn : (compC P ents hs (.cond q a b) n).2 = (compC P ents hs a n).2 ++ (compC P ents hs b (n + (compC P ents hs a n).2.length)).2 := rfl
    rw [hn]
    rcases Nat.lt_or_ge j (lpsC a).length with hj | hj
    · rw [List.getElem?_append_left hj] at h
      obtain ⟨live, h0, h1, h2, h3⟩ := sub_loops P ents hs a n j c' h
      refine ⟨live, h0, by rw [List.getElem?_append_left (by rw [lps_length]; exact hj)]; exact h1, fun hok => h2 (by simp only [okC, Bool.and_eq_true] at hok; exact hok.1), fun i c2 hi => ?_⟩
      have := h3 i c2 hi
      show (lpsC a ++ lpsC b)[j + 1 + i]? = some c2
      rw [List.getElem?_append_left (List.getElem?_eq_some_iff.1 this).1]; exact this
    · rw [List.getElem?_append_right hj] at h
      obtain ⟨live, h0, h1, h2, h3⟩ := sub_loops P ents hs b (n + (compC P ents hs a n).2.length) (j - (lpsC a).length) c' h
      have hl := lps_length P ents hs a n
      rw [hl] at h0
      refine ⟨live, fun q hq => h0 q (by rw [show n + (lpsC a).length + (j - (lpsC a).length) = n + j by omega]; exact hq), ?_, fun hok => h2 (by simp only [okC, Bool.and_eq_true] at hok; exact hok.2), fun i c2 hi => ?_⟩
      · rw [List.getElem?_append_right (by omega), hl]
        rw [hl] at h1
        rw [show n + j + 1 = n + (lpsC a).length + (j - (lpsC a).length) + 1 by omega]
        exact h1
      · have := h3 i c2 hi
        show (lpsC a ++ lpsC b)[j + 1 + i]? = some c2
        rw [List.getElem?_append_right (by omega), show j + 1 + i - (lpsC a).length = j - (lpsC a).length + 1 + i by omega]; exact this
  | .block id a, n, j, c', h => sub_loops P ents hs a n j c' h
  | .loop a, n, j, c', h => by
    have h : (a :: lpsC a)[j]? = some c' := h
    have hn : ∃ live, (∀ q, hs[n]? = some q → live = q) ∧ (compC P ents hs (.loop a) n).2 = (live, (compC P ents hs a (n + 1)).1) :: (compC P ents hs a (n + 1)).2 := by
      have : compC P ents hs (.loop a) n = (match compC P ents hs a (n + 1), hs[n]? with
        | (mc, lc), some h => (.loop n h, (h, mc) :: lc)
        | (mc, lc), none => (.bad, (⟨0, [], [], [], []⟩, mc) :: lc)) := by rw [compC]; rfl
      rw [this]
      cases hs[n]? with
      | none => exact ⟨_, fun q h => (by cases h), rfl⟩
      | some q => exact ⟨_, fun q' h => Option.some.inj h, rfl⟩
    obtain ⟨live, hq0, hn⟩ := hn
    rw [hn]
    cases j with
    | zero =>
      simp only [List.getElem?_cons_zero, Option.some.injEq] at h
      subst h
      exact ⟨live, hq0, rfl, fun hok => hok, fun i c2 hi => by
        show (a :: lpsC a)[0 + 1 + i]? = some c2
        rw [show 0 + 1 + i = i + 1 by omega]; exact hi⟩
    | succ j =>
      simp only [List.getElem?_cons_succ] at h
      obtain ⟨live', h0, h1, h2, h3⟩ := sub_loops P ents hs a (n + 1) j c' h
      refine ⟨live', fun q hq => h0 q (by rw [show n + 1 + j = n + (j + 1) by omega]; exact hq), ?_, h2, fun i c2 hi => ?_⟩
      · simp only [List.getElem?_cons_succ]
        rw [show n + (j + 1) + 1 = n + 1 + j + 1 by omega]; exact h1
      · show (a :: lpsC a)[j + 1 + 1 + i]? = some c2
        rw [show j + 1 + 1 + i = (j + 1 + i) + 1 by omega]; exact h3 i c2 hi
  | .exit _, n, j, c', h => by simp [lpsC] at h
  | .ret, n, j, c', h => by simp [lpsC] at h
  | .rangeFunc .., n, j, c', h => by simp [lpsC] at h
  | .scope _, n, j, c', h => by simp [lpsC] at h
  | .label _, n, j, c', h => by simp [lpsC] at h
  | .goto _, n, j, c', h => by simp [lpsC] at h
  | .refuse _, n, j, c', h => by simp [lpsC] at h
theorem goodD_none {S : SemT} : GoodD S fun _ _ => none := fun _ _ _ _ h => by cases h
/-- All iterates are right. -/
theorem dn_good {P : Program} {ents : Nat} {M : Seat} (hM : SeatOk P ents M) : ∀ n, (∀ f, GoodD (SemFn P f) ((Dn realA M n).ask (.fn f))) ∧ ∀ f mf fn c, M.fns f = some mf → P.funcs[f]? = some fn → fn.body = some c → ∀ i c' q mc, (lpsC c)[i]? = some c' → mf.loops[i]? = some (q, mc) → GoodD (SemLp P q c') ((Dn realA M n).ask (.lp f i))
  | 0 => ⟨fun _ => goodD_none, fun _ _ _ _ _ _ _ _ _ _ _ _ _ => goodD_none⟩
  | n + 1 => by
    obtain ⟨ih1, ih2⟩ := dn_good hM n
    have hΓ := callsM_sound (P := P) M.own ih1
    refine ⟨fun f => ?_, fun f mf fn c h0 h1 h2 i c' q mc hi hq => ?_⟩
    · have hd : (Dn realA M (n + 1)).ask (.fn f) = fun args bs => (match M.ext f with
          | some d => d args bs
          | none => (match M.fns f with
            | some mf => gcD (runD (fnM realA (Dn realA M n) M.own f mf)) args bs
            | none => none)) := rfl
      rw [hd]
      cases e : M.ext f with
      | some d => exact hM.ext f d e
      | none =>
        cases e2 : M.fns f with
        | none => exact goodD_none
        | some mf =>
          obtain ⟨fn, c, hs, k1, k2, k3, k4, k5, k6, k7, k8⟩ := (hM.fns f mf e2).ok
          refine gcD_good (semFn_mono P f) (runD_good (fnM_sound M.own hM.mixed hM.ent k1 k2 k3 k4 k5 k6 k7 hΓ fun j c' q hj hq => loopsM_sound ?_) fun args => Loc.fnM _ _ _ _ _ _)
          obtain ⟨live, q0, q1, _, _⟩ := sub_loops P ents hs c 0 j c' hj
          rw [Nat.zero_add] at q0
          rw [q0 q hq] at q1
          exact ih2 f mf fn c e2 k1 k2 j c' q _ hj (by rw [k8]; exact q1)
    · have hd : (Dn realA M (n + 1)).ask (.lp f i) = fun args bs => (match M.fns f with
          | some mf => (match mf.loops[i]? with
            | some lc => gcD (runD (lpM realA (Dn realA M n) M.own f i lc.1 lc.2)) args bs
            | none => none)
          | none => none) := rfl
      rw [hd, h0]
      simp only [hq]
      obtain ⟨fn', c0, hs, k1, k2, k3, k4, k5, k6, k7, k8⟩ := (hM.fns f mf h0).ok
      rw [h1] at k1
      cases k1
      rw [h2] at k2
      cases k2
      obtain ⟨live, q0, q1, q2, q3⟩ := sub_loops P ents hs c 0 i c' hi
      rw [k8, q1] at hq
      simp only [Option.some.injEq, Prod.mk.injEq] at hq
      obtain ⟨rfl, rfl⟩ := hq
      refine gcD_good (semLp_mono P live c') (runD_good (lpM_sound M.own hM.mixed hM.ent (q2 k3) hΓ (fun j c2 q hj hq => ?_) (ih2 f mf fn c h0 h1 h2 i c' live _ hi (by rw [k8]; exact q1))) fun args => Loc.lpM _ _ _ _ _ _ _ _)
      rw [show 0 + i + 1 + j = i + 1 + j by omega]
      obtain ⟨live2, p0, p1, _, _⟩ := sub_loops P ents hs c 0 (i + 1 + j) c2 (q3 j c2 hj)
      rw [show 0 + (i + 1 + j) = 0 + i + 1 + j by omega] at p0
      rw [p0 q hq] at p1
      exact loopsM_sound (ih2 f mf fn c h0 h1 h2 (i + 1 + j) c2 q _ (q3 j c2 hj) (by rw [k8]; exact p1))
/-- What the limit tells of a function is right. -/
theorem star_good {P : Program} {ents : Nat} {M : Seat} (hM : SeatOk P ents M) (f : FuncId) : GoodD (SemFn P f) ((Dstar realA M).ask (.fn f)) := by
  intro args bs r out h
  obtain ⟨n, hn⟩ := star_some h
  exact (dn_good hM n).1 f args bs r out (hn n (Nat.le_refl _))
end Go.Proofs.Ytlmhajfbpplpoaa
