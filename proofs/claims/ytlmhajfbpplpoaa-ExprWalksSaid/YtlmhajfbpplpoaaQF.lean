/-
  Code over the small heap, computed with fuel. No program in sight.
-/
import Derived.Test.YtlmhajfbpplpoaaQ4
set_option linter.unusedSectionVars false
set_option linter.unusedSimpArgs false
set_option linter.unusedVariables false
namespace Go.Proofs.Ytlmhajfbpplpoaa
open Go.RowKit

def logged {α : Type} (m : AM α) : AM (α × Foot) := fun H => match m H with
  | some (a, H', f) => some ((a, f), H', f)
  | none => none
theorem Loc.logged {α : Type} {m : AM α} (h : Loc m) : Loc (logged m) := fun H r H' ft hw hr => by
  obtain ⟨a, f⟩ := r
  unfold Go.Proofs.Ytlmhajfbpplpoaa.logged at hr
  rcases e : m H with _ | ⟨a', H1, f1⟩ <;> rw [e] at hr
  · cases hr
  simp only [Option.some.injEq, Prod.mk.injEq] at hr
  obtain ⟨⟨rfl, rfl⟩, rfl, rfl⟩ := hr
  have L := h H a' H1 f1 hw e
  refine ⟨L.next, L.top, L.fit, L.wf, L.new, L.bound, L.same, fun K hn hfit hag => ?_⟩
  obtain ⟨K', k1, k2⟩ := L.move K hn hfit hag
  exact ⟨K', by unfold Go.Proofs.Ytlmhajfbpplpoaa.logged; rw [k1], k2⟩
def logRun (P : Program) (Γ : FuncId → List AV → AM AV) (ops : Array Oper) (l : List Oper) (T : List AV) : AM (List AV × List Foot) := fun H => match runL P Γ ops l T H with
  | some (T', H', fs) => some ((T', fs), H', ⟨fs.flatMap (·.rd), fs.flatMap (·.wr)⟩)
  | none => none
theorem logRun_cons (P : Program) (Γ : FuncId → List AV → AM AV) (ops : Array Oper) (o : Oper) (r : List Oper) (T : List AV) :
    logRun P Γ ops (o :: r) T = (logged (coreA P Γ ops o T)).bind fun vf => (logRun P Γ ops r (dstSet T o.dst vf.1)).bind fun q => AM.ret (q.1, vf.2 :: q.2) := by
  funext H
  simp only [logRun, runL, stepA, AM.bind, logged, AM.ret]
  rcases coreA P Γ ops o T H with _ | ⟨v, H1, f⟩
  · rfl
  simp only
  rcases runL P Γ ops r (dstSet T o.dst v) H1 with _ | ⟨T2, H2, fs⟩
  · rfl
  · simp
theorem Loc.logRun {P : Program} {Γ : FuncId → List AV → AM AV} (hL : ∀ f args, Loc (Γ f args)) {ops : Array Oper} : ∀ (l : List Oper) (T : List AV), Loc (logRun P Γ ops l T)
  | [], T => by
    have : Go.Proofs.Ytlmhajfbpplpoaa.logRun P Γ ops [] T = AM.ret (T, []) := by funext H; simp [Go.Proofs.Ytlmhajfbpplpoaa.logRun, runL, AM.ret]
    rw [this]; exact Loc.ret _
  | o :: r, T => by
    rw [logRun_cons]
    exact Loc.bind (Loc.logged (Loc.coreA hL ops o T)) fun _ => Loc.bind (Loc.logRun hL r _) fun _ => Loc.ret _
def regionM (P : Program) (Γ : FuncId → List AV → AM AV) (ops : Array Oper) (draw : Bool) (T : List AV) : AM (List AV) :=
  (logRun P Γ ops ops.toList T).bind fun r => if draw = true then (if heapOk (bef ops) r.2 = true then AM.ret r.1 else AM.fail) else AM.ret r.1
def ev (P : Program) (Γ : FuncId → List AV → AM AV) : Nat → Code → List AV → AM (AX × List AV)
  | 0, _, _ => AM.fail
  | n + 1, c, T => match c with
    | .skip => AM.ret (.normal, T)
    | .label _ => AM.ret (.normal, T)
    | .exit id => AM.ret (.exit id, T)
    | .ret => AM.ret (.ret, T)
    | .goto l => AM.ret (.goto l, T)
    | .scope (.seq R (.seq (.label l) X)) => if (findLabel R l).isNone = true then (ev P Γ n R T).bind fun r => match r.1 with
        | .normal => (ev P Γ n X r.2).bind fun q => match q.1 with
          | .goto l' => if l' = l then ev P Γ n (.scope (.seq .skip (.seq (.label l) X))) q.2 else AM.fail
          | ax => AM.ret (ax, q.2)
        | .goto _ => AM.fail
        | ax => AM.ret (ax, r.2)
      else AM.fail
    | .region _ ops draw => (regionM P Γ ops draw T).bind fun T' => AM.ret (.normal, T')
    | .seq x y => (ev P Γ n x T).bind fun r => match r.1 with
      | .normal => ev P Γ n y r.2
      | ax => AM.ret (ax, r.2)
    | .cond c x y => (match opdA T c with
      | .v (.bool t) => if t = true then ev P Γ n x T else ev P Γ n y T
      | _ => AM.fail)
    | .block id c => (ev P Γ n c T).bind fun r => match r.1 with
      | .exit i => if i = id then AM.ret (.normal, r.2) else AM.ret (.exit i, r.2)
      | ax => AM.ret (ax, r.2)
    | .loop c => (ev P Γ n c T).bind fun r => match r.1 with
      | .normal => ev P Γ n (.loop c) r.2
      | ax => AM.ret (ax, r.2)
    | _ => AM.fail
theorem Loc.ev {P : Program} {Γ : FuncId → List AV → AM AV} (hL : ∀ f args, Loc (Γ f args)) : ∀ (n : Nat) (c : Code) (T : List AV), Loc (ev P Γ n c T)
  | 0, _, _ => Loc.fail
  | n + 1, c, T => by
    have ih : ∀ (c : Code) (T : List AV), Loc (Go.Proofs.Ytlmhajfbpplpoaa.ev P Γ n c T) := fun c T => Loc.ev hL n c T
    unfold Go.Proofs.Ytlmhajfbpplpoaa.ev
    split
    · exact Loc.ret _
    · exact Loc.ret _
    · exact Loc.ret _
    · exact Loc.ret _
    · exact Loc.ret _
    · refine Loc.ite (Loc.bind (ih _ T) fun r => ?_) Loc.fail
      split
      · refine Loc.bind (ih _ _) fun q => ?_
        split
        · exact Loc.ite (ih _ _) Loc.fail
        · exact Loc.ret _
      · exact Loc.fail
      · exact Loc.ret _
    · exact Loc.bind (Loc.bind (Loc.logRun hL _ _) fun _ => Loc.ite (Loc.ite (Loc.ret _) Loc.fail) (Loc.ret _)) fun _ => Loc.ret _
    · refine Loc.bind (ih _ T) fun r => ?_
      split
      · exact ih _ _
      · exact Loc.ret _
    · split
      · exact Loc.ite (ih _ T) (ih _ T)
      · exact Loc.fail
    · refine Loc.bind (ih _ T) fun r => ?_
      split
      · exact Loc.ite (Loc.ret _) (Loc.ret _)
      · exact Loc.ret _
    · refine Loc.bind (ih _ T) fun r => ?_
      split
      · exact ih _ _
      · exact Loc.ret _
    · exact Loc.fail
theorem aw_mono {P : Program} {Γ : FuncId → List AV → AM AV} : ∀ (c : Code) {Q Q' : AX → List AV → AH → Prop} {T : List AV} {H : AH}, aw P Γ c Q T H → (∀ x T H, Q x T H → Q' x T H) → aw P Γ c Q' T H
  | .skip, _, _, _, _, h, hq => by simp only [aw] at h ⊢; exact hq _ _ _ h
  | .label _, _, _, _, _, h, hq => by simp only [aw] at h ⊢; exact hq _ _ _ h
  | .exit _, _, _, _, _, h, hq => by simp only [aw] at h ⊢; exact hq _ _ _ h
  | .ret, _, _, _, _, h, hq => by simp only [aw] at h ⊢; exact hq _ _ _ h
  | .region .., _, _, _, _, h, hq => by
    simp only [aw] at h ⊢
    obtain ⟨T', H', fs, h1, h2, h3⟩ := h
    exact ⟨T', H', fs, h1, h2, hq _ _ _ h3⟩
  | .seq x y, _, _, _, _, h, hq => by
    simp only [aw] at h ⊢
    refine aw_mono x h fun ax T1 H1 h1 => ?_
    cases ax with
    | normal => exact aw_mono y h1 hq
    | exit i => exact hq _ _ _ h1
    | goto l => exact hq _ _ _ h1
    | ret => exact hq _ _ _ h1
  | .cond c x y, _, _, _, _, h, hq => by
    simp only [aw] at h ⊢
    obtain ⟨t, h1, h2⟩ := h
    refine ⟨t, h1, ?_⟩
    cases t with
    | true => rw [if_pos rfl] at h2 ⊢; exact aw_mono x h2 hq
    | false => rw [if_neg (by simp)] at h2 ⊢; exact aw_mono y h2 hq
  | .block id c, _, _, _, _, h, hq => by
    simp only [aw] at h ⊢
    refine aw_mono c h fun ax T1 H1 h1 => ?_
    cases ax with
    | normal => exact hq _ _ _ h1
    | exit i =>
      simp only [blockA] at h1 ⊢
      split
      · rename_i e; rw [if_pos e] at h1; exact hq _ _ _ h1
      · rename_i e; rw [if_neg e] at h1; exact hq _ _ _ h1
    | goto l => exact hq _ _ _ h1
    | ret => exact hq _ _ _ h1
  | .loop c, _, _, _, _, h, hq => by
    simp only [aw] at h ⊢
    obtain ⟨I, n, h1, h2⟩ := h
    refine ⟨I, n, h1, fun n T H hI hw => aw_mono c (h2 n T H hI hw) fun ax T1 H1 hx => ?_⟩
    cases ax with
    | normal => exact hx
    | exit i => exact hq _ _ _ hx
    | goto l => exact hq _ _ _ hx
    | ret => exact hq _ _ _ hx
  | .rangeFunc .., _, _, _, _, h, _ => by simp [aw] at h
  | .goto _, _, _, _, _, h, hq => by simp only [aw] at h ⊢; exact hq _ _ _ h
  | .scope (.seq R (.seq (.label l) X)), _, _, _, _, h, hq => by
    simp only [aw] at h ⊢
    refine ⟨h.1, aw_mono R h.2 fun ax T1 H1 h1 => ?_⟩
    cases ax with
    | normal =>
      obtain ⟨I, n, h2, h3⟩ := h1
      refine ⟨I, n, h2, fun n T H hI hw => aw_mono X (h3 n T H hI hw) fun ax T2 H2 hx => ?_⟩
      cases ax with
      | normal => exact hq _ _ _ hx
      | exit i => exact hq _ _ _ hx
      | goto l => exact hx
      | ret => exact hq _ _ _ hx
    | exit i => exact hq _ _ _ h1
    | goto l => exact h1
    | ret => exact hq _ _ _ h1
  | .refuse .., _, _, _, _, h, _ => by simp [aw] at h
  | .scope (.skip), _, _, _, _, h, _ => by simp [aw] at h
  | .scope (.region _ _ _), _, _, _, _, h, _ => by simp [aw] at h
  | .scope (.cond _ _ _), _, _, _, _, h, _ => by simp [aw] at h
  | .scope (.block _ _), _, _, _, _, h, _ => by simp [aw] at h
  | .scope (.loop _), _, _, _, _, h, _ => by simp [aw] at h
  | .scope (.rangeFunc _ _ _ _), _, _, _, _, h, _ => by simp [aw] at h
  | .scope (.exit _), _, _, _, _, h, _ => by simp [aw] at h
  | .scope (.scope _), _, _, _, _, h, _ => by simp [aw] at h
  | .scope (.goto _), _, _, _, _, h, _ => by simp [aw] at h
  | .scope (.ret), _, _, _, _, h, _ => by simp [aw] at h
  | .scope (.refuse _), _, _, _, _, h, _ => by simp [aw] at h
  | .scope (.label _), _, _, _, _, h, _ => by simp [aw] at h
  | .scope (.seq _ (.skip)), _, _, _, _, h, _ => by simp [aw] at h
  | .scope (.seq _ (.region _ _ _)), _, _, _, _, h, _ => by simp [aw] at h
  | .scope (.seq _ (.cond _ _ _)), _, _, _, _, h, _ => by simp [aw] at h
  | .scope (.seq _ (.block _ _)), _, _, _, _, h, _ => by simp [aw] at h
  | .scope (.seq _ (.loop _)), _, _, _, _, h, _ => by simp [aw] at h
  | .scope (.seq _ (.rangeFunc _ _ _ _)), _, _, _, _, h, _ => by simp [aw] at h
  | .scope (.seq _ (.exit _)), _, _, _, _, h, _ => by simp [aw] at h
  | .scope (.seq _ (.scope _)), _, _, _, _, h, _ => by simp [aw] at h
  | .scope (.seq _ (.goto _)), _, _, _, _, h, _ => by simp [aw] at h
  | .scope (.seq _ (.ret)), _, _, _, _, h, _ => by simp [aw] at h
  | .scope (.seq _ (.refuse _)), _, _, _, _, h, _ => by simp [aw] at h
  | .scope (.seq _ (.label _)), _, _, _, _, h, _ => by simp [aw] at h
  | .scope (.seq _ (.seq (.skip) _)), _, _, _, _, h, _ => by simp [aw] at h
  | .scope (.seq _ (.seq (.region _ _ _) _)), _, _, _, _, h, _ => by simp [aw] at h
  | .scope (.seq _ (.seq (.cond _ _ _) _)), _, _, _, _, h, _ => by simp [aw] at h
  | .scope (.seq _ (.seq (.block _ _) _)), _, _, _, _, h, _ => by simp [aw] at h
  | .scope (.seq _ (.seq (.loop _) _)), _, _, _, _, h, _ => by simp [aw] at h
  | .scope (.seq _ (.seq (.rangeFunc _ _ _ _) _)), _, _, _, _, h, _ => by simp [aw] at h
  | .scope (.seq _ (.seq (.exit _) _)), _, _, _, _, h, _ => by simp [aw] at h
  | .scope (.seq _ (.seq (.scope _) _)), _, _, _, _, h, _ => by simp [aw] at h
  | .scope (.seq _ (.seq (.goto _) _)), _, _, _, _, h, _ => by simp [aw] at h
  | .scope (.seq _ (.seq (.ret) _)), _, _, _, _, h, _ => by simp [aw] at h
  | .scope (.seq _ (.seq (.refuse _) _)), _, _, _, _, h, _ => by simp [aw] at h
  | .scope (.seq _ (.seq (.seq _ _) _)), _, _, _, _, h, _ => by simp [aw] at h
/-- What is computed with fuel is what must hold. -/
theorem ev_aw {P : Program} {Γ : FuncId → List AV → AM AV} : ∀ (n : Nat) (c : Code) {T T' : List AV} {H H' : AH} {x : AX} {ft : Foot}, ev P Γ n c T H = some ((x, T'), H', ft) → aw P Γ c (fun x1 T1 H1 => x1 = x ∧ T1 = T' ∧ H1 = H') T H := by
  intro n
  induction n using Nat.strongRecOn with
  | _ n ih =>
    intro c T T' H H' x ft h
    cases n with
    | zero => exact (fail_some h).elim
    | succ n =>
      have hscope : ∀ {R X : Code} {l : Nat}, c = .scope (.seq R (.seq (.label l) X)) → aw P Γ c (fun x1 T1 H1 => x1 = x ∧ T1 = T' ∧ H1 = H') T H := by
        rintro R X l rfl
        simp only [ev] at h
        rcases ite_some h with ⟨hl, h⟩ | ⟨_, h⟩
        rotate_left
        · exact (fail_some h).elim
        obtain ⟨⟨x1, T1⟩, H1, f1, f2, h1, h2⟩ := bind_some h
        simp only [aw]
        refine ⟨hl, aw_mono R (ih n (by omega) R h1) ?_⟩
        rintro ax T2 H2 ⟨rfl, rfl, rfl⟩
        simp only at h2
        cases ax with
        | goto l' => exact (fail_some h2).elim
        | exit i => obtain ⟨e, rfl⟩ := ret_some h2; simp only [Prod.mk.injEq] at e; exact ⟨e.1.symm, e.2.symm, rfl⟩
        | ret => obtain ⟨e, rfl⟩ := ret_some h2; simp only [Prod.mk.injEq] at e; exact ⟨e.1.symm, e.2.symm, rfl⟩
        | normal =>
          -- from the label on, with fuel k
          refine ⟨fun k T H => k ≤ n ∧ ∃ (ax : AX) (T3 : List AV) (H3 : AH) (g1 g2 : Foot), ev P Γ k X T H = some ((ax, T3), H3, g1) ∧ (match ax with
            | .goto l' => if l' = l then ev P Γ k (.scope (.seq .skip (.seq (.label l) X))) T3 else AM.fail
            | ax => AM.ret (ax, T3)) H3 = some ((x, T'), H', g2), n, ?_, ?_⟩
          · obtain ⟨⟨x3, T3⟩, H3, f3, f4, h3, h4⟩ := bind_some h2
            exact ⟨Nat.le_refl _, x3, T3, H3, f3, f4, h3, h4⟩
          · rintro k T4 H4 ⟨hk, ax, T3, H3, g1, g2, h3, h4⟩ _
            refine aw_mono X (ih k (by omega) X h3) ?_
            rintro ay T5 H5 ⟨rfl, rfl, rfl⟩
            cases ay with
            | normal => obtain ⟨e, rfl⟩ := ret_some h4; simp only [Prod.mk.injEq] at e; exact ⟨e.1.symm, e.2.symm, rfl⟩
            | exit i => obtain ⟨e, rfl⟩ := ret_some h4; simp only [Prod.mk.injEq] at e; exact ⟨e.1.symm, e.2.symm, rfl⟩
            | ret => obtain ⟨e, rfl⟩ := ret_some h4; simp only [Prod.mk.injEq] at e; exact ⟨e.1.symm, e.2.symm, rfl⟩
            | goto l' =>
              rcases ite_some h4 with ⟨hll, h4⟩ | ⟨_, h4⟩
              rotate_left
              · exact (fail_some h4).elim
              refine ⟨hll, ?_⟩
              cases k with
              | zero => exact (fail_some h4).elim
              | succ k =>
                simp only [ev] at h4
                rcases ite_some h4 with ⟨_, h4⟩ | ⟨_, h4⟩
                rotate_left
                · exact (fail_some h4).elim
                obtain ⟨⟨x6, T6⟩, H6, f6, f7, h6, h7⟩ := bind_some h4
                have hskip : x6 = .normal ∧ T6 = T5 ∧ H6 = H5 := by
                  cases k with
                  | zero => exact (fail_some h6).elim
                  | succ k =>
                    simp only [ev] at h6
                    obtain ⟨e, e2⟩ := ret_some h6
                    simp only [Prod.mk.injEq] at e
                    exact ⟨e.1, e.2, e2⟩
                obtain ⟨rfl, rfl, rfl⟩ := hskip
                simp only at h7
                obtain ⟨⟨x8, T8⟩, H8, f8, f9, h8, h9⟩ := bind_some h7
                exact ⟨k, by omega, by omega, x8, T8, H8, f8, f9, h8, h9⟩
      cases c <;> (try simp only [ev] at h) <;> try (exact (fail_some h).elim)
      case goto l => obtain ⟨e, rfl⟩ := ret_some h; simp only [Prod.mk.injEq] at e; show _ ∧ _ ∧ _; exact ⟨e.1.symm, e.2.symm, rfl⟩
      case scope c =>
        cases c <;> try (simp only [ev] at h; exact (fail_some h).elim)
        case seq R c2 =>
          cases c2 <;> try (simp only [ev] at h; exact (fail_some h).elim)
          case seq c3 X =>
            cases c3 <;> try (simp only [ev] at h; exact (fail_some h).elim)
            case label l => exact hscope rfl
      case skip => obtain ⟨e, rfl⟩ := ret_some h; simp only [Prod.mk.injEq] at e; show _ ∧ _ ∧ _; exact ⟨e.1.symm, e.2.symm, rfl⟩
      case label l => obtain ⟨e, rfl⟩ := ret_some h; simp only [Prod.mk.injEq] at e; show _ ∧ _ ∧ _; exact ⟨e.1.symm, e.2.symm, rfl⟩
      case exit id => obtain ⟨e, rfl⟩ := ret_some h; simp only [Prod.mk.injEq] at e; show _ ∧ _ ∧ _; exact ⟨e.1.symm, e.2.symm, rfl⟩
      case ret => obtain ⟨e, rfl⟩ := ret_some h; simp only [Prod.mk.injEq] at e; show _ ∧ _ ∧ _; exact ⟨e.1.symm, e.2.symm, rfl⟩
      case region id ops draw =>
        obtain ⟨T1, H1, f1, f2, h1, h2⟩ := bind_some h
        obtain ⟨e, rfl⟩ := ret_some h2
        simp only [Prod.mk.injEq] at e
        obtain ⟨⟨T2, fs⟩, H2, f3, f4, h3, h4⟩ := bind_some h1
        simp only [aw]
        unfold logRun at h3
        rcases e3 : runL P Γ ops ops.toList T H with _ | ⟨T3, H3, fs3⟩ <;> rw [e3] at h3
        · cases h3
        simp only [Option.some.injEq, Prod.mk.injEq] at h3
        obtain ⟨⟨rfl, rfl⟩, rfl, _⟩ := h3
        rcases ite_some h4 with ⟨hd, h4⟩ | ⟨hd, h4⟩
        · rcases ite_some h4 with ⟨hh, h4⟩ | ⟨_, h4⟩
          · obtain ⟨rfl, rfl⟩ := ret_some h4
            exact ⟨_, _, _, rfl, fun _ => hh, e.1.symm, e.2.symm, rfl⟩
          · exact (fail_some h4).elim
        · obtain ⟨rfl, rfl⟩ := ret_some h4
          exact ⟨_, _, _, rfl, fun hd' => absurd hd' hd, e.1.symm, e.2.symm, rfl⟩
      case seq y z =>
        obtain ⟨⟨x1, T1⟩, H1, f1, f2, h1, h2⟩ := bind_some h
        simp only [aw]
        refine aw_mono y (ih n (by omega) y h1) ?_
        rintro ax T2 H2 ⟨rfl, rfl, rfl⟩
        simp only at h2
        cases ax with
        | normal => exact ih n (by omega) z h2
        | exit i => obtain ⟨e, rfl⟩ := ret_some h2; simp only [Prod.mk.injEq] at e; exact ⟨e.1.symm, e.2.symm, rfl⟩
        | goto l => obtain ⟨e, rfl⟩ := ret_some h2; simp only [Prod.mk.injEq] at e; exact ⟨e.1.symm, e.2.symm, rfl⟩
        | ret => obtain ⟨e, rfl⟩ := ret_some h2; simp only [Prod.mk.injEq] at e; exact ⟨e.1.symm, e.2.symm, rfl⟩
      case cond c y z =>
        simp only [aw]
        have hbool : ∃ t, opdA T c = .v (.bool t) := by
          cases e : opdA T c with
          | v u =>
            cases u with
            | bool t => exact ⟨t, rfl⟩
            | _ => rw [e] at h; exact (fail_some h).elim
          | _ => rw [e] at h; exact (fail_some h).elim
        obtain ⟨t, ht⟩ := hbool
        rw [ht] at h
        simp only at h
        refine ⟨t, ht, ?_⟩
        rcases ite_some h with ⟨hc, h⟩ | ⟨hc, h⟩
        · rw [if_pos hc]; exact ih n (by omega) y h
        · rw [if_neg hc]; exact ih n (by omega) z h
      case block id c =>
        obtain ⟨⟨x1, T1⟩, H1, f1, f2, h1, h2⟩ := bind_some h
        simp only [aw]
        refine aw_mono c (ih n (by omega) c h1) ?_
        rintro ax T2 H2 ⟨rfl, rfl, rfl⟩
        simp only at h2
        cases ax with
        | normal => obtain ⟨e, rfl⟩ := ret_some h2; simp only [Prod.mk.injEq] at e; exact ⟨e.1.symm, e.2.symm, rfl⟩
        | ret => obtain ⟨e, rfl⟩ := ret_some h2; simp only [Prod.mk.injEq] at e; exact ⟨e.1.symm, e.2.symm, rfl⟩
        | goto l => obtain ⟨e, rfl⟩ := ret_some h2; simp only [Prod.mk.injEq] at e; exact ⟨e.1.symm, e.2.symm, rfl⟩
        | exit i =>
          simp only at h2
          simp only [blockA]
          rcases ite_some h2 with ⟨hc, h2⟩ | ⟨hc, h2⟩
          · rw [if_pos hc]; obtain ⟨e, rfl⟩ := ret_some h2; simp only [Prod.mk.injEq] at e; exact ⟨e.1.symm, e.2.symm, rfl⟩
          · rw [if_neg hc]; obtain ⟨e, rfl⟩ := ret_some h2; simp only [Prod.mk.injEq] at e; exact ⟨e.1.symm, e.2.symm, rfl⟩
      case loop c =>
        simp only [aw]
        refine ⟨fun k T H => k ≤ n + 1 ∧ ∃ ft, ev P Γ k (.loop c) T H = some ((x, T'), H', ft), n + 1, ⟨Nat.le_refl _, ft, by simp only [ev]; exact h⟩, ?_⟩
        rintro k T1 H1 ⟨hk, ft1, h1⟩ _
        cases k with
        | zero => exact (fail_some h1).elim
        | succ k =>
          simp only [ev] at h1
          obtain ⟨⟨x2, T2⟩, H2, f1, f2, h2, h3⟩ := bind_some h1
          refine aw_mono c (ih k (by omega) c h2) ?_
          rintro ax T3 H3 ⟨rfl, rfl, rfl⟩
          simp only at h3
          cases ax with
          | normal => exact ⟨k, by omega, by omega, f2, h3⟩
          | exit i => obtain ⟨e, rfl⟩ := ret_some h3; simp only [Prod.mk.injEq] at e; exact ⟨e.1.symm, e.2.symm, rfl⟩
          | goto l => obtain ⟨e, rfl⟩ := ret_some h3; simp only [Prod.mk.injEq] at e; exact ⟨e.1.symm, e.2.symm, rfl⟩
          | ret => obtain ⟨e, rfl⟩ := ret_some h3; simp only [Prod.mk.injEq] at e; exact ⟨e.1.symm, e.2.symm, rfl⟩

/-- A call, computed; okm: of which functions the code may be. -/
def evCall (P : Program) (okm : Nat) (Γ : FuncId → List AV → AM AV) (n : Nat) (f : FuncId) (args : List AV) : AM AV := if okm.testBit f = true then (match P.funcs[f]? with
  | some fn => (match fn.body with
    | some c => (ev P Γ n c (frame0 fn.ntmps args)).bind fun r => (match r.1 with
      | .exit _ => AM.fail
      | .goto _ => AM.fail
      | _ => resultsA P fn r.2)
    | none => AM.fail)
  | none => AM.fail) else AM.fail
def evFun (P : Program) (okm : Nat) (G : FuncId → List AV → Option (AM AV)) (n : Nat) : Nat → FuncId → List AV → AM AV
  | 0, f, args => (match G f args with
    | some m => m
    | none => AM.fail)
  | d + 1, f, args => (match G f args with
    | some m => m
    | none => evCall P okm (evFun P okm G n d) n f args)
def OkAll (P : Program) (okm : Nat) : Prop := ∀ f fn c, okm.testBit f = true → P.funcs[f]? = some fn → fn.body = some c → okC c = true
section
variable {P : Program} {okm : Nat} {Γ : FuncId → List AV → AM AV}
theorem Loc.evCall (hL : ∀ f args, Loc (Γ f args)) (n : Nat) (f : FuncId) (args : List AV) : Loc (evCall P okm Γ n f args) := by
  unfold Go.Proofs.Ytlmhajfbpplpoaa.evCall
  repeat' split
  all_goals first
    | exact Loc.fail
    | refine Loc.bind (Loc.ev hL _ _ _) fun r => ?_
  split
  · exact Loc.fail
  · exact Loc.fail
  · exact Loc.bind (Loc.resA _) fun _ => Loc.ret _
theorem evCall_sound (hm : P.follows .mixedOrders = true) (hok : OkAll P okm) (hΓ : SoundG P Γ) (hL : ∀ f args, Loc (Γ f args)) (n : Nat) : SoundG P (evCall P okm Γ n) := by
  intro f args μ F w H vals hv hH hw hfr r H' ft h
  unfold evCall at h
  rcases ite_some h with ⟨hb, h⟩ | ⟨_, h⟩
  rotate_left
  · exact (fail_some h).elim
  cases e1 : P.funcs[f]? with
  | none => rw [e1] at h; exact (fail_some h).elim
  | some fn =>
    rw [e1] at h
    simp only at h
    cases e2 : fn.body with
    | none => rw [e2] at h; exact (fail_some h).elim
    | some c =>
      rw [e2] at h
      simp only at h
      obtain ⟨⟨x, T'⟩, H1, f1, f2, h1, h2⟩ := bind_some h
      simp only at h2
      have hx : (x = .normal ∨ x = .ret) ∧ resultsA P fn T' H1 = some (r, H', f2) := by
        cases x with
        | normal => exact ⟨.inl rfl, h2⟩
        | ret => exact ⟨.inr rfl, h2⟩
        | exit i => exact (fail_some h2).elim
        | goto l => exact (fail_some h2).elim
      have hres : H' = H1 := by
        have := hx.2
        obtain ⟨l, H2, g1, g2, q1, q2⟩ := bind_some this
        have := (ret_some q2).2
        rw [this]
        clear this q2
        have key : ∀ (rs : List ResultVar) {l : List AV} {H2 : AH} {g : Foot}, resA P T' rs H1 = some (l, H2, g) → H2 = H1 := by
          intro rs
          induction rs with
          | nil => intro l H2 g h; exact (ret_some h).2
          | cons v rs ih =>
            intro l H2 g h
            cases v with
            | tmp t =>
              obtain ⟨l', H3, k1, k2, a1, a2⟩ := bind_some h
              rw [(ret_some a2).2, ih a1]
            | cell y ty =>
              obtain ⟨l', H3, k1, k2, a1, a2⟩ := bind_some h
              obtain ⟨l2, H4, k3, k4, b1, b2⟩ := bind_some a2
              have hload : H3 = H1 := by
                have rd : ∀ {q : AV} {m : Nat} {cs : List AV} {G : AH} {g : Foot}, rdAt q m H1 = some (cs, G, g) → G = H1 := by
                  intro q m cs G g h
                  cases q <;> simp only [rdAt] at h <;> try exact (fail_some h).elim
                  · obtain ⟨k, G1, c1, c2, d1, d2⟩ := bind_some h
                    rcases ite_some d2 with ⟨_, d2⟩ | ⟨_, d2⟩
                    · rw [(ret_some d2).2, (getB_some d1).2]
                    · exact (fail_some d2).elim
                  · rcases ite_some h with ⟨_, d2⟩ | ⟨_, d2⟩
                    · exact (ret_some d2).2
                    · exact (fail_some d2).elim
                unfold loadA at a1
                rcases e1 : isRowT P ty with _ | _ | _ <;> rw [e1] at a1
                · exact (fail_some a1).elim
                · simp only at a1
                  obtain ⟨cs, G, g1, g2, q1, q2⟩ := bind_some a1
                  rw [(opt_some q2).2, rd q1]
                · rcases e2 : szT P ty with _ | n <;> rw [e2] at a1
                  · exact (fail_some a1).elim
                  simp only at a1
                  obtain ⟨cs, G, g1, g2, q1, q2⟩ := bind_some a1
                  rw [(ret_some q2).2, rd q1]
              rw [hload] at b1
              rw [(ret_some b2).2, ih b1]
        exact key _ q1
      have := calls_of_aw hm hΓ hL e1 e2 (hok f fn c hb e1 e2) (args := args) (H := H) (R := fun r1 H2 => r1 = r ∧ H2 = H') (aw_mono c (ev_aw n c h1) (by
        rintro ax T1 H2 ⟨rfl, rfl, rfl⟩
        exact ⟨hx.1, r, f2, by rw [← hres]; rw [← hres] at hx; exact hx.2, rfl, hres.symm⟩)) hv hH hw hfr
      refine this.mono ?_
      rintro e w' ⟨r1, H2, u, rfl, ⟨rfl, rfl⟩, hp, _⟩
      exact ⟨u, rfl, hp⟩
variable {G : FuncId → List AV → Option (AM AV)}
theorem Loc.evFun (hG : ∀ f args m, G f args = some m → Loc m) (n : Nat) : ∀ (d : Nat) (f : FuncId) (args : List AV), Loc (evFun P okm G n d f args)
  | 0, f, args => by
    simp only [Go.Proofs.Ytlmhajfbpplpoaa.evFun]
    split
    · exact hG _ _ _ ‹_›
    · exact Loc.fail
  | d + 1, f, args => by
    simp only [Go.Proofs.Ytlmhajfbpplpoaa.evFun]
    split
    · exact hG _ _ _ ‹_›
    · exact Loc.evCall (fun f args => Loc.evFun hG n d f args) n f args
/-- Contracts of one's own. -/
def SoundO (P : Program) (G : FuncId → List AV → Option (AM AV)) : Prop := SoundG P fun f args => (match G f args with
  | some m => m
  | none => AM.fail)
theorem evFun_sound (hm : P.follows .mixedOrders = true) (hok : OkAll P okm) (hG : SoundO P G) (hL : ∀ f args m, G f args = some m → Loc m) (n : Nat) : ∀ d, SoundG P (evFun P okm G n d)
  | 0 => hG
  | d + 1 => by
    intro f args μ F w H vals hv hH hw hfr r H' ft h
    simp only [evFun] at h
    cases e : G f args with
    | some m =>
      rw [e] at h
      exact hG f args μ F w H vals hv hH hw hfr r H' ft (by simp only [e]; exact h)
    | none =>
      rw [e] at h
      exact evCall_sound hm hok (evFun_sound hm hok hG hL n d) (fun f args => Loc.evFun hL n d f args) n f args μ F w H vals hv hH hw hfr r H' ft h
end
end Go.Proofs.Ytlmhajfbpplpoaa
