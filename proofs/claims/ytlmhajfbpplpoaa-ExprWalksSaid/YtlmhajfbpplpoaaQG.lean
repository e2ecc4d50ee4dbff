/-
  The same, computed strictly. No program in sight.
-/
import Derived.Test.YtlmhajfbpplpoaaQF
set_option linter.unusedSectionVars false
set_option linter.unusedSimpArgs false
set_option linter.unusedVariables false
namespace Go.Proofs.Ytlmhajfbpplpoaa
open Go.RowKit

section
variable {α : Type}
def fNat (n : Nat) (k : Nat → α) : α := match n with
  | 0 => k 0
  | m + 1 => k (m + 1)
theorem fNat_eq (n : Nat) (k : Nat → α) : fNat n k = k n := by cases n <;> rfl
def fInt (i : Int) (k : Int → α) : α := match i with
  | .ofNat n => fNat n fun n => k (.ofNat n)
  | .negSucc n => fNat n fun n => k (.negSucc n)
theorem fInt_eq (i : Int) (k : Int → α) : fInt i k = k i := by cases i <;> simp only [fInt, fNat_eq]
def fBytes (l : List UInt8) (k : List UInt8 → α) : α := match l with
  | [] => k []
  | x :: r => fNat x.toNat fun n => fBytes r fun r => k (UInt8.ofNat n :: r)
theorem fBytes_eq : ∀ (l : List UInt8) (k : List UInt8 → α), fBytes l k = k l
  | [], _ => rfl
  | x :: r, k => by simp only [fBytes, fNat_eq, fBytes_eq r, UInt8.ofNat_toNat]
def fStr (s : ByteArray) (k : ByteArray → α) : α := fBytes s.data.toList fun l => k ⟨l.toArray⟩
theorem fStr_eq (s : ByteArray) (k : ByteArray → α) : fStr s k = k s := by simp only [fStr, fBytes_eq, Array.toArray_toList]
def fVal (v : Value) (k : Value → α) : α := match v with
  | .int kd n => fInt n fun n => k (.int kd n)
  | .bool true => k (.bool true)
  | .bool false => k (.bool false)
  | .string s => fStr s fun s => k (.string s)
  | .float kd n => fNat n fun n => k (.float kd n)
  | .complex kd n m => fNat n fun n => fNat m fun m => k (.complex kd n m)
  | v => k v
theorem fVal_eq (v : Value) (k : Value → α) : fVal v k = k v := by
  unfold fVal
  split <;> simp only [fInt_eq, fStr_eq, fNat_eq]
def fL (f : AV → (AV → α) → α) (l : List AV) (k : List AV → α) : α := match l with
  | [] => k []
  | x :: r => f x fun x => fL f r fun r => k (x :: r)
theorem fL_eq {f : AV → (AV → α) → α} (hf : ∀ x k, f x k = k x) : ∀ (l : List AV) (k : List AV → α), fL f l k = k l
  | [], _ => rfl
  | x :: r, k => by simp only [fL, hf, fL_eq hf r]
def fLL (f : AV → (AV → α) → α) (l : List (List AV)) (k : List (List AV) → α) : α := match l with
  | [] => k []
  | x :: r => fL f x fun x => fLL f r fun r => k (x :: r)
theorem fLL_eq {f : AV → (AV → α) → α} (hf : ∀ x k, f x k = k x) : ∀ (l : List (List AV)) (k : List (List AV) → α), fLL f l k = k l
  | [], _ => rfl
  | x :: r, k => by simp only [fLL, fL_eq hf, fLL_eq hf r]
def fAV (d : Nat) (x : AV) (k : AV → α) : α := match d with
  | 0 => k x
  | d + 1 => match x with
    | .v x => fVal x fun x => k (.v x)
    | .ptr b o => fNat b fun b => fNat o fun o => k (.ptr b o)
    | .sl b o n e => fNat b fun b => fNat o fun o => fNat n fun n => fNat e fun e => k (.sl b o n e)
    | .ls xs => fLL (fAV d) xs fun xs => k (.ls xs)
    | .lp cs => fL (fAV d) cs fun cs => k (.lp cs)
    | .agg cs => fL (fAV d) cs fun cs => k (.agg cs)
    | .tup cs => fL (fAV d) cs fun cs => k (.tup cs)
    | .fn f a c => fL (fAV d) a fun a => fL (fAV d) c fun c => k (.fn f a c)
    | .any => k .any
theorem fAV_eq : ∀ (d : Nat) (x : AV) (k : AV → α), fAV d x k = k x
  | 0, _, _ => rfl
  | d + 1, x, k => by cases x <;> simp only [fAV, fVal_eq, fNat_eq, fL_eq (fAV_eq d), fLL_eq (fAV_eq d)]
def fSpine {β : Type} (l : List β) (k : List β → α) : α := match l with
  | [] => k []
  | x :: r => fSpine r fun r => k (x :: r)
theorem fSpine_eq {β : Type} : ∀ (l : List β) (k : List β → α), fSpine l k = k l
  | [], _ => rfl
  | x :: r, k => by simp only [fSpine, fSpine_eq r]
def fBlk (b : ABlk) (k : ABlk → α) : α := match b with
  | ⟨cs, true, true⟩ => fL (fAV 3) cs fun cs => k ⟨cs, true, true⟩
  | ⟨cs, true, false⟩ => fL (fAV 3) cs fun cs => k ⟨cs, true, false⟩
  | ⟨cs, false, true⟩ => fL (fAV 3) cs fun cs => k ⟨cs, false, true⟩
  | ⟨cs, false, false⟩ => fL (fAV 3) cs fun cs => k ⟨cs, false, false⟩
theorem fBlk_eq (b : ABlk) (k : ABlk → α) : fBlk b k = k b := by
  obtain ⟨cs, st, ex⟩ := b
  cases st <;> cases ex <;> simp only [fBlk, fL_eq (fAV_eq 3)]
/-- The block on top is new. -/
def fH (H : AH) (k : AH → α) : α := match H with
  | ⟨[], n, t⟩ => fNat n fun n => k ⟨[], n, t⟩
  | ⟨(b, x) :: r, n, t⟩ => fNat n fun n => fNat b fun b => fBlk x fun x => fSpine r fun r => k ⟨(b, x) :: r, n, t⟩
theorem fH_eq (H : AH) (k : AH → α) : fH H k = k H := by
  obtain ⟨bs, n, t⟩ := H
  cases bs with
  | nil => simp only [fH, fNat_eq]
  | cons p r => obtain ⟨b, x⟩ := p; simp only [fH, fNat_eq, fBlk_eq, fSpine_eq]
def fNats (l : List Nat) (k : List Nat → α) : α := match l with
  | [] => k []
  | x :: r => fNat x fun x => fNats r fun r => k (x :: r)
theorem fNats_eq : ∀ (l : List Nat) (k : List Nat → α), fNats l k = k l
  | [], _ => rfl
  | x :: r, k => by simp only [fNats, fNat_eq, fNats_eq r]
def fFoot (f : Foot) (k : Foot → α) : α := fNats f.rd fun a => fNats f.wr fun b => k ⟨a, b⟩
theorem fFoot_eq (f : Foot) (k : Foot → α) : fFoot f k = k f := by simp only [fFoot, fNats_eq]
end
section
variable (P : Program) (Γ : FuncId → List AV → AM AV)
/-- Only what touches the heap has a heap to be forced. -/
def fHf {α : Type} (f : Foot) (H : AH) (k : AH → α) : α := match f.wr with
  | [] => k H
  | _ :: _ => fH H k
theorem fHf_eq {α : Type} (f : Foot) (H : AH) (k : AH → α) : fHf f H k = k H := by
  unfold fHf
  split
  · rfl
  · exact fH_eq H k
def runS (ops : Array Oper) : List Oper → List AV → AH → Option (List AV × AH × List Foot)
  | [], T, H => some (T, H, [])
  | o :: r, T, H => match coreA P Γ ops o T H with
    | none => none
    | some (v, H1, f) => fAV 3 v fun v => fSpine (dstSet T o.dst v) fun T1 => fFoot f fun f => fHf f H1 fun H1 => match runS ops r T1 H1 with
      | none => none
      | some (T2, H2, fs) => some (T2, H2, f :: fs)
theorem runS_eq (ops : Array Oper) : ∀ (l : List Oper) (T : List AV) (H : AH), runS P Γ ops l T H = runL P Γ ops l T H
  | [], _, _ => rfl
  | o :: r, T, H => by
    simp only [runS, runL, stepA]
    rcases coreA P Γ ops o T H with _ | ⟨v, H1, f⟩
    · rfl
    · simp only [fAV_eq, fSpine_eq, fFoot_eq, fHf_eq, runS_eq ops r]
      rcases runL P Γ ops r (dstSet T o.dst v) H1 with _ | ⟨T2, H2, fs⟩ <;> rfl
def regionS (ops : Array Oper) (draw : Bool) (T : List AV) : AM (List AV) := fun H => match runS P Γ ops ops.toList T H with
  | some (T', H', fs) => if (!draw || heapOk (bef ops) fs) = true then some (T', H', ⟨fs.flatMap (·.rd), fs.flatMap (·.wr)⟩) else none
  | none => none
theorem regionS_eq (ops : Array Oper) (draw : Bool) (T : List AV) : regionS P Γ ops draw T = regionM P Γ ops draw T := by
  funext H
  simp only [regionS, regionM, logRun, AM.bind, runS_eq]
  cases e : runL P Γ ops ops.toList T H with
  | none => simp only [e]
  | some r =>
    obtain ⟨T', H', fs⟩ := r
    simp only [e]
    cases draw with
    | false => simp [AM.ret]
    | true =>
      cases e2 : heapOk (bef ops) fs with
      | true => simp [AM.ret, e2]
      | false => simp [AM.fail, e2]
def evS : Nat → Code → List AV → AM (AX × List AV)
  | 0, _, _ => AM.fail
  | n + 1, c, T => match c with
    | .skip => AM.ret (.normal, T)
    | .label _ => AM.ret (.normal, T)
    | .exit id => AM.ret (.exit id, T)
    | .ret => AM.ret (.ret, T)
    | .goto l => AM.ret (.goto l, T)
    | .scope (.seq R (.seq (.label l) X)) => if (findLabel R l).isNone = true then (evS n R T).bind fun r => match r.1 with
        | .normal => (evS n X r.2).bind fun q => match q.1 with
          | .goto l' => if l' = l then evS n (.scope (.seq .skip (.seq (.label l) X))) q.2 else AM.fail
          | ax => AM.ret (ax, q.2)
        | .goto _ => AM.fail
        | ax => AM.ret (ax, r.2)
      else AM.fail
    | .region _ ops draw => (regionS P Γ ops draw T).bind fun T' => AM.ret (.normal, T')
    | .seq x y => (evS n x T).bind fun r => match r.1 with
      | .normal => evS n y r.2
      | ax => AM.ret (ax, r.2)
    | .cond c x y => (match opdA T c with
      | .v (.bool t) => if t = true then evS n x T else evS n y T
      | _ => AM.fail)
    | .block id c => (evS n c T).bind fun r => match r.1 with
      | .exit i => if i = id then AM.ret (.normal, r.2) else AM.ret (.exit i, r.2)
      | ax => AM.ret (ax, r.2)
    | .loop c => (evS n c T).bind fun r => match r.1 with
      | .normal => evS n (.loop c) r.2
      | ax => AM.ret (ax, r.2)
    | _ => AM.fail
theorem evS_eq : ∀ (n : Nat) (c : Code) (T : List AV), evS P Γ n c T = ev P Γ n c T
  | 0, _, _ => rfl
  | n + 1, c, T => by
    unfold evS ev
    split <;> simp only [evS_eq n, regionS_eq] <;> rfl
def bodyA (n : Nat) (fn : Func) (c : Code) (args : List AV) : AM AV := (ev P Γ n c (frame0 fn.ntmps args)).bind fun r => (match r.1 with
  | .exit _ => AM.fail
  | .goto _ => AM.fail
  | _ => resultsA P fn r.2)
def bodyS (n : Nat) (fn : Func) (c : Code) (args : List AV) : AM AV := fun H => match (fSpine (frame0 fn.ntmps args) fun T0 => evS P Γ n c T0) H with
  | some ((.normal, T1), H1, f1) => (match resultsA P fn T1 H1 with
    | some (r, H2, f2) => fAV 3 r fun r => some (r, H2, ⟨f1.rd ++ f2.rd, f1.wr ++ f2.wr⟩)
    | none => none)
  | some ((.ret, T1), H1, f1) => (match resultsA P fn T1 H1 with
    | some (r, H2, f2) => fAV 3 r fun r => some (r, H2, ⟨f1.rd ++ f2.rd, f1.wr ++ f2.wr⟩)
    | none => none)
  | _ => none
theorem bodyS_eq (n : Nat) (fn : Func) (c : Code) (args : List AV) : bodyS P Γ n fn c args = bodyA P Γ n fn c args := by
  funext H
  unfold bodyS bodyA AM.bind
  rw [fSpine_eq, evS_eq]
  cases ev P Γ n c (frame0 fn.ntmps args) H with
  | none => rfl
  | some q =>
    obtain ⟨⟨x, T1⟩, H1, f1⟩ := q
    cases x with
    | normal =>
      cases e : resultsA P fn T1 H1 with
      | none => simp [e]
      | some r => obtain ⟨r, H2, f2⟩ := r; simp [e, fAV_eq]
    | ret =>
      cases e : resultsA P fn T1 H1 with
      | none => simp [e]
      | some r => obtain ⟨r, H2, f2⟩ := r; simp [e, fAV_eq]
    | exit i => rfl
    | goto l => rfl
def evCallS (okm : Nat) (n : Nat) (f : FuncId) (args : List AV) : AM AV := if okm.testBit f = true then (match P.funcs[f]? with
  | some fn => (match fn.body with
    | some c => bodyS P Γ n fn c args
    | none => AM.fail)
  | none => AM.fail) else AM.fail
theorem evCallS_eq (okm : Nat) (n : Nat) (f : FuncId) (args : List AV) : evCallS P Γ okm n f args = evCall P okm Γ n f args := by
  unfold evCallS
  simp only [bodyS_eq]
  rfl
end
def evFunS (P : Program) (okm : Nat) (G : FuncId → List AV → Option (AM AV)) (n : Nat) : Nat → FuncId → List AV → AM AV
  | 0, f, args => (match G f args with
    | some m => m
    | none => AM.fail)
  | d + 1, f, args => (match G f args with
    | some m => m
    | none => evCallS P (evFunS P okm G n d) okm n f args)
theorem evFunS_eq (P : Program) (okm : Nat) (G : FuncId → List AV → Option (AM AV)) (n : Nat) : ∀ (d : Nat), evFunS P okm G n d = evFun P okm G n d
  | 0 => by funext f args; rfl
  | d + 1 => by
    funext f args
    simp only [evFunS, evFun, evFunS_eq P okm G n d, evCallS_eq]
    cases G f args <;> rfl
end Go.Proofs.Ytlmhajfbpplpoaa
