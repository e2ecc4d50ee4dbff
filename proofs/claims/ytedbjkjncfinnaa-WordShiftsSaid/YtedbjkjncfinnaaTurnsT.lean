/-
  What is plain: where it holds; that it stays as it is. No program in sight.
-/
import Derived.Test.YtedbjkjncfinnaaSat
namespace Go.Proofs.Ytedbjkjncfinnaa

theorem un_fr (f g : Nat → Bool) (n i : Nat) : un f g n i = !fr (fun k => !f k) (fun k => !g k) n i := by
  rw [fr_un]
  simp
theorem T.sat_plain (x : Wd) : ∀ (t : T) (d : Bool) (i : Nat), (t.plain d).sat x i = (d != t.sat x i)
  | .tt, d, i => by cases d <;> simp [T.plain, T.sat]
  | .ff, d, i => by cases d <;> simp [T.plain, T.sat]
  | .atom p, d, i => by cases d <;> simp [T.plain, T.sat]
  | .not p, d, i => by
    simp only [T.plain, T.sat, p.sat_plain x]
    cases d <;> cases p.sat x i <;> rfl
  | .and p q, d, i => by
    cases d <;> simp [T.plain, T.sat, p.sat_plain x, q.sat_plain x]
  | .or p q, d, i => by
    cases d <;> simp [T.plain, T.sat, p.sat_plain x, q.sat_plain x]
  | .imp p q, d, i => by
    cases d <;> simp [T.plain, T.sat, p.sat_plain x, q.sat_plain x]
  | .next p, d, i => by
    simp only [T.plain, T.sat, p.sat_plain x]
  | .all p, d, i => by
    have h0 : (p.plain false).sat x = p.sat x := funext fun k => by rw [p.sat_plain x]; simp
    have h1 : (p.plain true).sat x = fun k => !p.sat x k := funext fun k => by rw [p.sat_plain x]; simp
    have hf : T.sat x .ff = fun _ => false := funext fun _ => by simp only [T.sat]
    have ht : T.sat x .tt = fun _ => true := funext fun _ => by simp only [T.sat]
    cases d
    · simp [T.plain, T.sat, h0]
    · simp [T.plain, T.sat, h1]
      rw [un_fr]
      simp
  | .some_ p, d, i => by
    have h0 : (p.plain false).sat x = p.sat x := funext fun k => by rw [p.sat_plain x]; simp
    have h1 : (p.plain true).sat x = fun k => !p.sat x k := funext fun k => by rw [p.sat_plain x]; simp
    cases d
    · simp [T.plain, T.sat, h0]
    · simp [T.plain, T.sat, h1]
      rw [un_fr]
      simp
  | .until_ p q, d, i => by
    have h0 : ∀ r : T, (∀ d i, (r.plain d).sat x i = (d != r.sat x i)) → (r.plain false).sat x = r.sat x := fun r h => funext fun k => by rw [h]; simp
    have h1 : ∀ r : T, (∀ d i, (r.plain d).sat x i = (d != r.sat x i)) → (r.plain true).sat x = fun k => !r.sat x k := fun r h => funext fun k => by rw [h]; simp
    cases d
    · simp [T.plain, T.sat, h0 p (p.sat_plain x), h0 q (q.sat_plain x)]
    · simp [T.plain, T.sat, h1 p (p.sat_plain x), h1 q (q.sat_plain x)]
      rw [un_fr]
      simp
  | .free p q, d, i => by
    have h0 : ∀ r : T, (∀ d i, (r.plain d).sat x i = (d != r.sat x i)) → (r.plain false).sat x = r.sat x := fun r h => funext fun k => by rw [h]; simp
    have h1 : ∀ r : T, (∀ d i, (r.plain d).sat x i = (d != r.sat x i)) → (r.plain true).sat x = fun k => !r.sat x k := fun r h => funext fun k => by rw [h]; simp
    cases d
    · simp [T.plain, T.sat, h0 p (p.sat_plain x), h0 q (q.sat_plain x)]
    · simp [T.plain, T.sat, h1 p (p.sat_plain x), h1 q (q.sat_plain x)]
      rw [un_fr]
      simp

/-- Of few kinds alone. -/
def T.flat : T → Bool
  | .tt | .ff | .atom _ => true
  | .not p => match p with | .atom _ => true | _ => false
  | .next p => p.flat
  | .and p q | .or p q | .until_ p q | .free p q => p.flat && q.flat
  | _ => false
theorem T.flat_plain : ∀ (t : T) (d : Bool), (t.plain d).flat = true
  | .tt, d | .ff, d | .atom _, d => by cases d <;> simp [T.plain, T.flat]
  | .not p, d => by simp only [T.plain]; exact p.flat_plain _
  | .next p, d => by simp only [T.plain, T.flat]; exact p.flat_plain _
  | .and p q, d | .or p q, d | .imp p q, d | .until_ p q, d | .free p q, d => by cases d <;> simp [T.plain, T.flat, p.flat_plain, q.flat_plain]
  | .all p, d | .some_ p, d => by cases d <;> simp [T.plain, T.flat, p.flat_plain]
theorem T.plain_plain : ∀ (t : T) (a b : Bool), (t.plain a).plain b = t.plain (a != b)
  | .tt, a, b | .ff, a, b | .atom _, a, b => by cases a <;> cases b <;> simp [T.plain]
  | .not p, a, b => by
    simp only [T.plain]
    rw [p.plain_plain]
    cases a <;> cases b <;> rfl
  | .next p, a, b => by simp only [T.plain]; rw [p.plain_plain]
  | .and p q, a, b | .or p q, a, b | .imp p q, a, b | .until_ p q, a, b | .free p q, a, b => by cases a <;> cases b <;> simp [T.plain, p.plain_plain, q.plain_plain]
  | .all p, a, b | .some_ p, a, b => by cases a <;> cases b <;> simp [T.plain, p.plain_plain]
end Go.Proofs.Ytedbjkjncfinnaa
