/-
  What a value in memory reads as (a tree D), and how that reading stays. No program in sight.
  From the form's own reading of an argument (DataW.trod) to the tree D; and the row of a law that answers true, out of a contract over such trees.
  What an argument reads as takes no more than the reach; the row of a law, out of a contract that may use it.
  The arguments of layer 10's laws, as what they read as.
-/
import Derived.WalkKit
import Derived.ProofKit
import Derived.SizedLaws
import Derived.Test.YtlmhajfbpplpoaaRows
set_option linter.unusedSectionVars false
set_option linter.unusedSimpArgs false
set_option linter.unusedVariables false
namespace Go.Proofs.Ytlmhajfbpplpoaa
open Go.RowKit

/-- What a value reads as. -/
inductive D where
  | int (k : IntKind) (n : Int)
  | bool (b : Bool)
  | str (s : ByteArray)
  | slice (e : Nat) (xs : List D)
  | agg (xs : List D)

mutual
/-- The cells cs read as the tree; memory is looked up in blocks of S alone. -/
def D.Is (w : World) (S : Nat → Prop) : D → List Value → Prop
  | .int k n, cs => cs = [.int k n]
  | .bool b, cs => cs = [.bool b]
  | .str s, cs => cs = [.string s] ∧ s.size ≤ maxLen
  | .slice e xs, cs => ∃ A c, cs = [.slice A xs.length c] ∧ xs.length ≤ c ∧ c ≤ maxLen ∧ (xs ≠ [] → ∃ b o, A = some ⟨b, o, none⟩ ∧ S b ∧ D.Row w S e b xs o)
  | .agg xs, cs => D.Cat w S xs cs
/-- The trees lie one behind the other in block b from o on, e cells each. -/
def D.Row (w : World) (S : Nat → Prop) (e b : Nat) : List D → Nat → Prop
  | [], _ => True
  | x :: r, o => (∃ cs, cs.length = e ∧ (∀ j u, cs[j]? = some u → w.cell? ⟨b, o + j, none⟩ = some u) ∧ D.Is w S x cs) ∧ D.Row w S e b r (o + e)
/-- The cells are those of the trees, one behind the other. -/
def D.Cat (w : World) (S : Nat → Prop) : List D → List Value → Prop
  | [], cs => cs = []
  | x :: r, cs => ∃ c1 c2, cs = c1 ++ c2 ∧ D.Is w S x c1 ∧ D.Cat w S r c2
end

mutual
theorem D.Is.keep {w w' : World} {S S' : Nat → Prop} (h : ∀ b, S b → S' b ∧ w'.heap[b]? = w.heap[b]?) : ∀ (x : D) (cs : List Value), D.Is w S x cs → D.Is w' S' x cs
  | .int _ _, _, hx => by simpa only [D.Is] using hx
  | .bool _, _, hx => by simpa only [D.Is] using hx
  | .str _, _, hx => by simpa only [D.Is] using hx
  | .slice e xs, cs, hx => by
    simp only [D.Is] at hx ⊢
    obtain ⟨A, c, h1, h2, h3, h4⟩ := hx
    refine ⟨A, c, h1, h2, h3, fun hne => ?_⟩
    obtain ⟨b, o, hA, hS, hr⟩ := h4 hne
    exact ⟨b, o, hA, (h b hS).1, D.Row.keep h hS xs o hr⟩
  | .agg xs, cs, hx => by
    simp only [D.Is] at hx ⊢
    exact D.Cat.keep h xs cs hx
theorem D.Row.keep {w w' : World} {S S' : Nat → Prop} (h : ∀ b, S b → S' b ∧ w'.heap[b]? = w.heap[b]?) {e b : Nat} (hb : S b) : ∀ (xs : List D) (o : Nat), D.Row w S e b xs o → D.Row w' S' e b xs o
  | [], _, _ => by simp only [D.Row]
  | x :: r, o, hx => by
    simp only [D.Row] at hx ⊢
    obtain ⟨⟨cs, h1, h2, h3⟩, h4⟩ := hx
    exact ⟨⟨cs, h1, fun j u hj => (World.cell?_of_block (a := ⟨b, o + j, none⟩) (h b hb).2).trans (h2 j u hj), D.Is.keep h x cs h3⟩, D.Row.keep h hb r _ h4⟩
theorem D.Cat.keep {w w' : World} {S S' : Nat → Prop} (h : ∀ b, S b → S' b ∧ w'.heap[b]? = w.heap[b]?) : ∀ (xs : List D) (cs : List Value), D.Cat w S xs cs → D.Cat w' S' xs cs
  | [], _, hx => by simpa only [D.Cat] using hx
  | x :: r, cs, hx => by
    simp only [D.Cat] at hx ⊢
    obtain ⟨c1, c2, h1, h2, h3⟩ := hx
    exact ⟨c1, c2, h1, D.Is.keep h x c1 h2, D.Cat.keep h r c2 h3⟩
end

/-- Blocks below B. -/
def Lt (B : Nat) : Nat → Prop := fun b => b < B
section
variable {w w' : World} {S S' : Nat → Prop} {B B' : Nat} {x : D} {cs : List Value}
theorem D.Is.mono (h : D.Is w S x cs) (hs : ∀ b, S b → S' b) : D.Is w S' x cs := h.keep (fun b hb => ⟨hs b hb, rfl⟩)
theorem D.Is.more (h : D.Is w (Lt B) x cs) (hs : B ≤ B') : D.Is w (Lt B') x cs := h.mono fun _ hb => Nat.lt_of_lt_of_le hb hs
theorem D.Is.below (h : D.Is w (Lt B) x cs) (hb : Below B w w') : D.Is w' (Lt B) x cs := h.keep fun b h => ⟨h, hb.block b h⟩
theorem D.Is.alloc (h : D.Is w (Lt B) x cs) (hB : B ≤ w.heap.size) (o : Obj) : D.Is (w.alloc o) (Lt B) x cs := h.below ((Below.refl B w).alloc hB o)
theorem D.Is.setCell (h : D.Is w (Lt B) x cs) {p : Addr} (hB : B ≤ p.block) (u : Value) : D.Is (w.setCell p u) (Lt B) x cs := h.below ((Below.refl B w).setCell hB u)
theorem D.Is.drew (h : D.Is w S x cs) : D.Is w.drew S x cs := D.Is.keep (w := w) (w' := w.drew) (fun _ h => ⟨h, rfl⟩) x cs h
end

theorem lt_size {w : World} {b o : Nat} {v : Value} (h : w.cell? ⟨b, o, none⟩ = some v) : b < w.heap.size := by
  rcases Nat.lt_or_ge b w.heap.size with hlt | hge
  · exact hlt
  · simp [World.cell?, Array.getElem?_eq_none hge] at h

theorem D.Row.at_ {w : World} {S : Nat → Prop} {e b : Nat} : ∀ (xs : List D) (o : Nat), D.Row w S e b xs o → ∀ i (h : i < xs.length),
    ∃ cs, cs.length = e ∧ (∀ j u, cs[j]? = some u → w.cell? ⟨b, o + i * e + j, none⟩ = some u) ∧ D.Is w S xs[i] cs
  | [], _, _, i, h => by simp at h
  | x :: r, o, hx, 0, _ => by
    simp only [D.Row] at hx
    simpa using hx.1
  | x :: r, o, hx, i + 1, h => by
    simp only [D.Row] at hx
    obtain ⟨cs, h1, h2, h3⟩ := D.Row.at_ r (o + e) hx.2 i (by simpa using h)
    refine ⟨cs, h1, fun j u hj => ?_, by simpa using h3⟩
    have := h2 j u hj
    rw [show o + (i + 1) * e + j = o + e + i * e + j from by rw [Nat.add_mul]; omega]
    exact this

theorem D.Row.mk_ {w : World} {S : Nat → Prop} {e b : Nat} : ∀ (xs : List D) (o : Nat), (∀ i (h : i < xs.length),
    ∃ cs, cs.length = e ∧ (∀ j u, cs[j]? = some u → w.cell? ⟨b, o + i * e + j, none⟩ = some u) ∧ D.Is w S xs[i] cs) → D.Row w S e b xs o
  | [], _, _ => by simp only [D.Row]
  | x :: r, o, hx => by
    simp only [D.Row]
    refine ⟨?_, D.Row.mk_ r (o + e) fun i h => ?_⟩
    · obtain ⟨cs, h1, h2, h3⟩ := hx 0 (by simp)
      exact ⟨cs, h1, fun j u hj => by simpa using h2 j u hj, h3⟩
    obtain ⟨cs, h1, h2, h3⟩ := hx (i + 1) (by simpa using h)
    refine ⟨cs, h1, fun j u hj => ?_, by simpa using h3⟩
    have := h2 j u hj
    rw [show o + (i + 1) * e + j = o + e + i * e + j from by rw [Nat.add_mul]; omega] at this
    exact this

/-- A slice that reads as a list: its elements' cells. -/
theorem D.Is.slice_at {w : World} {S : Nat → Prop} {e : Nat} {xs : List D} {A : Option Addr} {n c : Nat} (h : D.Is w S (.slice e xs) [.slice A n c]) :
    n = xs.length ∧ n ≤ c ∧ c ≤ maxLen ∧ (0 < n → ∃ b o, A = some ⟨b, o, none⟩ ∧ S b ∧ ∀ i (h : i < xs.length), ∃ cs, cs.length = e ∧ (∀ j u, cs[j]? = some u → w.cell? ⟨b, o + i * e + j, none⟩ = some u) ∧ D.Is w S xs[i] cs) := by
  simp only [D.Is] at h
  obtain ⟨A', c', h1, h2, h3, h4⟩ := h
  simp only [List.cons.injEq, Value.slice.injEq, and_true] at h1
  obtain ⟨rfl, rfl, rfl⟩ := h1
  refine ⟨rfl, h2, h3, fun hn => ?_⟩
  obtain ⟨b, o, hA, hS, hr⟩ := h4 (by rintro rfl; simp at hn)
  exact ⟨b, o, hA, hS, fun i hi => hr.at_ xs o i hi⟩

theorem D.Is.slice_mk {w : World} {S : Nat → Prop} {e : Nat} {xs : List D} {A : Option Addr} {n c : Nat} (hn : n = xs.length) (hc : n ≤ c) (hm : c ≤ maxLen)
    (h : 0 < n → ∃ b o, A = some ⟨b, o, none⟩ ∧ S b ∧ ∀ i (h : i < xs.length), ∃ cs, cs.length = e ∧ (∀ j u, cs[j]? = some u → w.cell? ⟨b, o + i * e + j, none⟩ = some u) ∧ D.Is w S xs[i] cs) :
    D.Is w S (.slice e xs) [.slice A n c] := by
  simp only [D.Is]
  subst hn
  refine ⟨A, c, rfl, hc, hm, fun hne => ?_⟩
  obtain ⟨b, o, hA, hS, hr⟩ := h (List.length_pos_iff.2 hne)
  exact ⟨b, o, hA, hS, D.Row.mk_ xs o hr⟩

theorem D.Is.slice_form {w : World} {S : Nat → Prop} {e : Nat} {xs : List D} {cs : List Value} (h : D.Is w S (.slice e xs) cs) : ∃ A c, cs = [.slice A xs.length c] := by
  simp only [D.Is] at h
  obtain ⟨A', c', h1, _⟩ := h
  exact ⟨A', c', h1⟩

/-- The blocks of S are there. -/
def Bd (S : Nat → Prop) (w : World) : Prop := ∀ b, S b → b < w.heap.size
/-- The blocks of S, and those laid from w to w'. -/
def Ext (S : Nat → Prop) (w w' : World) : Nat → Prop := fun b => S b ∨ (w.heap.size ≤ b ∧ b < w'.heap.size)
section
variable {S : Nat → Prop} {w w' w0 w1 : World} {x : D} {cs : List Value}
theorem Bd.lt (w : World) : Bd (Lt w.heap.size) w := fun _ h => h
theorem Bd.call (h : Bd S w) (hb : w.heap.size ≤ w'.heap.size) : Bd S w' := fun b hs => Nat.lt_of_lt_of_le (h b hs) hb
theorem Bd.ext (h : Bd S w) (hb : w.heap.size ≤ w'.heap.size) : Bd (Ext S w w') w' := fun b hs => hs.elim (fun hs => Nat.lt_of_lt_of_le (h b hs) hb) (·.2)
theorem D.Is.call (h : D.Is w S x cs) (hS : Bd S w) (hb : Below w.heap.size w w') : D.Is w' S x cs := h.keep fun b hs => ⟨hs, hb.block b (hS b hs)⟩
theorem D.Is.into (h : D.Is w S x cs) : D.Is w (Ext S w0 w1) x cs := h.mono fun _ hb => .inl hb
/-- A store into a block that is not of S. -/
theorem D.Is.store {p : Addr} (h : D.Is w S x cs) (hp : ¬ S p.block) (u : Value) : D.Is (w.setCell p u) S x cs :=
  h.keep fun b hb => ⟨hb, Below.heap_setCell w p u b (fun e => hp (e ▸ hb))⟩
end
end Go.Proofs.Ytlmhajfbpplpoaa
namespace Go.Proofs.Ytlmhajfbpplpoaa
open Go.ChangeShapes Go.WideShapes Go.ChangeAt Go.RowKit

/-- The fields lie one behind the other, from o to n. -/
def fieldsFit (P : Program) : List Field → Nat → Nat → Bool
  | [], o, n => o == n
  | f :: r, o, n => f.offset == o && fieldsFit P r (o + P.cellsOf f.type) n

/-- The types of L are plain, and so are their parts. -/
def okType (P : Program) (L : List TypeId) (t : TypeId) : Bool :=
  match P.underlying t with
  | some .bool | some (.int _) | some .string => P.cellsOf t == 1
  | some (.slice e) => P.cellsOf t == 1 && L.contains e && decide (0 < P.cellsOf e)
  | some (.struct fs) => fieldsFit P fs.toList 0 (P.cellsOf t) && fs.toList.all fun f => L.contains f.type
  | _ => false

mutual
/-- The tree is one of the type. -/
def D.Typed (P : Program) : D → TypeId → Prop
  | .int k n, t => P.underlying t = some (.int k) ∧ (Lit.int k n).wf = true
  | .bool _, t => P.underlying t = some .bool
  | .str _, t => P.underlying t = some .string
  | .slice e xs, t => ∃ u, P.underlying t = some (.slice u) ∧ e = P.cellsOf u ∧ D.TypedAll P xs u
  | .agg xs, t => ∃ fs, P.underlying t = some (.struct fs) ∧ D.TypedFields P xs fs.toList
def D.TypedAll (P : Program) : List D → TypeId → Prop
  | [], _ => True
  | x :: r, u => D.Typed P x u ∧ D.TypedAll P r u
def D.TypedFields (P : Program) : List D → List Field → Prop
  | [], fs => fs = []
  | x :: r, fs => ∃ f gs, fs = f :: gs ∧ D.Typed P x f.type ∧ D.TypedFields P r gs
end

theorem D.typedAll_of {P : Program} {u : TypeId} : ∀ (xs : List D), (∀ x ∈ xs, D.Typed P x u) → D.TypedAll P xs u
  | [], _ => by simp only [D.TypedAll]
  | x :: r, h => by
    simp only [D.TypedAll]
    exact ⟨h x (by simp), D.typedAll_of r fun y hy => h y (by simp [hy])⟩

section
variable {H : Type} {enc : TypeId × Value → H} {P : Program} {w : World}

theorem choose_list {α : Type} {n : Nat} {R : Nat → α → Prop} (h : ∀ i, i < n → ∃ x, R i x) : ∃ xs : List α, xs.length = n ∧ ∀ i (hi : i < xs.length), R i xs[i] := by
  induction n with
  | zero => exact ⟨[], rfl, fun i hi => by simp at hi⟩
  | succ n ih =>
    obtain ⟨xs, hl, hx⟩ := ih fun i hi => h i (by omega)
    obtain ⟨y, hy⟩ := h n (by omega)
    refine ⟨xs ++ [y], by simp [hl], fun i hi => ?_⟩
    rcases Nat.lt_or_ge i xs.length with hlt | hge
    · rw [List.getElem_append_left hlt]; exact hx i hlt
    · have hin : i = n := by simp at hi; omega
      subst hin
      rw [List.getElem_append_right hge]
      simpa [hl] using hy

theorem cells_len {base : Nat} {a : Addr} {n : Nat} {cs : List Value} (h : w.cells? base a n = some cs) : cs.length = n ∧ ∀ i, i < n → w.cell? (a.add i) = cs[i]? := (World.cells?_some h).2

theorem spot_none {a : Addr} {v : Value} (h : w.cell? a = some v) : a.spot = none ∧ a.block < w.heap.size := by
  unfold World.cell? at h
  cases hh : w.heap[a.block]? with
  | none => simp [hh] at h
  | some o =>
    refine ⟨?_, (Array.getElem?_eq_some_iff.1 hh).1⟩
    rw [hh] at h
    cases o <;> simp at h
    exact h.1

theorem add_none {b o k : Nat} : (⟨b, o, none⟩ : Addr).add k = ⟨b, o + k, none⟩ := by unfold Addr.add; split <;> simp_all

/-- The value of an argument that reads as the tree: its cells in one. -/
def D.val : D → List Value → Value
  | .agg _, cs => .agg cs.toArray
  | _, cs => cs.headD undef

theorem trodAll_below (hl : laidOutB P = true) {W W' : World} (hb : Below W.heap.size W W') : ∀ (ts : List TypeId) (vs : List Value) (ds : List (DataW H)) (ps : List MemPlace),
    (∀ t ∈ ts, P.readableRec t = true ∧ t < P.types.size) → (∀ x ∈ ps, x.block < W.heap.size) → DataW.TrodAll enc P W 0 (fun _ => true) true ts vs ds ps →
    DataW.TrodAll enc P W' 0 (fun b => decide (b < W.heap.size)) true ts vs ds ps
  | [], [], [], _, _, _, h => h
  | t :: ts, v :: vs, d :: ds, ps, ht, hlt, h => by
    obtain ⟨p, q, h1, h2, rfl⟩ := h
    exact ⟨p, q, Below.trod hl (ht t (by simp)).1 (ht t (by simp)).2 h1 hb (fun x hx => hlt x (by simp [hx])),
      trodAll_below hl hb ts vs ds q (fun t h => ht t (by simp [h])) (fun x hx => hlt x (by simp [hx])) h2, rfl⟩
  | [], [], _ :: _, _, _, _, h => h.elim
  | [], _ :: _, [], _, _, _, h => h.elim
  | [], _ :: _, _ :: _, _, _, _, h => h.elim
  | _ :: _, [], [], _, _, _, h => h.elim
  | _ :: _, [], _ :: _, _, _, _, h => h.elim
  | _ :: _, _ :: _, [], _, _, _, h => h.elim
end

theorem trodAll_len {H : Type} {enc : TypeId × Value → H} {P : Program} {w : World} {b : Nat} {sp : Nat → Bool} {hd : Bool} : ∀ (ts : List TypeId) (vs : List Value) (ds : List (DataW H)) (ps : List MemPlace),
    DataW.TrodAll enc P w b sp hd ts vs ds ps → ds.length = ts.length
  | [], [], [], _, _ => rfl
  | _ :: ts, _ :: vs, _ :: ds, _, h => by
    obtain ⟨_, q, _, h2, _⟩ := h
    simp [trodAll_len ts vs ds q h2]
  | [], [], _ :: _, _, h => h.elim
  | [], _ :: _, [], _, h => h.elim
  | [], _ :: _, _ :: _, _, h => h.elim
  | _ :: _, [], [], _, h => h.elim
  | _ :: _, [], _ :: _, _, h => h.elim
  | _ :: _, _ :: _, [], _, h => h.elim

section
variable {P : Program} {x : D} {t : TypeId}
theorem D.Typed.int_ {k : IntKind} (h : D.Typed P x t) (ht : P.underlying t = some (.int k)) : ∃ n, x = .int k n ∧ (Lit.int k n).wf = true := by
  cases x <;> simp only [D.Typed] at h <;> (try rw [ht] at h) <;> simp at h
  obtain ⟨rfl, hw⟩ := h
  exact ⟨_, rfl, hw⟩
theorem D.Typed.bool_ (h : D.Typed P x t) (ht : P.underlying t = some .bool) : ∃ b, x = .bool b := by
  cases x <;> simp only [D.Typed] at h <;> (try rw [ht] at h) <;> simp at h
  exact ⟨_, rfl⟩
theorem D.Typed.str_ (h : D.Typed P x t) (ht : P.underlying t = some .string) : ∃ s, x = .str s := by
  cases x <;> simp only [D.Typed] at h <;> (try rw [ht] at h) <;> simp at h
  exact ⟨_, rfl⟩
theorem D.TypedAll.mem {u : TypeId} : ∀ {xs : List D}, D.TypedAll P xs u → ∀ y ∈ xs, D.Typed P y u
  | [], _, y, hy => by simp at hy
  | z :: r, h, y, hy => by
    simp only [D.TypedAll] at h
    rcases List.mem_cons.1 hy with rfl | hy
    · exact h.1
    · exact D.TypedAll.mem h.2 y hy
theorem D.Typed.slice_ {u : TypeId} (h : D.Typed P x t) (ht : P.underlying t = some (.slice u)) : ∃ xs, x = .slice (P.cellsOf u) xs ∧ ∀ y ∈ xs, D.Typed P y u := by
  cases x <;> simp only [D.Typed] at h <;> (try rw [ht] at h) <;> simp at h
  obtain ⟨rfl, h⟩ := h
  exact ⟨_, rfl, h.mem⟩
end

/-- A list of what each is the image of something. -/
theorem unmap {α β : Type} {g : α → β} {Q : α → Prop} : ∀ (ys : List β), (∀ y ∈ ys, ∃ x, y = g x ∧ Q x) → ∃ xs : List α, ys = xs.map g ∧ ∀ x ∈ xs, Q x
  | [], _ => ⟨[], rfl, fun x hx => by simp at hx⟩
  | y :: r, h => by
    obtain ⟨x, hx, hq⟩ := h y (by simp)
    obtain ⟨xs, hxs, hqs⟩ := unmap r fun z hz => h z (by simp [hz])
    exact ⟨x :: xs, by simp [hx, hxs], fun z hz => (List.mem_cons.1 hz).elim (fun e => e ▸ hq) (hqs z)⟩
end Go.Proofs.Ytlmhajfbpplpoaa
namespace Go.Proofs.Ytlmhajfbpplpoaa
open Go.ChangeShapes Go.WideShapes Go.ChangeAt Go.RowKit

mutual
/-- Each string and each slice of the tree takes no more than the reach. -/
def D.Fits (P : Program) : D → TypeId → Prop
  | .int _ _, _ => True
  | .bool _, _ => True
  | .str s, _ => s.size ≤ reachBytes
  | .slice _ xs, t => ∃ u, P.underlying t = some (.slice u) ∧ xs.length * P.bytesOf u ≤ reachBytes ∧ D.FitsAll P xs u
  | .agg xs, t => ∃ fs, P.underlying t = some (.struct fs) ∧ D.FitsFields P xs fs.toList
def D.FitsAll (P : Program) : List D → TypeId → Prop
  | [], _ => True
  | x :: r, u => D.Fits P x u ∧ D.FitsAll P r u
def D.FitsFields (P : Program) : List D → List Field → Prop
  | [], fs => fs = []
  | x :: r, fs => ∃ f gs, fs = f :: gs ∧ D.Fits P x f.type ∧ D.FitsFields P r gs
end
theorem D.fitsAll_of {P : Program} {u : TypeId} : ∀ (xs : List D), (∀ x ∈ xs, D.Fits P x u) → D.FitsAll P xs u
  | [], _ => by simp only [D.FitsAll]
  | x :: r, h => by
    simp only [D.FitsAll]
    exact ⟨h x (by simp), D.fitsAll_of r fun y hy => h y (by simp [hy])⟩
theorem D.FitsAll.mem {P : Program} {u : TypeId} : ∀ {xs : List D}, D.FitsAll P xs u → ∀ y ∈ xs, D.Fits P y u
  | [], _, y, hy => by simp at hy
  | z :: r, h, y, hy => by
    simp only [D.FitsAll] at h
    rcases List.mem_cons.1 hy with rfl | hy
    · exact h.1
    · exact D.FitsAll.mem h.2 y hy
theorem D.Fits.slice_ {P : Program} {t u : TypeId} {e : Nat} {xs : List D} (h : D.Fits P (.slice e xs) t) (ht : P.underlying t = some (.slice u)) : xs.length * P.bytesOf u ≤ reachBytes ∧ ∀ y ∈ xs, D.Fits P y u := by
  simp only [D.Fits] at h
  obtain ⟨v, h1, h2, h3⟩ := h
  rw [ht] at h1
  simp at h1
  subst h1
  exact ⟨h2, h3.mem⟩
section
variable {H : Type} {enc : TypeId × Value → H} {P : Program} {w : World}
theorem weights_all {e : TypeId} : ∀ (ds : List (DataW H)) (d : DataW H), d ∈ ds → ∀ k ∈ d.weights P e, k ∈ DataW.weightsAll P e ds
  | d0 :: r, d, hd, k, hk => by
    simp only [DataW.weightsAll, List.mem_append]
    rcases List.mem_cons.1 hd with rfl | hd
    · exact .inl hk
    · exact .inr (weights_all r d hd k hk)

theorem fields_fit {L : List TypeId} {n : Nat}
    (ih : ∀ t cs x, t ∈ L → DataW.trod enc P w 0 (fun _ => true) true n t cs = some x → (∀ k ∈ x.1.weights P t, k ≤ reachBytes) → ∃ d : D, D.Is w (Lt w.heap.size) d cs ∧ D.Typed P d t ∧ D.Fits P d t) :
    ∀ (fs : List Field) (o m : Nat) (cs : List Value) (X : Nat → Option (DataW H × List MemPlace)), fieldsFit P fs o m = true → (fs.all fun f => L.contains f.type) = true → cs.length = m →
      (∀ i f, fs[i]? = some f → DataW.trod enc P w 0 (fun _ => true) true n f.type ((cs.drop f.offset).take (P.cellsOf f.type)) = X i) → (∀ i, i < fs.length → ∃ y, X i = some y) → (∀ i f y, fs[i]? = some f → X i = some y → ∀ k ∈ y.1.weights P f.type, k ≤ reachBytes) →
      ∃ ds : List D, D.Cat w (Lt w.heap.size) ds (cs.drop o) ∧ D.TypedFields P ds fs ∧ D.FitsFields P ds fs
  | [], o, m, cs, X, hf, _, hl, _, _, _ => by
    refine ⟨[], ?_, by simp only [D.TypedFields], by simp only [D.FitsFields]⟩
    simp only [fieldsFit, beq_iff_eq] at hf
    simp only [D.Cat]
    exact List.drop_eq_nil_iff.2 (by omega)
  | f :: r, o, m, cs, X, hf, hL, hl, hX, hY, hZ => by
    simp only [fieldsFit, Bool.and_eq_true, beq_iff_eq] at hf
    simp only [List.all_cons, Bool.and_eq_true, List.contains_iff_mem] at hL
    obtain ⟨ds, h1, h2, h2'⟩ := fields_fit ih r (o + P.cellsOf f.type) m cs (fun i => X (i + 1)) hf.2 hL.2 hl (fun i g hg => hX (i + 1) g (by simpa using hg)) (fun i hi => hY (i + 1) (by simpa using hi)) (fun i g y hg hy => hZ (i + 1) g y (by simpa using hg) hy)
    obtain ⟨y, hy⟩ := hY 0 (by simp)
    obtain ⟨d, h3, h4, h4'⟩ := ih f.type _ y hL.1 ((hX 0 f (by simp)).trans hy) (hZ 0 f y (by simp) hy)
    refine ⟨d :: ds, ?_, ?_, ?_⟩
    · simp only [D.Cat]
      rw [hf.1] at h3
      exact ⟨_, _, by rw [← List.drop_drop]; exact (List.take_append_drop _ _).symm, h3, h1⟩
    · simp only [D.TypedFields]
      exact ⟨f, r, rfl, h4, h2⟩
    · simp only [D.FitsFields]
      exact ⟨f, r, rfl, h4', h2'⟩

theorem trod_fit {L : List TypeId} (hL : L.all (okType P L) = true) : ∀ (fuel : Nat) (t : TypeId) (cs : List Value) (x : DataW H × List MemPlace), t ∈ L → DataW.trod enc P w 0 (fun _ => true) true fuel t cs = some x → (∀ k ∈ x.1.weights P t, k ≤ reachBytes) →
    ∃ d : D, D.Is w (Lt w.heap.size) d cs ∧ D.Typed P d t ∧ D.Fits P d t := by
  intro fuel
  induction fuel with
  | zero => intro t cs x _ h; simp [DataW.trod] at h
  | succ n ih =>
    intro t cs x ht h hz
    have hk := List.all_eq_true.1 hL t ht
    unfold okType at hk
    split at hk
    · rename_i hu
      obtain ⟨b, rfl, _⟩ := DataW.trod_bool hu h
      exact ⟨.bool b, by simp only [D.Is], by simpa only [D.Typed] using hu, by simp only [D.Fits]⟩
    · rename_i k hu
      obtain ⟨m, rfl, _, hw⟩ := DataW.trod_int hu h
      exact ⟨.int k m, by simp only [D.Is], by simp only [D.Typed]; exact ⟨hu, hw⟩, by simp only [D.Fits]⟩
    · rename_i hu
      obtain ⟨s, rfl, hxs, hs⟩ := DataW.trod_string hu h
      exact ⟨.str s, by simp only [D.Is]; exact ⟨trivial, hs⟩, by simpa only [D.Typed] using hu, by
        simp only [D.Fits]
        refine hz s.size ?_
        rw [hxs]
        simp [DataW.weights]⟩
    · rename_i e hu
      simp only [Bool.and_eq_true, List.contains_iff_mem, decide_eq_true_eq] at hk
      obtain ⟨⟨_, hin⟩, hpos⟩ := hk
      rcases DataW.trod_slice hu h with ⟨rfl, _⟩ | ⟨a, len, cap, elems, rest, m, hm, rfl, hxe, hb, hlc, hcm, hel, hx, _, _⟩
      · exact ⟨.slice (P.cellsOf e) [], by simp only [D.Is]; exact ⟨none, 0, rfl, Nat.le_refl _, by decide, fun h => absurd rfl h⟩, by simp only [D.Typed]; exact ⟨e, hu, rfl, by simp only [D.TypedAll]⟩, by simp only [D.Fits]; exact ⟨e, hu, by simp, by simp only [D.FitsAll]⟩⟩
      · obtain rfl : n = m := by omega
        have hwt : ∀ k ∈ DataW.weights P t (.slice (elems.map (·.1)) (rest.map (·.1))), k ≤ reachBytes := by rw [hxe] at hz; exact hz
        have hw0 : len * P.bytesOf e ≤ reachBytes := by
          have := hwt ((elems.length + rest.length) * P.bytesOf e) (by simp [DataW.weights, hu])
          rw [hel] at this
          exact Nat.le_trans (Nat.mul_le_mul_right _ (Nat.le_add_right _ _)) this
        have hwe : ∀ y ∈ elems, ∀ k ∈ y.1.weights P e, k ≤ reachBytes := fun y hy k hk => hwt k (by
          simp only [DataW.weights, hu, List.mem_cons, List.mem_append]
          exact .inr (.inl (weights_all _ _ (List.mem_map.2 ⟨y, hy, rfl⟩) k hk)))
        have hel' : ∀ i, i < len → ∃ d : D, ∃ cs', cs'.length = P.cellsOf e ∧ (∀ j, j < P.cellsOf e → w.cell? ((a.add (i * P.cellsOf e)).add j) = cs'[j]?) ∧ D.Is w (Lt w.heap.size) d cs' ∧ D.Typed P d e ∧ D.Fits P d e := by
          intro i hi
          have h1 := hx i hi
          have h2 : elems[i]? = some (elems[i]'(by omega)) := List.getElem?_eq_getElem (by omega)
          rw [h2, Option.bind_eq_some_iff] at h1
          obtain ⟨cs', hc, ht'⟩ := h1
          obtain ⟨d, hd1, hd2, hd3⟩ := ih e cs' _ hin ht' (hwe _ (List.getElem_mem _))
          exact ⟨d, cs', (cells_len hc).1, (cells_len hc).2, hd1, hd2, hd3⟩
        obtain ⟨ds, hdl, hds⟩ := choose_list hel'
        refine ⟨.slice (P.cellsOf e) ds, ?_, ?_, ?_⟩
        · refine D.Is.slice_mk hdl.symm hlc hcm fun hn => ?_
          have h0 := hds 0 (by omega)
          obtain ⟨cs', hl', hc', _⟩ := h0
          have hc0 := hc' 0 hpos
          rw [List.getElem?_eq_getElem (by omega)] at hc0
          simp only [Nat.zero_mul, show ∀ x : Addr, x.add 0 = x from fun x => by simp [Addr.add]] at hc0
          obtain ⟨hs, hlt⟩ := spot_none hc0
          obtain ⟨ab, ao, sp⟩ := a
          obtain rfl : sp = none := hs
          refine ⟨ab, ao, rfl, hlt, fun i hi => ?_⟩
          obtain ⟨cs, h1, h2, h3, _⟩ := hds i hi
          refine ⟨cs, h1, fun j u hj => ?_, h3⟩
          have hjl : j < cs.length := (List.getElem?_eq_some_iff.1 hj).1
          have := h2 j (by omega)
          rw [add_none, add_none, hj] at this
          exact this
        · simp only [D.Typed]
          refine ⟨e, hu, rfl, D.typedAll_of ds fun y hy => ?_⟩
          obtain ⟨i, hi, rfl⟩ := List.getElem_of_mem hy
          obtain ⟨_, _, _, _, h4, _⟩ := hds i hi
          exact h4
        · simp only [D.Fits]
          refine ⟨e, hu, by rw [hdl]; exact hw0, D.fitsAll_of ds fun y hy => ?_⟩
          obtain ⟨i, hi, rfl⟩ := List.getElem_of_mem hy
          obtain ⟨_, _, _, _, _, h4⟩ := hds i hi
          exact h4
    · rename_i fs hu
      simp only [Bool.and_eq_true] at hk
      obtain ⟨xs, m, hm, hxe, hlen, hxl, hX⟩ := DataW.trod_struct hu h
      obtain rfl : n = m := by omega
      obtain ⟨ds, h1, h2, h3⟩ := fields_fit (L := L) (fun t cs x => ih t cs x) fs.toList 0 (P.cellsOf t) cs (fun i => xs[i]?) hk.1 hk.2 hlen (fun i f hf => hX i f (by simpa using hf))
        (fun i hi => ⟨xs[i]'(by simp at hi; omega), List.getElem?_eq_getElem (by simp at hi; omega)⟩) (fun i f y hf hy k hk => hz k (by
          rw [hxe]
          simp only [DataW.weights, hu]
          exact DataW.weights_mem_each (j := i) (t := f.type) (d := y.1) (by rw [List.getElem?_map, hf]; rfl) (by rw [List.getElem?_map, hy]; rfl) k hk))
      exact ⟨.agg ds, by simp only [D.Is]; simpa using h1, by simp only [D.Typed]; exact ⟨fs, hu, h2⟩, by simp only [D.Fits]; exact ⟨fs, hu, h3⟩⟩
    · cases hk

theorem val_fit {L : List TypeId} (hL : L.all (okType P L) = true) {t : TypeId} (ht : t ∈ L) {v : Value} {b : Nat} (hv : Value.okWide P w .any b t v) {x : DataW H} {ps : List MemPlace}
    (h : DataW.Trod enc P w 0 (fun _ => true) true t v x ps) (hz : ∀ k ∈ x.weights P t, k ≤ reachBytes) : ∃ d cs, v = D.val d cs ∧ D.Is w (Lt w.heap.size) d cs ∧ D.Typed P d t ∧ D.Fits P d t := by
  obtain ⟨fuel, hf⟩ := h
  obtain ⟨d, h1, h2, h3⟩ := trod_fit hL fuel t _ _ ht hf hz
  refine ⟨d, v.cells.toList, ?_, h1, h2, h3⟩
  cases d with
  | int k n =>
    simp only [D.Typed] at h2
    obtain ⟨m, rfl⟩ := okWide_int h2.1 hv
    rfl
  | bool b =>
    simp only [D.Typed] at h2
    obtain ⟨m, rfl⟩ := okWide_bool h2 hv
    rfl
  | str s =>
    simp only [D.Typed] at h2
    obtain ⟨m, rfl⟩ := okWide_string h2 hv
    rfl
  | slice e xs =>
    simp only [D.Typed] at h2
    obtain ⟨u, hu, _⟩ := h2
    obtain ⟨a, l, c, rfl⟩ := okWide_slice hu hv
    rfl
  | agg xs =>
    simp only [D.Typed] at h2
    obtain ⟨u, hu, _⟩ := h2
    obtain ⟨cs, rfl, _⟩ := okWide_struct hu hv
    rfl

/-- The arguments read as the trees, and take no more than the reach. -/
def AllFit (w : World) (P : Program) : List TypeId → List Value → List D → Prop
  | [], [], [] => True
  | t :: ts, v :: vs, x :: xs => (∃ cs, v = x.val cs ∧ D.Is w (Lt w.heap.size) x cs ∧ D.Typed P x t ∧ D.Fits P x t) ∧ AllFit w P ts vs xs
  | _, _, _ => False

theorem all_fit {L : List TypeId} (hL : L.all (okType P L) = true) {b : Nat} : ∀ (ts : List TypeId) (vs : List Value) (ds : List (DataW H)) (ps : List MemPlace), (∀ t ∈ ts, t ∈ L) →
    (∀ (j : Nat) t v, ts[j]? = some t → vs[j]? = some v → Value.okWide P w .any b t v) → DataW.TrodAll enc P w 0 (fun _ => true) true ts vs ds ps → (∀ k ∈ DataW.weightsEach P ts ds, k ≤ reachBytes) → ∃ xs, AllFit w P ts vs xs
  | [], [], [], _, _, _, _, _ => ⟨[], trivial⟩
  | t :: ts, v :: vs, d :: ds, ps, hts, hv, h, hz => by
    obtain ⟨p, q, h1, h2, _⟩ := h
    obtain ⟨xs, hxs⟩ := all_fit hL ts vs ds q (fun t ht => hts t (by simp [ht])) (fun j t v ht hv' => hv (j + 1) t v (by simpa using ht) (by simpa using hv')) h2 (fun k hk => hz k (by simp only [DataW.weightsEach, List.mem_append]; exact .inr hk))
    obtain ⟨x, cs, h3⟩ := val_fit hL (hts t (by simp)) (hv 0 t v (by simp) (by simp)) h1 (fun k hk => hz k (by simp only [DataW.weightsEach, List.mem_append]; exact .inl hk))
    exact ⟨x :: xs, ⟨cs, h3⟩, hxs⟩
  | [], [], _ :: _, _, _, _, h, _ => h.elim
  | [], _ :: _, [], _, _, _, h, _ => h.elim
  | [], _ :: _, _ :: _, _, _, _, h, _ => h.elim
  | _ :: _, [], [], _, _, _, h, _ => h.elim
  | _ :: _, [], _ :: _, _, _, _, h, _ => h.elim
  | _ :: _, _ :: _, [], _, _, _, h, _ => h.elim

end

/-- THE ROW OF A LAW: what it answers is true, and nothing that was there has turned. -/
theorem law_fit {H : Type} {enc : TypeId × Value → H} {C : Checked} {os : Os} {f : FuncId} {fn : Func} {s : ChangeSpec} (n : Nat) (L : List TypeId) (tb : TypeId)
    (own : ownKnob C.prog.godebug = none) (started : os.Started) (noInit : C.prog.inits.idxOf? f = none) (hfn : C.prog.funcs[f]? = some fn)
    (witness : ∃ (w : World) (tape : Tape) (i : Input), w.os = os ∧ (w.forCall tape i).Shaped C.prog ∧ i.vars = [] ∧ Input.okWide C.prog (w.forCall tape i) .any w.heap.size f i ∧
      s.pre6 enc C.prog fn [] false (w.forCall tape i).memory i.args ∧ ({} : Assume).holds C.prog (lone (Frame.enter C.prog f i.args .normal) [] (w.forCall tape i)))
    (hL : L.all (okType C.prog L) = true) (hn : fn.params.toList.length = n) (hin : (fn.params.toList.all fun t => L.contains t && C.prog.readableRec t && decide (t < C.prog.types.size)) = true)
    (laid : laidOutB C.prog = true) (hres : fn.resultTypes = #[tb]) (htb : C.prog.underlying tb = some .bool)
    (hvars : s.vars = []) (hspec : ∀ ds : List (DataW H), ds.length = n → s.fn H ds = { results := [.lit (.bool true)], args := ds })
    (contract : ∀ (W : World) (args : Array Value) (xs : List D), AllFit W C.prog fn.params.toList args.toList xs → Calls C.prog f args W fun e W' => e = .returned (.bool true) ∧ Below W.heap.size W W') :
    ReturnsInHanded {} C os f .any (s.pre6 enc C.prog fn [] false) (s.post enc C.prog fn false true false false) := by
  refine returnsInHanded_of_change_sized own started noInit hfn witness ?_
  intro W base args ds gs before hval hW _ hsz _
  have hW' := hW
  have hvars' : s.plain.varTypes C.prog = [] := by unfold DataSpec.varTypes ChangeSpec.plain; simp [hvars]
  obtain ⟨p, q, hA, hV, rfl, hfz, hnd⟩ := hW
  rw [hvars] at hV
  have hg : gs = [] ∧ q = [] := by
    cases gs with
    | nil => exact ⟨rfl, hV⟩
    | cons _ _ => exact hV.elim
  obtain ⟨rfl, rfl⟩ := hg
  have hlt : ∀ x ∈ p ++ [], x.block < W.heap.size := fun x hx => hW'.lt x hx
  have hlen : ds.length = n := (trodAll_len _ _ _ _ hA).trans hn
  have hall : ∀ t ∈ fn.params.toList, t ∈ L ∧ C.prog.readableRec t = true ∧ t < C.prog.types.size := fun t ht => by
    have := List.all_eq_true.1 hin t ht
    simpa [and_assoc] using this
  obtain ⟨xs, hxs⟩ := all_fit hL fn.params.toList args.toList ds p (fun t ht => (hall t ht).1) (fun j t v h1 h2 => hval j t v (by simpa using h1) (by simpa using h2)) hA (fun k hk => by
    have := List.all_eq_true.1 hsz k
    rw [hvars'] at this
    simpa using this (by simpa using hk))
  refine (contract W args xs hxs).mono fun e W' ⟨he, hb⟩ => ⟨_, he, ?_⟩
  have hsp : s.fn H (ds ++ []) = { results := [.lit (.bool true)], args := ds } := by rw [List.append_nil]; exact hspec ds hlen
  refine ⟨ds, [], p ++ [], [], p, [], hW', ?_, ?_, ?_, hb.frame _, fun h => by cases h⟩
  · rw [hsp, hres]
    exact trodAll_mk1 (shut_bool htb true)
  · rw [hsp]
    have := trodAll_below (P := C.prog) laid hb fn.params.toList args.toList ds p (fun t ht => (hall t ht).2) (fun x hx => hlt x (by simp [hx])) hA
    exact this
  · rw [hvars]
    exact (show DataW.TrodVars enc C.prog W' _ [] (s.fn H (ds ++ [])).vars [] from by rw [hsp]; exact rfl)

end Go.Proofs.Ytlmhajfbpplpoaa
namespace Go.Proofs.Ytlmhajfbpplpoaa
open Go.ChangeShapes Go.WideShapes Go.ChangeAt Go.RowKit

theorem own_knob : ownKnob Try.prog.godebug = none := by kernel_rfl
theorem laid_out : laidOutB Try.prog = true := by kernel_rfl
theorem allFit_cons {w : World} {P : Program} {t : TypeId} {ts : List TypeId} {vs : List Value} {xs : List D} (h : AllFit w P (t :: ts) vs xs) :
    ∃ v vs' x xs', vs = v :: vs' ∧ xs = x :: xs' ∧ (∃ cs, v = x.val cs ∧ D.Is w (Lt w.heap.size) x cs ∧ D.Typed P x t ∧ D.Fits P x t) ∧ AllFit w P ts vs' xs' := by
  cases vs with
  | nil => cases xs <;> exact h.elim
  | cons v vs' =>
    cases xs with
    | nil => exact h.elim
    | cons x xs' => exact ⟨v, vs', x, xs', rfl, rfl, h.1, h.2⟩
theorem allFit_nil {w : World} {P : Program} {vs : List Value} {xs : List D} (h : AllFit w P [] vs xs) : vs = [] := by
  cases vs with
  | nil => rfl
  | cons v vs' => cases xs <;> exact h.elim
section
variable {W : World} {cs : List Value} {x : D}
theorem fit_str (h : D.Is W (Lt W.heap.size) x cs) (ht : D.Typed Try.prog x 9) : ∃ s : ByteArray, x.val cs = .string s ∧ s.size ≤ 9223372036854775807 := by
  obtain ⟨s, rfl⟩ := ht.str_ Try.underlying9
  simp only [D.Is] at h
  obtain ⟨rfl, h⟩ := h
  unfold maxLen at h
  exact ⟨s, rfl, by omega⟩
end
end Go.Proofs.Ytlmhajfbpplpoaa
