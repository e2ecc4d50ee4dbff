/-
  From the form's own reading of an argument (DataW.trod) to the tree D; and the row of a law that answers true, out of a contract over such trees.
-/
import Derived.Test.YtedbjkjncfinnaaBase
import Derived.ProofKit
import Derived.SizedLaws
namespace Go.Proofs.Ytedbjkjncfinnaa
open Go.ChangeShapes Go.WideShapes Go.ChangeAt Go.RowKit

/-- The fields lie one behind the other, from o to n. -/
def fieldsFit (P : Program) : List Field → Nat → Nat → Bool
  | [], o, n => o == n
  | f :: r, o, n => f.offset == o && fieldsFit P r (o + P.cellsOf f.type) n

/-- The types of L are plain, and so are their parts. -/
def okType (P : Program) (L : List TypeId) (t : TypeId) : Bool :=
  match P.underlying t with
  | some .bool | some (.int _) | some .string => P.cellsOf t == 1
  | some (.slice e) => P.cellsOf t == 1 && L.contains e && decide (0 < P.cellsOf e)
  | some (.struct fs) => fieldsFit P fs.toList 0 (P.cellsOf t) && fs.toList.all fun f => L.contains f.type
  | _ => false

mutual
/-- The tree is one of the type. -/
def D.Typed (P : Program) : D → TypeId → Prop
  | .int k n, t => P.underlying t = some (.int k) ∧ (Lit.int k n).wf = true
  | .bool _, t => P.underlying t = some .bool
  | .str _, t => P.underlying t = some .string
  | .slice e xs, t => ∃ u, P.underlying t = some (.slice u) ∧ e = P.cellsOf u ∧ D.TypedAll P xs u
  | .agg xs, t => ∃ fs, P.underlying t = some (.struct fs) ∧ D.TypedFields P xs fs.toList
def D.TypedAll (P : Program) : List D → TypeId → Prop
  | [], _ => True
  | x :: r, u => D.Typed P x u ∧ D.TypedAll P r u
def D.TypedFields (P : Program) : List D → List Field → Prop
  | [], fs => fs = []
  | x :: r, fs => ∃ f gs, fs = f :: gs ∧ D.Typed P x f.type ∧ D.TypedFields P r gs
end

theorem D.typedAll_of {P : Program} {u : TypeId} : ∀ (xs : List D), (∀ x ∈ xs, D.Typed P x u) → D.TypedAll P xs u
  | [], _ => by simp only [D.TypedAll]
  | x :: r, h => by
    simp only [D.TypedAll]
    exact ⟨h x (by simp), D.typedAll_of r fun y hy => h y (by simp [hy])⟩

section
variable {H : Type} {enc : TypeId × Value → H} {P : Program} {w : World}

theorem choose_list {α : Type} {n : Nat} {R : Nat → α → Prop} (h : ∀ i, i < n → ∃ x, R i x) : ∃ xs : List α, xs.length = n ∧ ∀ i (hi : i < xs.length), R i xs[i] := by
  induction n with
  | zero => exact ⟨[], rfl, fun i hi => by simp at hi⟩
  | succ n ih =>
    obtain ⟨xs, hl, hx⟩ := ih fun i hi => h i (by omega)
    obtain ⟨y, hy⟩ := h n (by omega)
    refine ⟨xs ++ [y], by simp [hl], fun i hi => ?_⟩
    rcases Nat.lt_or_ge i xs.length with hlt | hge
    · rw [List.getElem_append_left hlt]; exact hx i hlt
    · have hin : i = n := by simp at hi; omega
      subst hin
      rw [List.getElem_append_right hge]
      simpa [hl] using hy

theorem fields_is {L : List TypeId} {n : Nat}
    (ih : ∀ t cs x, t ∈ L → DataW.trod enc P w 0 (fun _ => true) true n t cs = some x → ∃ d : D, D.Is w (Lt w.heap.size) d cs ∧ D.Typed P d t) :
    ∀ (fs : List Field) (o m : Nat) (cs : List Value) (X : Nat → Option (DataW H × List MemPlace)), fieldsFit P fs o m = true → (fs.all fun f => L.contains f.type) = true → cs.length = m →
      (∀ i f, fs[i]? = some f → DataW.trod enc P w 0 (fun _ => true) true n f.type ((cs.drop f.offset).take (P.cellsOf f.type)) = X i) → (∀ i, i < fs.length → ∃ y, X i = some y) →
      ∃ ds : List D, D.Cat w (Lt w.heap.size) ds (cs.drop o) ∧ D.TypedFields P ds fs
  | [], o, m, cs, X, hf, _, hl, _, _ => by
    refine ⟨[], ?_, by simp only [D.TypedFields]⟩
    simp only [fieldsFit, beq_iff_eq] at hf
    simp only [D.Cat]
    exact List.drop_eq_nil_iff.2 (by omega)
  | f :: r, o, m, cs, X, hf, hL, hl, hX, hY => by
    simp only [fieldsFit, Bool.and_eq_true, beq_iff_eq] at hf
    simp only [List.all_cons, Bool.and_eq_true, List.contains_iff_mem] at hL
    obtain ⟨ds, h1, h2⟩ := fields_is ih r (o + P.cellsOf f.type) m cs (fun i => X (i + 1)) hf.2 hL.2 hl (fun i g hg => hX (i + 1) g (by simpa using hg)) (fun i hi => hY (i + 1) (by simpa using hi))
    obtain ⟨y, hy⟩ := hY 0 (by simp)
    obtain ⟨d, h3, h4⟩ := ih f.type _ y hL.1 ((hX 0 f (by simp)).trans hy)
    refine ⟨d :: ds, ?_, ?_⟩
    · simp only [D.Cat]
      rw [hf.1] at h3
      exact ⟨_, _, by rw [← List.drop_drop]; exact (List.take_append_drop _ _).symm, h3, h1⟩
    · simp only [D.TypedFields]
      exact ⟨f, r, rfl, h4, h2⟩

theorem cells_len {base : Nat} {a : Addr} {n : Nat} {cs : List Value} (h : w.cells? base a n = some cs) : cs.length = n ∧ ∀ i, i < n → w.cell? (a.add i) = cs[i]? := (World.cells?_some h).2

theorem spot_none {a : Addr} {v : Value} (h : w.cell? a = some v) : a.spot = none ∧ a.block < w.heap.size := by
  unfold World.cell? at h
  cases hh : w.heap[a.block]? with
  | none => simp [hh] at h
  | some o =>
    refine ⟨?_, (Array.getElem?_eq_some_iff.1 hh).1⟩
    rw [hh] at h
    cases o <;> simp at h
    exact h.1

theorem add_none {b o k : Nat} : (⟨b, o, none⟩ : Addr).add k = ⟨b, o + k, none⟩ := by unfold Addr.add; split <;> simp_all

theorem trod_is {L : List TypeId} (hL : L.all (okType P L) = true) : ∀ (fuel : Nat) (t : TypeId) (cs : List Value) (x : DataW H × List MemPlace), t ∈ L → DataW.trod enc P w 0 (fun _ => true) true fuel t cs = some x →
    ∃ d : D, D.Is w (Lt w.heap.size) d cs ∧ D.Typed P d t := by
  intro fuel
  induction fuel with
  | zero => intro t cs x _ h; simp [DataW.trod] at h
  | succ n ih =>
    intro t cs x ht h
    have hk := List.all_eq_true.1 hL t ht
    unfold okType at hk
    split at hk
    · rename_i hu
      obtain ⟨b, rfl, _⟩ := DataW.trod_bool hu h
      exact ⟨.bool b, by simp only [D.Is], by simpa only [D.Typed] using hu⟩
    · rename_i k hu
      obtain ⟨m, rfl, _, hw⟩ := DataW.trod_int hu h
      exact ⟨.int k m, by simp only [D.Is], by simp only [D.Typed]; exact ⟨hu, hw⟩⟩
    · rename_i hu
      obtain ⟨s, rfl, _, hs⟩ := DataW.trod_string hu h
      exact ⟨.str s, by simp only [D.Is]; exact ⟨trivial, hs⟩, by simpa only [D.Typed] using hu⟩
    · rename_i e hu
      simp only [Bool.and_eq_true, List.contains_iff_mem, decide_eq_true_eq] at hk
      obtain ⟨⟨_, hin⟩, hpos⟩ := hk
      rcases DataW.trod_slice hu h with ⟨rfl, _⟩ | ⟨a, len, cap, elems, rest, m, hm, rfl, _, hb, hlc, hcm, hel, hx, _, _⟩
      · exact ⟨.slice (P.cellsOf e) [], by simp only [D.Is]; exact ⟨none, 0, rfl, Nat.le_refl _, by decide, fun h => absurd rfl h⟩, by simp only [D.Typed]; exact ⟨e, hu, rfl, by simp only [D.TypedAll]⟩⟩
      · obtain rfl : n = m := by omega
        have hel' : ∀ i, i < len → ∃ d : D, ∃ cs', cs'.length = P.cellsOf e ∧ (∀ j, j < P.cellsOf e → w.cell? ((a.add (i * P.cellsOf e)).add j) = cs'[j]?) ∧ D.Is w (Lt w.heap.size) d cs' ∧ D.Typed P d e := by
          intro i hi
          have h1 := hx i hi
          have h2 : elems[i]? = some (elems[i]'(by omega)) := List.getElem?_eq_getElem (by omega)
          rw [h2, Option.bind_eq_some_iff] at h1
          obtain ⟨cs', hc, ht'⟩ := h1
          obtain ⟨d, hd1, hd2⟩ := ih e cs' _ hin ht'
          exact ⟨d, cs', (cells_len hc).1, (cells_len hc).2, hd1, hd2⟩
        obtain ⟨ds, hdl, hds⟩ := choose_list hel'
        refine ⟨.slice (P.cellsOf e) ds, ?_, ?_⟩
        · refine D.Is.slice_mk hdl.symm hlc hcm fun hn => ?_
          have h0 := hds 0 (by omega)
          obtain ⟨cs', hl', hc', _⟩ := h0
          have hc0 := hc' 0 hpos
          rw [List.getElem?_eq_getElem (by omega)] at hc0
          simp only [Nat.zero_mul, show ∀ x : Addr, x.add 0 = x from fun x => by simp [Addr.add]] at hc0
          obtain ⟨hs, hlt⟩ := spot_none hc0
          obtain ⟨ab, ao, sp⟩ := a
          obtain rfl : sp = none := hs
          refine ⟨ab, ao, rfl, hlt, fun i hi => ?_⟩
          obtain ⟨cs, h1, h2, h3, _⟩ := hds i hi
          refine ⟨cs, h1, fun j u hj => ?_, h3⟩
          have hjl : j < cs.length := (List.getElem?_eq_some_iff.1 hj).1
          have := h2 j (by omega)
          rw [add_none, add_none, hj] at this
          exact this
        · simp only [D.Typed]
          refine ⟨e, hu, rfl, D.typedAll_of ds fun y hy => ?_⟩
          obtain ⟨i, hi, rfl⟩ := List.getElem_of_mem hy
          obtain ⟨_, _, _, _, h4⟩ := hds i hi
          exact h4
    · rename_i fs hu
      simp only [Bool.and_eq_true] at hk
      obtain ⟨xs, m, hm, _, hlen, hxl, hX⟩ := DataW.trod_struct hu h
      obtain rfl : n = m := by omega
      obtain ⟨ds, h1, h2⟩ := fields_is (L := L) (fun t cs x => ih t cs x) fs.toList 0 (P.cellsOf t) cs (fun i => xs[i]?) hk.1 hk.2 hlen (fun i f hf => hX i f (by simpa using hf))
        (fun i hi => ⟨xs[i]'(by simp at hi; omega), List.getElem?_eq_getElem (by simp at hi; omega)⟩)
      exact ⟨.agg ds, by simp only [D.Is]; simpa using h1, by simp only [D.Typed]; exact ⟨fs, hu, h2⟩⟩
    · cases hk

/-- The value of an argument that reads as the tree: its cells in one. -/
def D.val : D → List Value → Value
  | .agg _, cs => .agg cs.toArray
  | _, cs => cs.headD undef

/-- The arguments read as the trees. -/
def AllIs (w : World) (P : Program) : List TypeId → List Value → List D → Prop
  | [], [], [] => True
  | t :: ts, v :: vs, x :: xs => (∃ cs, v = x.val cs ∧ D.Is w (Lt w.heap.size) x cs ∧ D.Typed P x t) ∧ AllIs w P ts vs xs
  | _, _, _ => False

theorem val_of {L : List TypeId} (hL : L.all (okType P L) = true) {t : TypeId} (ht : t ∈ L) {v : Value} {b : Nat} (hv : Value.okWide P w .any b t v) {x : DataW H} {ps : List MemPlace}
    (h : DataW.Trod enc P w 0 (fun _ => true) true t v x ps) : ∃ d cs, v = D.val d cs ∧ D.Is w (Lt w.heap.size) d cs ∧ D.Typed P d t := by
  obtain ⟨fuel, hf⟩ := h
  obtain ⟨d, h1, h2⟩ := trod_is hL fuel t _ _ ht hf
  refine ⟨d, v.cells.toList, ?_, h1, h2⟩
  cases d with
  | int k n =>
    simp only [D.Typed] at h2
    obtain ⟨m, rfl⟩ := okWide_int h2.1 hv
    rfl
  | bool b =>
    simp only [D.Typed] at h2
    obtain ⟨m, rfl⟩ := okWide_bool h2 hv
    rfl
  | str s =>
    simp only [D.Typed] at h2
    obtain ⟨m, rfl⟩ := okWide_string h2 hv
    rfl
  | slice e xs =>
    simp only [D.Typed] at h2
    obtain ⟨u, hu, _⟩ := h2
    obtain ⟨a, l, c, rfl⟩ := okWide_slice hu hv
    rfl
  | agg xs =>
    simp only [D.Typed] at h2
    obtain ⟨u, hu, _⟩ := h2
    obtain ⟨cs, rfl, _⟩ := okWide_struct hu hv
    rfl

theorem all_is {L : List TypeId} (hL : L.all (okType P L) = true) {b : Nat} : ∀ (ts : List TypeId) (vs : List Value) (ds : List (DataW H)) (ps : List MemPlace), (∀ t ∈ ts, t ∈ L) →
    (∀ (j : Nat) t v, ts[j]? = some t → vs[j]? = some v → Value.okWide P w .any b t v) → DataW.TrodAll enc P w 0 (fun _ => true) true ts vs ds ps → ∃ xs, AllIs w P ts vs xs
  | [], [], [], _, _, _, _ => ⟨[], trivial⟩
  | t :: ts, v :: vs, d :: ds, ps, hts, hv, h => by
    obtain ⟨p, q, h1, h2, _⟩ := h
    obtain ⟨xs, hxs⟩ := all_is hL ts vs ds q (fun t ht => hts t (by simp [ht])) (fun j t v ht hv' => hv (j + 1) t v (by simpa using ht) (by simpa using hv')) h2
    obtain ⟨x, cs, h3⟩ := val_of hL (hts t (by simp)) (hv 0 t v (by simp) (by simp)) h1
    exact ⟨x :: xs, ⟨cs, h3⟩, hxs⟩
  | [], [], _ :: _, _, _, _, h => h.elim
  | [], _ :: _, [], _, _, _, h => h.elim
  | [], _ :: _, _ :: _, _, _, _, h => h.elim
  | _ :: _, [], [], _, _, _, h => h.elim
  | _ :: _, [], _ :: _, _, _, _, h => h.elim
  | _ :: _, _ :: _, [], _, _, _, h => h.elim

theorem trodAll_below (hl : laidOutB P = true) {W W' : World} (hb : Below W.heap.size W W') : ∀ (ts : List TypeId) (vs : List Value) (ds : List (DataW H)) (ps : List MemPlace),
    (∀ t ∈ ts, P.readableRec t = true ∧ t < P.types.size) → (∀ x ∈ ps, x.block < W.heap.size) → DataW.TrodAll enc P W 0 (fun _ => true) true ts vs ds ps →
    DataW.TrodAll enc P W' 0 (fun b => decide (b < W.heap.size)) true ts vs ds ps
  | [], [], [], _, _, _, h => h
  | t :: ts, v :: vs, d :: ds, ps, ht, hlt, h => by
    obtain ⟨p, q, h1, h2, rfl⟩ := h
    exact ⟨p, q, Below.trod hl (ht t (by simp)).1 (ht t (by simp)).2 h1 hb (fun x hx => hlt x (by simp [hx])),
      trodAll_below hl hb ts vs ds q (fun t h => ht t (by simp [h])) (fun x hx => hlt x (by simp [hx])) h2, rfl⟩
  | [], [], _ :: _, _, _, _, h => h.elim
  | [], _ :: _, [], _, _, _, h => h.elim
  | [], _ :: _, _ :: _, _, _, _, h => h.elim
  | _ :: _, [], [], _, _, _, h => h.elim
  | _ :: _, [], _ :: _, _, _, _, h => h.elim
  | _ :: _, _ :: _, [], _, _, _, h => h.elim
end

theorem trodAll_len {H : Type} {enc : TypeId × Value → H} {P : Program} {w : World} {b : Nat} {sp : Nat → Bool} {hd : Bool} : ∀ (ts : List TypeId) (vs : List Value) (ds : List (DataW H)) (ps : List MemPlace),
    DataW.TrodAll enc P w b sp hd ts vs ds ps → ds.length = ts.length
  | [], [], [], _, _ => rfl
  | _ :: ts, _ :: vs, _ :: ds, _, h => by
    obtain ⟨_, q, _, h2, _⟩ := h
    simp [trodAll_len ts vs ds q h2]
  | [], [], _ :: _, _, h => h.elim
  | [], _ :: _, [], _, h => h.elim
  | [], _ :: _, _ :: _, _, h => h.elim
  | _ :: _, [], [], _, h => h.elim
  | _ :: _, [], _ :: _, _, h => h.elim
  | _ :: _, _ :: _, [], _, h => h.elim

/-- THE ROW OF A LAW: what it answers is true, and nothing that was there has turned. -/
theorem law_lifted {H : Type} {enc : TypeId × Value → H} {C : Checked} {os : Os} {f : FuncId} {fn : Func} {s : ChangeSpec} (n : Nat) (L : List TypeId) (tb : TypeId)
    (own : ownKnob C.prog.godebug = none) (started : os.Started) (noInit : C.prog.inits.idxOf? f = none) (hfn : C.prog.funcs[f]? = some fn)
    (witness : ∃ (w : World) (tape : Tape) (i : Input), w.os = os ∧ (w.forCall tape i).Shaped C.prog ∧ i.vars = [] ∧ Input.okWide C.prog (w.forCall tape i) .any w.heap.size f i ∧
      s.pre6 enc C.prog fn [] false (w.forCall tape i).memory i.args ∧ ({} : Assume).holds C.prog (lone (Frame.enter C.prog f i.args .normal) [] (w.forCall tape i)))
    (hL : L.all (okType C.prog L) = true) (hn : fn.params.toList.length = n) (hin : (fn.params.toList.all fun t => L.contains t && C.prog.readableRec t && decide (t < C.prog.types.size)) = true)
    (laid : laidOutB C.prog = true) (hres : fn.resultTypes = #[tb]) (htb : C.prog.underlying tb = some .bool)
    (hvars : s.vars = []) (hspec : ∀ ds : List (DataW H), ds.length = n → s.fn H ds = { results := [.lit (.bool true)], args := ds })
    (contract : ∀ (W : World) (args : Array Value) (xs : List D), AllIs W C.prog fn.params.toList args.toList xs → Calls C.prog f args W fun e W' => e = .returned (.bool true) ∧ Below W.heap.size W W') :
    ReturnsInHanded {} C os f .any (s.pre6 enc C.prog fn [] false) (s.post enc C.prog fn false true false false) := by
  refine returnsInHanded_of_change own started noInit hfn witness ?_
  intro W base args ds gs before hval hW _ _
  have hW' := hW
  obtain ⟨p, q, hA, hV, rfl, hfz, hnd⟩ := hW
  rw [hvars] at hV
  have hg : gs = [] ∧ q = [] := by
    cases gs with
    | nil => exact ⟨rfl, hV⟩
    | cons _ _ => exact hV.elim
  obtain ⟨rfl, rfl⟩ := hg
  have hlt : ∀ x ∈ p ++ [], x.block < W.heap.size := fun x hx => hW'.lt x hx
  have hlen : ds.length = n := (trodAll_len _ _ _ _ hA).trans hn
  have hall : ∀ t ∈ fn.params.toList, t ∈ L ∧ C.prog.readableRec t = true ∧ t < C.prog.types.size := fun t ht => by
    have := List.all_eq_true.1 hin t ht
    simpa [and_assoc] using this
  obtain ⟨xs, hxs⟩ := all_is hL fn.params.toList args.toList ds p (fun t ht => (hall t ht).1) (fun j t v h1 h2 => hval j t v (by simpa using h1) (by simpa using h2)) hA
  refine (contract W args xs hxs).mono fun e W' ⟨he, hb⟩ => ⟨_, he, ?_⟩
  have hsp : s.fn H (ds ++ []) = { results := [.lit (.bool true)], args := ds } := by rw [List.append_nil]; exact hspec ds hlen
  refine ⟨ds, [], p ++ [], [], p, [], hW', ?_, ?_, ?_, hb.frame _, fun h => by cases h⟩
  · rw [hsp, hres]
    exact trodAll_mk1 (shut_bool htb true)
  · rw [hsp]
    have := trodAll_below (P := C.prog) laid hb fn.params.toList args.toList ds p (fun t ht => (hall t ht).2) (fun x hx => hlt x (by simp [hx])) hA
    exact this
  · rw [hvars]
    exact (show DataW.TrodVars enc C.prog W' _ [] (s.fn H (ds ++ [])).vars [] from by rw [hsp]; exact rfl)

section
variable {P : Program} {x : D} {t : TypeId}
theorem D.Typed.int_ {k : IntKind} (h : D.Typed P x t) (ht : P.underlying t = some (.int k)) : ∃ n, x = .int k n ∧ (Lit.int k n).wf = true := by
  cases x <;> simp only [D.Typed] at h <;> (try rw [ht] at h) <;> simp at h
  obtain ⟨rfl, hw⟩ := h
  exact ⟨_, rfl, hw⟩
theorem D.Typed.bool_ (h : D.Typed P x t) (ht : P.underlying t = some .bool) : ∃ b, x = .bool b := by
  cases x <;> simp only [D.Typed] at h <;> (try rw [ht] at h) <;> simp at h
  exact ⟨_, rfl⟩
theorem D.Typed.str_ (h : D.Typed P x t) (ht : P.underlying t = some .string) : ∃ s, x = .str s := by
  cases x <;> simp only [D.Typed] at h <;> (try rw [ht] at h) <;> simp at h
  exact ⟨_, rfl⟩
theorem D.TypedAll.mem {u : TypeId} : ∀ {xs : List D}, D.TypedAll P xs u → ∀ y ∈ xs, D.Typed P y u
  | [], _, y, hy => by simp at hy
  | z :: r, h, y, hy => by
    simp only [D.TypedAll] at h
    rcases List.mem_cons.1 hy with rfl | hy
    · exact h.1
    · exact D.TypedAll.mem h.2 y hy
theorem D.Typed.slice_ {u : TypeId} (h : D.Typed P x t) (ht : P.underlying t = some (.slice u)) : ∃ xs, x = .slice (P.cellsOf u) xs ∧ ∀ y ∈ xs, D.Typed P y u := by
  cases x <;> simp only [D.Typed] at h <;> (try rw [ht] at h) <;> simp at h
  obtain ⟨rfl, h⟩ := h
  exact ⟨_, rfl, h.mem⟩
theorem D.Typed.struct_ {fs : Array Field} (h : D.Typed P x t) (ht : P.underlying t = some (.struct fs)) : ∃ xs, x = .agg xs ∧ D.TypedFields P xs fs.toList := by
  cases x <;> simp only [D.Typed] at h <;> (try rw [ht] at h) <;> simp at h
  exact ⟨_, rfl, h⟩
theorem D.TypedFields.cons_ {xs : List D} {f : Field} {fs : List Field} (h : D.TypedFields P xs (f :: fs)) : ∃ x r, xs = x :: r ∧ D.Typed P x f.type ∧ D.TypedFields P r fs := by
  cases xs with
  | nil => simp only [D.TypedFields] at h; cases h
  | cons x r =>
    simp only [D.TypedFields] at h
    obtain ⟨g, gs, hg, h1, h2⟩ := h
    simp only [List.cons.injEq] at hg
    obtain ⟨rfl, rfl⟩ := hg
    exact ⟨x, r, rfl, h1, h2⟩
theorem D.TypedFields.nil_ {xs : List D} (h : D.TypedFields P xs []) : xs = [] := by
  cases xs with
  | nil => rfl
  | cons x r =>
    simp only [D.TypedFields] at h
    obtain ⟨g, gs, hg, _⟩ := h
    cases hg
end

/-- A list of what each is the image of something. -/
theorem unmap {α β : Type} {g : α → β} {Q : α → Prop} : ∀ (ys : List β), (∀ y ∈ ys, ∃ x, y = g x ∧ Q x) → ∃ xs : List α, ys = xs.map g ∧ ∀ x ∈ xs, Q x
  | [], _ => ⟨[], rfl, fun x hx => by simp at hx⟩
  | y :: r, h => by
    obtain ⟨x, hx, hq⟩ := h y (by simp)
    obtain ⟨xs, hxs, hqs⟩ := unmap r fun z hz => h z (by simp [hz])
    exact ⟨x :: xs, by simp [hx, hxs], fun z hz => (List.mem_cons.1 hz).elim (fun e => e ▸ hq) (hqs z)⟩
end Go.Proofs.Ytedbjkjncfinnaa
