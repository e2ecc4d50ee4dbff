/-
  What an argument of small bulk reads as is of small bulk; the row of a law over small arguments, out of a contract that may use it.
-/
import Derived.Test.YtedbjkjncfinnabFits
import Derived.Test.YtedbjkjncfinnabRows
import Derived.JoinedCond
namespace Go.Proofs.Ytedbjkjncfinnab
open Go.ChangeShapes Go.WideShapes Go.ChangeAt Go.RowKit
open _root_.Go.Proofs.Ytedbjkjncfinnab.Rows (uptoBulk uptoBulkAll uptoSmall OpenSpec.upto)

mutual
/-- How many values and letters a tree holds. -/
def D.bulk : D → Nat
  | .int _ _ => 1
  | .bool _ => 1
  | .str s => s.size + 1
  | .slice _ xs => D.bulkAll xs + 1
  | .agg xs => D.bulkAll xs + 1
def D.bulkAll : List D → Nat
  | [] => 0
  | x :: r => D.bulk x + D.bulkAll r
end
section
variable {H : Type} {enc : TypeId × Value → H} {P : Program} {w : World}
theorem bulk_le : ∀ (ds : List D) (xs : List (DataW H)), ds.length = xs.length → (∀ i (h : i < ds.length) (h' : i < xs.length), D.bulk ds[i] ≤ uptoBulk xs[i]) → D.bulkAll ds ≤ uptoBulkAll xs
  | [], [], _, _ => by simp only [D.bulkAll, uptoBulkAll]; exact Nat.le_refl _
  | [], _ :: _, h, _ => by simp at h
  | _ :: _, [], h, _ => by simp at h
  | d :: ds, x :: xs, h, hp => by
    have h0 := hp 0 (by simp) (by simp)
    have h1 := bulk_le ds xs (by simpa using h) (fun i g g' => hp (i + 1) (by simpa using g) (by simpa using g'))
    simp only [D.bulkAll, uptoBulkAll]
    simp only [List.getElem_cons_zero] at h0
    omega
theorem fields_small {L : List TypeId} {n : Nat}
    (ih : ∀ t cs x, t ∈ L → DataW.trod enc P w 0 (fun _ => true) true n t cs = some x → ∃ d : D, D.Is w (Lt w.heap.size) d cs ∧ D.Typed P d t ∧ D.bulk d ≤ uptoBulk x.1) :
    ∀ (fs : List Field) (o m : Nat) (cs : List Value) (X : List (DataW H × List MemPlace)), fieldsFit P fs o m = true → (fs.all fun f => L.contains f.type) = true → cs.length = m → X.length = fs.length →
      (∀ (i : Nat) (f : Field), fs[i]? = some f → DataW.trod enc P w 0 (fun _ => true) true n f.type ((cs.drop f.offset).take (P.cellsOf f.type)) = X[i]?) →
      ∃ ds : List D, D.Cat w (Lt w.heap.size) ds (cs.drop o) ∧ D.TypedFields P ds fs ∧ D.bulkAll ds ≤ uptoBulkAll (X.map (·.1))
  | [], o, m, cs, X, hf, _, hl, _, _ => by
    refine ⟨[], ?_, by simp only [D.TypedFields], by simp only [D.bulkAll]; exact Nat.zero_le _⟩
    simp only [fieldsFit, beq_iff_eq] at hf
    simp only [D.Cat]
    exact List.drop_eq_nil_iff.2 (by omega)
  | f :: r, o, m, cs, [], hf, hL, hl, hn, hX => by simp at hn
  | f :: r, o, m, cs, y :: X, hf, hL, hl, hn, hX => by
    simp only [fieldsFit, Bool.and_eq_true, beq_iff_eq] at hf
    simp only [List.all_cons, Bool.and_eq_true, List.contains_iff_mem] at hL
    obtain ⟨ds, h1, h2, h2'⟩ := fields_small ih r (o + P.cellsOf f.type) m cs X hf.2 hL.2 hl (by simpa using hn) (fun i g hg => by simpa using hX (i + 1) g (by simpa using hg))
    obtain ⟨d, h3, h4, h4'⟩ := ih f.type _ y hL.1 (hX 0 f (by simp))
    refine ⟨d :: ds, ?_, ?_, ?_⟩
    · simp only [D.Cat]
      rw [hf.1] at h3
      exact ⟨_, _, by rw [← List.drop_drop]; exact (List.take_append_drop _ _).symm, h3, h1⟩
    · simp only [D.TypedFields]
      exact ⟨f, r, rfl, h4, h2⟩
    · simp only [D.bulkAll, List.map_cons, uptoBulkAll]
      omega

theorem trod_small {L : List TypeId} (hL : L.all (okType P L) = true) : ∀ (fuel : Nat) (t : TypeId) (cs : List Value) (x : DataW H × List MemPlace), t ∈ L → DataW.trod enc P w 0 (fun _ => true) true fuel t cs = some x →
    ∃ d : D, D.Is w (Lt w.heap.size) d cs ∧ D.Typed P d t ∧ D.bulk d ≤ uptoBulk x.1 := by
  intro fuel
  induction fuel with
  | zero => intro t cs x _ h; simp [DataW.trod] at h
  | succ n ih =>
    intro t cs x ht h
    have hk := List.all_eq_true.1 hL t ht
    unfold okType at hk
    split at hk
    · rename_i hu
      obtain ⟨b, rfl, rfl⟩ := DataW.trod_bool hu h
      exact ⟨.bool b, by simp only [D.Is], by simpa only [D.Typed] using hu, by simp only [D.bulk, uptoBulk]; exact Nat.le_refl _⟩
    · rename_i k hu
      obtain ⟨m, rfl, rfl, hw⟩ := DataW.trod_int hu h
      exact ⟨.int k m, by simp only [D.Is], by simp only [D.Typed]; exact ⟨hu, hw⟩, by simp only [D.bulk, uptoBulk]; exact Nat.le_refl _⟩
    · rename_i hu
      obtain ⟨s, rfl, rfl, hs⟩ := DataW.trod_string hu h
      exact ⟨.str s, by simp only [D.Is]; exact ⟨trivial, hs⟩, by simpa only [D.Typed] using hu, by simp [D.bulk, uptoBulk]⟩
    · rename_i e hu
      simp only [Bool.and_eq_true, List.contains_iff_mem, decide_eq_true_eq] at hk
      obtain ⟨⟨_, hin⟩, hpos⟩ := hk
      rcases DataW.trod_slice hu h with ⟨rfl, rfl⟩ | ⟨a, len, cap, elems, rest, m, hm, rfl, rfl, hb, hlc, hcm, hel, hx, _, _⟩
      · exact ⟨.slice (P.cellsOf e) [], by simp only [D.Is]; exact ⟨none, 0, rfl, Nat.le_refl _, by decide, fun h => absurd rfl h⟩, by simp only [D.Typed]; exact ⟨e, hu, rfl, by simp only [D.TypedAll]⟩, by simp only [D.bulk, D.bulkAll, uptoBulk]; exact Nat.le_refl _⟩
      · obtain rfl : n = m := by omega
        have hel' : ∀ i, i < len → ∃ d : D, ∃ cs', cs'.length = P.cellsOf e ∧ (∀ j, j < P.cellsOf e → w.cell? ((a.add (i * P.cellsOf e)).add j) = cs'[j]?) ∧ D.Is w (Lt w.heap.size) d cs' ∧ D.Typed P d e ∧ ∀ y, elems[i]? = some y → D.bulk d ≤ uptoBulk y.1 := by
          intro i hi
          have h1 := hx i hi
          have h2 : elems[i]? = some (elems[i]'(by omega)) := List.getElem?_eq_getElem (by omega)
          rw [h2, Option.bind_eq_some_iff] at h1
          obtain ⟨cs', hc, ht'⟩ := h1
          obtain ⟨d, hd1, hd2, hd3⟩ := ih e cs' _ hin ht'
          exact ⟨d, cs', (cells_len hc).1, (cells_len hc).2, hd1, hd2, fun y hy => by rw [h2] at hy; obtain rfl := Option.some.inj hy; exact hd3⟩
        obtain ⟨ds, hdl, hds⟩ := choose_list hel'
        refine ⟨.slice (P.cellsOf e) ds, ?_, ?_, ?_⟩
        · refine D.Is.slice_mk hdl.symm hlc hcm fun hn => ?_
          have h0 := hds 0 (by omega)
          obtain ⟨cs', hl', hc', _⟩ := h0
          have hc0 := hc' 0 hpos
          rw [List.getElem?_eq_getElem (by omega)] at hc0
          simp only [Nat.zero_mul, show ∀ x : Addr, x.add 0 = x from fun x => by simp [Addr.add]] at hc0
          obtain ⟨hs, hlt⟩ := spot_none hc0
          obtain ⟨ab, ao, sp⟩ := a
          obtain rfl : sp = none := hs
          refine ⟨ab, ao, rfl, hlt, fun i hi => ?_⟩
          obtain ⟨cs, h1, h2, h3, _⟩ := hds i hi
          refine ⟨cs, h1, fun j u hj => ?_, h3⟩
          have hjl : j < cs.length := (List.getElem?_eq_some_iff.1 hj).1
          have := h2 j (by omega)
          rw [add_none, add_none, hj] at this
          exact this
        · simp only [D.Typed]
          refine ⟨e, hu, rfl, D.typedAll_of ds fun y hy => ?_⟩
          obtain ⟨i, hi, rfl⟩ := List.getElem_of_mem hy
          obtain ⟨_, _, _, _, h4, _⟩ := hds i hi
          exact h4
        · simp only [D.bulk, uptoBulk]
          have := bulk_le ds (elems.map (·.1)) (by rw [List.length_map]; omega) (fun i h h' => by
            rw [List.getElem_map]
            obtain ⟨_, _, _, _, _, h4⟩ := hds i h
            exact h4 _ (List.getElem?_eq_getElem (by simpa using h')))
          omega
    · rename_i fs hu
      simp only [Bool.and_eq_true] at hk
      obtain ⟨xs, m, hm, rfl, hlen, hxl, hX⟩ := DataW.trod_struct hu h
      obtain rfl : n = m := by omega
      obtain ⟨ds, h1, h2, h3⟩ := fields_small (L := L) (fun t cs x => ih t cs x) fs.toList 0 (P.cellsOf t) cs xs hk.1 hk.2 hlen (by simpa using hxl) (fun i f hf => hX i f (by simpa using hf))
      exact ⟨.agg ds, by simp only [D.Is]; simpa using h1, by simp only [D.Typed]; exact ⟨fs, hu, h2⟩, by simp only [D.bulk, uptoBulk]; omega⟩
    · cases hk

theorem val_small {L : List TypeId} (hL : L.all (okType P L) = true) {t : TypeId} (ht : t ∈ L) {v : Value} {b : Nat} (hv : Value.okWide P w .any b t v) {x : DataW H} {ps : List MemPlace}
    (h : DataW.Trod enc P w 0 (fun _ => true) true t v x ps) : ∃ d cs, v = D.val d cs ∧ D.Is w (Lt w.heap.size) d cs ∧ D.Typed P d t ∧ D.bulk d ≤ uptoBulk x := by
  obtain ⟨fuel, hf⟩ := h
  obtain ⟨d, h1, h2, h3⟩ := trod_small hL fuel t _ _ ht hf
  refine ⟨d, v.cells.toList, ?_, h1, h2, h3⟩
  cases d with
  | int k n =>
    simp only [D.Typed] at h2
    obtain ⟨m, rfl⟩ := okWide_int h2.1 hv
    rfl
  | bool b =>
    simp only [D.Typed] at h2
    obtain ⟨m, rfl⟩ := okWide_bool h2 hv
    rfl
  | str s =>
    simp only [D.Typed] at h2
    obtain ⟨m, rfl⟩ := okWide_string h2 hv
    rfl
  | slice e xs =>
    simp only [D.Typed] at h2
    obtain ⟨u, hu, _⟩ := h2
    obtain ⟨a, l, c, rfl⟩ := okWide_slice hu hv
    rfl
  | agg xs =>
    simp only [D.Typed] at h2
    obtain ⟨u, hu, _⟩ := h2
    obtain ⟨cs, rfl, _⟩ := okWide_struct hu hv
    rfl

/-- The arguments read as the trees. -/
def AllRead (w : World) (P : Program) : List TypeId → List Value → List D → Prop
  | [], [], [] => True
  | t :: ts, v :: vs, x :: xs => (∃ cs, v = x.val cs ∧ D.Is w (Lt w.heap.size) x cs ∧ D.Typed P x t) ∧ AllRead w P ts vs xs
  | _, _, _ => False

theorem all_small {L : List TypeId} (hL : L.all (okType P L) = true) {b : Nat} : ∀ (ts : List TypeId) (vs : List Value) (ds : List (DataW H)) (ps : List MemPlace), (∀ t ∈ ts, t ∈ L) →
    (∀ (j : Nat) t v, ts[j]? = some t → vs[j]? = some v → Value.okWide P w .any b t v) → DataW.TrodAll enc P w 0 (fun _ => true) true ts vs ds ps → ∃ xs, AllRead w P ts vs xs ∧ D.bulkAll xs ≤ uptoBulkAll ds
  | [], [], [], _, _, _, _ => ⟨[], trivial, by simp only [D.bulkAll]; exact Nat.zero_le _⟩
  | t :: ts, v :: vs, d :: ds, ps, hts, hv, h => by
    obtain ⟨p, q, h1, h2, _⟩ := h
    obtain ⟨xs, hxs, hb⟩ := all_small hL ts vs ds q (fun t ht => hts t (by simp [ht])) (fun j t v ht hv' => hv (j + 1) t v (by simpa using ht) (by simpa using hv')) h2
    obtain ⟨x, cs, h3, h4, h5, h6⟩ := val_small hL (hts t (by simp)) (hv 0 t v (by simp) (by simp)) h1
    exact ⟨x :: xs, ⟨⟨cs, h3, h4, h5⟩, hxs⟩, by simp only [D.bulkAll, uptoBulkAll]; omega⟩
  | [], [], _ :: _, _, _, _, h => h.elim
  | [], _ :: _, [], _, _, _, h => h.elim
  | [], _ :: _, _ :: _, _, _, _, h => h.elim
  | _ :: _, [], [], _, _, _, h => h.elim
  | _ :: _, [], _ :: _, _, _, _, h => h.elim
  | _ :: _, _ :: _, [], _, _, _, h => h.elim
end

/-- THE ROW OF A LAW OVER SMALL ARGUMENTS: what it answers is true, and nothing that was there has turned. -/
theorem law_small {H : Type} {enc : TypeId × Value → H} {C : Checked} {os : Os} {f : FuncId} {fn : Func} {s : ChangeSpec} {F : Stop.Interp} (n : Nat) (L : List TypeId) (tb : TypeId)
    (own : ownKnob C.prog.godebug = none) (started : os.Started) (noInit : C.prog.inits.idxOf? f = none) (hfn : C.prog.funcs[f]? = some fn)
    (witness : ∃ (w : World) (tape : Tape) (i : Input), w.os = os ∧ (w.forCall tape i).Shaped C.prog ∧ i.vars = [] ∧ Input.okWide C.prog (w.forCall tape i) .any w.heap.size f i ∧
      (OpenSpec.upto s).pre6 enc C.prog fn [] false (w.forCall tape i).memory i.args ∧ ({} : Assume).holds C.prog (lone (Frame.enter C.prog f i.args .normal) [] (w.forCall tape i)))
    (hL : L.all (okType C.prog L) = true) (hn : fn.params.toList.length = n) (hin : (fn.params.toList.all fun t => L.contains t && C.prog.readableRec t && decide (t < C.prog.types.size)) = true)
    (laid : laidOutB C.prog = true) (hres : fn.resultTypes = #[tb]) (htb : C.prog.underlying tb = some .bool)
    (hvars : s.vars = []) (hspec : ∀ ds : List (DataW H), ds.length = n → s.fn H ds = { results := [.lit (.bool true)], args := ds })
    (contract : ∀ (W : World) (args : Array Value) (xs : List D), AllRead W C.prog fn.params.toList args.toList xs → D.bulkAll xs ≤ 1048576 → Calls C.prog f args W fun e W' => e = .returned (.bool true) ∧ Below W.heap.size W W') :
    ReturnsInHanded {} C os f .any ((OpenSpec.upto s).pre6 enc C.prog fn [] false) (((OpenSpec.upto s).at F).post enc C.prog fn false true false false) := by
  refine returnsInHanded_of_cond (s := OpenSpec.upto s) (k := uptoSmall) rfl own started noInit hfn witness ?_
  intro W base args ds gs before hval hW _ hsm _
  have hW' := hW
  have hv0 : (OpenSpec.upto s).vars = [] := hvars
  obtain ⟨p, q, hA, hV, rfl, hfz, hnd⟩ := hW
  rw [hv0] at hV
  have hg : gs = [] ∧ q = [] := by
    cases gs with
    | nil => exact ⟨rfl, hV⟩
    | cons _ _ => exact hV.elim
  obtain ⟨rfl, rfl⟩ := hg
  have hlt : ∀ x ∈ p ++ [], x.block < W.heap.size := fun x hx => hW'.lt x hx
  have hlen : ds.length = n := (trodAll_len _ _ _ _ hA).trans hn
  have hall : ∀ t ∈ fn.params.toList, t ∈ L ∧ C.prog.readableRec t = true ∧ t < C.prog.types.size := fun t ht => by
    have := List.all_eq_true.1 hin t ht
    simpa [and_assoc] using this
  obtain ⟨xs, hxs, hbk⟩ := all_small hL fn.params.toList args.toList ds p (fun t ht => (hall t ht).1) (fun j t v h1 h2 => hval j t v (by simpa using h1) (by simpa using h2)) hA
  have hsm' : uptoBulkAll ds ≤ 1048576 := by
    have := of_decide_eq_true hsm
    rwa [List.append_nil] at this
  refine (contract W args xs hxs (Nat.le_trans hbk hsm')).mono fun e W' ⟨he, hb⟩ => ⟨_, he, ?_⟩
  have hsp : s.fn H (ds ++ []) = { results := [.lit (.bool true)], args := ds } := by rw [List.append_nil]; exact hspec ds hlen
  have hsp' : ((OpenSpec.upto s).at F).fn H (ds ++ []) = { results := [.lit (.bool true)], args := ds } := hsp
  refine ⟨ds, [], p ++ [], [], p, [], hW', ?_, ?_, ?_, hb.frame _, fun h => by cases h⟩
  · rw [hsp', hres]
    exact trodAll_mk1 (shut_bool htb true)
  · rw [hsp']
    have := trodAll_below (P := C.prog) laid hb fn.params.toList args.toList ds p (fun t ht => (hall t ht).2) (fun x hx => hlt x (by simp [hx])) hA
    exact this
  · have hv1 : ((OpenSpec.upto s).at F).vars = [] := hvars
    rw [hv1]
    exact (show DataW.TrodVars enc C.prog W' _ [] (((OpenSpec.upto s).at F).fn H (ds ++ [])).vars [] from by rw [hsp']; exact rfl)
end Go.Proofs.Ytedbjkjncfinnab
