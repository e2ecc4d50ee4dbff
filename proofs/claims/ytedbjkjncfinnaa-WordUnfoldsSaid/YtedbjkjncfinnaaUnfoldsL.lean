/-
  Layer 15's law WordUnfolds: returns true.
-/
import Derived.Test.YtedbjkjncfinnaaUnfolds00
import Derived.Test.YtedbjkjncfinnaaUnfolds01
import Derived.Test.YtedbjkjncfinnaaUnfolds10
import Derived.Test.YtedbjkjncfinnaaUnfolds11
namespace Go.Proofs.Ytedbjkjncfinnaa
open Go.RowKit
theorem wordUnfolds_any (f1 f2 : Ltl) (x : Wd) (kf pf : Int) (Kf : Option Addr) (nf ef : Nat) (kg pg : Int) (Kg : Option Addr) (ng eg : Nat) (A B : Option Addr) (c d : Nat) (i : Int) (w : World) (hbig : x.size ≤ 9223372036854775807) (hi : i ≤ 9223372036854775807)
    (hf1 : Ltl.Is w (Lt w.heap.size) f1 [.int .i64 kf, .int .i64 pf, .slice Kf nf ef]) (hf2 : Ltl.Is w (Lt w.heap.size) f2 [.int .i64 kg, .int .i64 pg, .slice Kg ng eg])
    (hw : WdIs w (Lt w.heap.size) x (.slice A x.stem.length c) (.slice B x.cycle.length d)) :
    Calls Try.prog 6 #[.agg #[.int .i64 kf, .int .i64 pf, .slice Kf nf ef], .agg #[.int .i64 kg, .int .i64 pg, .slice Kg ng eg], .agg #[.slice A x.stem.length c, .slice B x.cycle.length d], .int .i64 i] w fun e w' => e = .returned (.bool true) ∧ Below w.heap.size w w' := by
  rcases ha : f1.norm.sat x (posOf i) <;> rcases hb : f2.norm.sat x (posOf i)
  · exact wordUnfolds_00 f1 f2 x kf pf Kf nf ef kg pg Kg ng eg A B c d i w ha hb hbig hi hf1 hf2 hw
  · exact wordUnfolds_01 f1 f2 x kf pf Kf nf ef kg pg Kg ng eg A B c d i w ha hb hbig hi hf1 hf2 hw
  · exact wordUnfolds_10 f1 f2 x kf pf Kf nf ef kg pg Kg ng eg A B c d i w ha hb hbig hi hf1 hf2 hw
  · exact wordUnfolds_11 f1 f2 x kf pf Kf nf ef kg pg Kg ng eg A B c d i w ha hb hbig hi hf1 hf2 hw
end Go.Proofs.Ytedbjkjncfinnaa
