/-
  NARROWER THAN 'FOR EVERY INPUT', by the rows' own cells (each row's printed sentence says how): ExprBack: loops · ExprHolds: loops · LtlParses: loops · LtlTells: loops · LtlBack: loops · LtlTwice: loops · LtlAtoms: loops.
  DERIVED. THE GIVEN ROWS OF THIS SEAT. 11 by the template 'for every input the law returns true; each argument reads behind the call as it read before'; 0 by the template 'total and deterministic' (their statements: YtlmhajfbpplpoaaGreatTotals.lean).
  GIVEN WITH THE SEED: the statements are not yours to turn. If you find one false, say at which input.
  Laid BY PROGRAM, IN A SANDBOX (cutbox-rows.mjs): the forced cells as the released guide's own fill.sh prints them over the translation 4e4b436034b41a5f… (all of the seat's roots in one cut). By AI agents, Wed Nov 11 2026. No macro, syntax, notation, axiom, sorry.
-/
import Derived.Test.YtlmhajfbpplpoaaGreatChecked
import GoSem.Claim
import GoSem.ClaimJoined
import GoSem.ClaimMapViews
import Derived.JoinedTies
import Derived.KernelRfl
namespace Go.Proofs.YtlmhajfbpplpoaaGreat
/- THE CELL 'sum', in the pinned program and in every row, IS THE sha256 OF THE DUMP (.gsa) THAT YtlmhajfbpplpoaaGreatProg.lean LOADS. Nothing in Lean hashes anything: it is a label: what it is worth is what the hold of that sum in a sandbox is worth. -/
noncomputable def Tryz.pinned : Pinned := { name := "ytlmhajfbpplpoaagreat", sum := "4e4b436034b41a5fecf83547ea4a7ff168f52b91ca282781e8f1e0113091b91a", checked := Tryz.checked }
namespace Rows
def none {H : Type} : Left H := { results := [], args := [] }

/-- 'plumblinelaw11.ExprParses': WHATEVER THE INPUT: true; the input reads as it did. -/
def exprParsesSpec : ChangeSpec := { name := "exprParses", fn := fun _ => fun
  | [d] => { results := [.lit (.bool true)], args := [d] }
  | _ => none }
def exprParsesRow : OpenClaim := { program := "ytlmhajfbpplpoaagreat", sum := "4e4b436034b41a5fecf83547ea4a7ff168f52b91ca282781e8f1e0113091b91a", func := "plumbline/plumblinelaw11.ExprParses", spec := "exprParses", inPlace := ["internal/bytealg.IndexByteString", "internal/abi.NoEscape"], unfollowed := true, recurses := true, apart := false }
def ExprParsesSaid : Prop := exprParsesRow.holds Tryz.pinned (OpenSpec.ofChange exprParsesSpec)

/-- ITS FALSE NEIGHBOUR: 'it returns false'. Refute it at one input. -/
def exprParsesWrong : ChangeSpec := { name := "exprParses", fn := fun _ => fun
  | [d] => { results := [.lit (.bool false)], args := [d] }
  | _ => none }
def ExprParsesWrongFalsely : Prop := exprParsesRow.holds Tryz.pinned (OpenSpec.ofChange exprParsesWrong)

/-- 'plumblinelaw11.ExprBack': WHATEVER THE INPUT: true; the input reads as it did. -/
def exprBackSpec : ChangeSpec := { name := "exprBack", fn := fun _ => fun
  | [d1, d2] => { results := [.lit (.bool true)], args := [d1, d2] }
  | _ => none }
def exprBackRow : OpenClaim := { program := "ytlmhajfbpplpoaagreat", sum := "4e4b436034b41a5fecf83547ea4a7ff168f52b91ca282781e8f1e0113091b91a", func := "plumbline/plumblinelaw11.ExprBack", spec := "exprBack", inPlace := ["internal/bytealg.IndexByteString", "internal/abi.NoEscape"], unfollowed := true, recurses := true, loops := true, apart := false }
def ExprBackSaid : Prop := exprBackRow.holds Tryz.pinned (OpenSpec.ofChange exprBackSpec)

/-- ITS FALSE NEIGHBOUR: 'it returns false'. Refute it at one input. -/
def exprBackWrong : ChangeSpec := { name := "exprBack", fn := fun _ => fun
  | [d1, d2] => { results := [.lit (.bool false)], args := [d1, d2] }
  | _ => none }
def ExprBackWrongFalsely : Prop := exprBackRow.holds Tryz.pinned (OpenSpec.ofChange exprBackWrong)

/-- 'plumblinelaw11.ExprTwice': WHATEVER THE INPUT: true; the input reads as it did. -/
def exprTwiceSpec : ChangeSpec := { name := "exprTwice", fn := fun _ => fun
  | [d] => { results := [.lit (.bool true)], args := [d] }
  | _ => none }
def exprTwiceRow : OpenClaim := { program := "ytlmhajfbpplpoaagreat", sum := "4e4b436034b41a5fecf83547ea4a7ff168f52b91ca282781e8f1e0113091b91a", func := "plumbline/plumblinelaw11.ExprTwice", spec := "exprTwice", inPlace := ["internal/bytealg.IndexByteString", "internal/abi.NoEscape"], unfollowed := true, recurses := true, apart := false }
def ExprTwiceSaid : Prop := exprTwiceRow.holds Tryz.pinned (OpenSpec.ofChange exprTwiceSpec)

/-- ITS FALSE NEIGHBOUR: 'it returns false'. Refute it at one input. -/
def exprTwiceWrong : ChangeSpec := { name := "exprTwice", fn := fun _ => fun
  | [d] => { results := [.lit (.bool false)], args := [d] }
  | _ => none }
def ExprTwiceWrongFalsely : Prop := exprTwiceRow.holds Tryz.pinned (OpenSpec.ofChange exprTwiceWrong)

/-- 'plumblinelaw11.ExprHolds': WHATEVER THE INPUT: true; the input reads as it did. -/
def exprHoldsSpec : ChangeSpec := { name := "exprHolds", fn := fun _ => fun
  | [d1, d2, d3] => { results := [.lit (.bool true)], args := [d1, d2, d3] }
  | _ => none }
def exprHoldsRow : OpenClaim := { program := "ytlmhajfbpplpoaagreat", sum := "4e4b436034b41a5fecf83547ea4a7ff168f52b91ca282781e8f1e0113091b91a", func := "plumbline/plumblinelaw11.ExprHolds", spec := "exprHolds", inPlace := ["internal/bytealg.IndexByteString", "internal/abi.NoEscape"], unfollowed := true, recurses := true, loops := true, apart := false }
def ExprHoldsSaid : Prop := exprHoldsRow.holds Tryz.pinned (OpenSpec.ofChange exprHoldsSpec)

/-- ITS FALSE NEIGHBOUR: 'it returns false'. Refute it at one input. -/
def exprHoldsWrong : ChangeSpec := { name := "exprHolds", fn := fun _ => fun
  | [d1, d2, d3] => { results := [.lit (.bool false)], args := [d1, d2, d3] }
  | _ => none }
def ExprHoldsWrongFalsely : Prop := exprHoldsRow.holds Tryz.pinned (OpenSpec.ofChange exprHoldsWrong)

/-- 'plumblinelaw11.ExprDeep': WHATEVER THE INPUT: true; the input reads as it did. -/
def exprDeepSpec : ChangeSpec := { name := "exprDeep", fn := fun _ => fun
  | [d1, d2] => { results := [.lit (.bool true)], args := [d1, d2] }
  | _ => none }
def exprDeepRow : OpenClaim := { program := "ytlmhajfbpplpoaagreat", sum := "4e4b436034b41a5fecf83547ea4a7ff168f52b91ca282781e8f1e0113091b91a", func := "plumbline/plumblinelaw11.ExprDeep", spec := "exprDeep", inPlace := ["internal/bytealg.IndexByteString", "internal/abi.NoEscape"], unfollowed := true, recurses := true, apart := false }
def ExprDeepSaid : Prop := exprDeepRow.holds Tryz.pinned (OpenSpec.ofChange exprDeepSpec)

/-- ITS FALSE NEIGHBOUR: 'it returns false'. Refute it at one input. -/
def exprDeepWrong : ChangeSpec := { name := "exprDeep", fn := fun _ => fun
  | [d1, d2] => { results := [.lit (.bool false)], args := [d1, d2] }
  | _ => none }
def ExprDeepWrongFalsely : Prop := exprDeepRow.holds Tryz.pinned (OpenSpec.ofChange exprDeepWrong)

/-- 'plumblinelaw14.LtlParses': WHATEVER THE INPUT: true; the input reads as it did. -/
def ltlParsesSpec : ChangeSpec := { name := "ltlParses", fn := fun _ => fun
  | [d1, d2] => { results := [.lit (.bool true)], args := [d1, d2] }
  | _ => none }
def ltlParsesRow : OpenClaim := { program := "ytlmhajfbpplpoaagreat", sum := "4e4b436034b41a5fecf83547ea4a7ff168f52b91ca282781e8f1e0113091b91a", func := "plumbline/plumblinelaw14.LtlParses", spec := "ltlParses", inPlace := ["internal/bytealg.IndexByteString", "internal/abi.NoEscape"], unfollowed := true, recurses := true, loops := true, apart := false }
def LtlParsesSaid : Prop := ltlParsesRow.holds Tryz.pinned (OpenSpec.ofChange ltlParsesSpec)

/-- ITS FALSE NEIGHBOUR: 'it returns false'. Refute it at one input. -/
def ltlParsesWrong : ChangeSpec := { name := "ltlParses", fn := fun _ => fun
  | [d1, d2] => { results := [.lit (.bool false)], args := [d1, d2] }
  | _ => none }
def LtlParsesWrongFalsely : Prop := ltlParsesRow.holds Tryz.pinned (OpenSpec.ofChange ltlParsesWrong)

/-- 'plumblinelaw14.LtlTells': WHATEVER THE INPUT: true; the input reads as it did. -/
def ltlTellsSpec : ChangeSpec := { name := "ltlTells", fn := fun _ => fun
  | [d1, d2] => { results := [.lit (.bool true)], args := [d1, d2] }
  | _ => none }
def ltlTellsRow : OpenClaim := { program := "ytlmhajfbpplpoaagreat", sum := "4e4b436034b41a5fecf83547ea4a7ff168f52b91ca282781e8f1e0113091b91a", func := "plumbline/plumblinelaw14.LtlTells", spec := "ltlTells", inPlace := ["internal/bytealg.IndexByteString", "internal/abi.NoEscape"], unfollowed := true, recurses := true, loops := true, apart := false }
def LtlTellsSaid : Prop := ltlTellsRow.holds Tryz.pinned (OpenSpec.ofChange ltlTellsSpec)

/-- ITS FALSE NEIGHBOUR: 'it returns false'. Refute it at one input. -/
def ltlTellsWrong : ChangeSpec := { name := "ltlTells", fn := fun _ => fun
  | [d1, d2] => { results := [.lit (.bool false)], args := [d1, d2] }
  | _ => none }
def LtlTellsWrongFalsely : Prop := ltlTellsRow.holds Tryz.pinned (OpenSpec.ofChange ltlTellsWrong)

/-- 'plumblinelaw14.LtlBack': WHATEVER THE INPUT: true; the input reads as it did. -/
def ltlBackSpec : ChangeSpec := { name := "ltlBack", fn := fun _ => fun
  | [d1, d2] => { results := [.lit (.bool true)], args := [d1, d2] }
  | _ => none }
def ltlBackRow : OpenClaim := { program := "ytlmhajfbpplpoaagreat", sum := "4e4b436034b41a5fecf83547ea4a7ff168f52b91ca282781e8f1e0113091b91a", func := "plumbline/plumblinelaw14.LtlBack", spec := "ltlBack", inPlace := ["internal/bytealg.IndexByteString", "internal/abi.NoEscape"], unfollowed := true, recurses := true, loops := true, apart := false }
def LtlBackSaid : Prop := ltlBackRow.holds Tryz.pinned (OpenSpec.ofChange ltlBackSpec)

/-- ITS FALSE NEIGHBOUR: 'it returns false'. Refute it at one input. -/
def ltlBackWrong : ChangeSpec := { name := "ltlBack", fn := fun _ => fun
  | [d1, d2] => { results := [.lit (.bool false)], args := [d1, d2] }
  | _ => none }
def LtlBackWrongFalsely : Prop := ltlBackRow.holds Tryz.pinned (OpenSpec.ofChange ltlBackWrong)

/-- 'plumblinelaw14.LtlTwice': WHATEVER THE INPUT: true; the input reads as it did. -/
def ltlTwiceSpec : ChangeSpec := { name := "ltlTwice", fn := fun _ => fun
  | [d1, d2] => { results := [.lit (.bool true)], args := [d1, d2] }
  | _ => none }
def ltlTwiceRow : OpenClaim := { program := "ytlmhajfbpplpoaagreat", sum := "4e4b436034b41a5fecf83547ea4a7ff168f52b91ca282781e8f1e0113091b91a", func := "plumbline/plumblinelaw14.LtlTwice", spec := "ltlTwice", inPlace := ["internal/bytealg.IndexByteString", "internal/abi.NoEscape"], unfollowed := true, recurses := true, loops := true, apart := false }
def LtlTwiceSaid : Prop := ltlTwiceRow.holds Tryz.pinned (OpenSpec.ofChange ltlTwiceSpec)

/-- ITS FALSE NEIGHBOUR: 'it returns false'. Refute it at one input. -/
def ltlTwiceWrong : ChangeSpec := { name := "ltlTwice", fn := fun _ => fun
  | [d1, d2] => { results := [.lit (.bool false)], args := [d1, d2] }
  | _ => none }
def LtlTwiceWrongFalsely : Prop := ltlTwiceRow.holds Tryz.pinned (OpenSpec.ofChange ltlTwiceWrong)

/-- 'plumblinelaw14.LtlAtoms': WHATEVER THE INPUT: true; the input reads as it did. -/
def ltlAtomsSpec : ChangeSpec := { name := "ltlAtoms", fn := fun _ => fun
  | [d1, d2] => { results := [.lit (.bool true)], args := [d1, d2] }
  | _ => none }
def ltlAtomsRow : OpenClaim := { program := "ytlmhajfbpplpoaagreat", sum := "4e4b436034b41a5fecf83547ea4a7ff168f52b91ca282781e8f1e0113091b91a", func := "plumbline/plumblinelaw14.LtlAtoms", spec := "ltlAtoms", inPlace := ["internal/bytealg.IndexByteString", "internal/abi.NoEscape"], unfollowed := true, recurses := true, loops := true, apart := false }
def LtlAtomsSaid : Prop := ltlAtomsRow.holds Tryz.pinned (OpenSpec.ofChange ltlAtomsSpec)

/-- ITS FALSE NEIGHBOUR: 'it returns false'. Refute it at one input. -/
def ltlAtomsWrong : ChangeSpec := { name := "ltlAtoms", fn := fun _ => fun
  | [d1, d2] => { results := [.lit (.bool false)], args := [d1, d2] }
  | _ => none }
def LtlAtomsWrongFalsely : Prop := ltlAtomsRow.holds Tryz.pinned (OpenSpec.ofChange ltlAtomsWrong)

/-- 'plumblinelaw14.LtlDeep': WHATEVER THE INPUT: true; the input reads as it did. -/
def ltlDeepSpec : ChangeSpec := { name := "ltlDeep", fn := fun _ => fun
  | [d1, d2] => { results := [.lit (.bool true)], args := [d1, d2] }
  | _ => none }
def ltlDeepRow : OpenClaim := { program := "ytlmhajfbpplpoaagreat", sum := "4e4b436034b41a5fecf83547ea4a7ff168f52b91ca282781e8f1e0113091b91a", func := "plumbline/plumblinelaw14.LtlDeep", spec := "ltlDeep", inPlace := ["internal/bytealg.IndexByteString", "internal/abi.NoEscape"], unfollowed := true, recurses := true, apart := false }
def LtlDeepSaid : Prop := ltlDeepRow.holds Tryz.pinned (OpenSpec.ofChange ltlDeepSpec)

/-- ITS FALSE NEIGHBOUR: 'it returns false'. Refute it at one input. -/
def ltlDeepWrong : ChangeSpec := { name := "ltlDeep", fn := fun _ => fun
  | [d1, d2] => { results := [.lit (.bool false)], args := [d1, d2] }
  | _ => none }
def LtlDeepWrongFalsely : Prop := ltlDeepRow.holds Tryz.pinned (OpenSpec.ofChange ltlDeepWrong)

/- THE SECOND FORM. 'bulk': how many values and letters a reading holds, each counted each time it is reached (what is shared counts as often as it is met; a slice's spare places count too). A statement '..UptoSaid' is the law's where the arguments, and the package variables that the reading takes, are together of bulk at most 1048576: NARROWER than '..Said'. Prove '..Said' where nothing that the law and all that it calls make is longer than what came in: it says more and counts as full. Else prove '..UptoSaid'. A law counts once. -/
mutual
def uptoBulk {H : Type} : DataW H → Nat
  | .lit (.string bytes) => bytes.length + 1
  | .lit _ => 1
  | .nil => 1
  | .ptr d => uptoBulk d + 1
  | .slice elems spare => uptoBulkAll elems + uptoBulkAll spare + 1
  | .agg parts => uptoBulkAll parts + 1
  | .iface _ d => uptoBulk d + 1
  | .map entries => uptoBulkEntries entries + 1
  | .held _ => 1
def uptoBulkAll {H : Type} : List (DataW H) → Nat
  | [] => 0
  | d :: r => uptoBulk d + uptoBulkAll r
def uptoBulkEntries {H : Type} : List (Lit × DataW H) → Nat
  | [] => 0
  | x :: r => uptoBulkEntry x + uptoBulkEntries r
def uptoBulkEntry {H : Type} : Lit × DataW H → Nat
  | (.string bytes, d) => bytes.length + uptoBulk d + 1
  | (_, d) => uptoBulk d + 1
 end
def uptoSmall : (H : Type) → List (DataW H) → Bool := fun _ ds => decide (uptoBulkAll ds ≤ 1048576)
def OpenSpec.upto (s : _root_.Go.ChangeSpec) : _root_.Go.OpenSpec := { _root_.Go.OpenSpec.ofChange s with cond := some uptoSmall }

/-- 'plumblinelaw11.ExprParses', WHERE WHAT IT READS IS OF BULK AT MOST 1048576: true; the input reads as it did. -/
def exprParsesUptoRow : OpenClaim := { program := "ytlmhajfbpplpoaagreat", sum := "4e4b436034b41a5fecf83547ea4a7ff168f52b91ca282781e8f1e0113091b91a", func := "plumbline/plumblinelaw11.ExprParses", spec := "exprParses", inPlace := ["internal/bytealg.IndexByteString", "internal/abi.NoEscape"], unfollowed := true, recurses := true, apart := false, narrowed := true }
def ExprParsesUptoSaid : Prop := exprParsesUptoRow.holds Tryz.pinned (OpenSpec.upto exprParsesSpec)

/-- 'plumblinelaw11.ExprBack', WHERE WHAT IT READS IS OF BULK AT MOST 1048576: true; the input reads as it did. -/
def exprBackUptoRow : OpenClaim := { program := "ytlmhajfbpplpoaagreat", sum := "4e4b436034b41a5fecf83547ea4a7ff168f52b91ca282781e8f1e0113091b91a", func := "plumbline/plumblinelaw11.ExprBack", spec := "exprBack", inPlace := ["internal/bytealg.IndexByteString", "internal/abi.NoEscape"], unfollowed := true, recurses := true, loops := true, apart := false, narrowed := true }
def ExprBackUptoSaid : Prop := exprBackUptoRow.holds Tryz.pinned (OpenSpec.upto exprBackSpec)

/-- 'plumblinelaw11.ExprTwice', WHERE WHAT IT READS IS OF BULK AT MOST 1048576: true; the input reads as it did. -/
def exprTwiceUptoRow : OpenClaim := { program := "ytlmhajfbpplpoaagreat", sum := "4e4b436034b41a5fecf83547ea4a7ff168f52b91ca282781e8f1e0113091b91a", func := "plumbline/plumblinelaw11.ExprTwice", spec := "exprTwice", inPlace := ["internal/bytealg.IndexByteString", "internal/abi.NoEscape"], unfollowed := true, recurses := true, apart := false, narrowed := true }
def ExprTwiceUptoSaid : Prop := exprTwiceUptoRow.holds Tryz.pinned (OpenSpec.upto exprTwiceSpec)

/-- 'plumblinelaw11.ExprHolds', WHERE WHAT IT READS IS OF BULK AT MOST 1048576: true; the input reads as it did. -/
def exprHoldsUptoRow : OpenClaim := { program := "ytlmhajfbpplpoaagreat", sum := "4e4b436034b41a5fecf83547ea4a7ff168f52b91ca282781e8f1e0113091b91a", func := "plumbline/plumblinelaw11.ExprHolds", spec := "exprHolds", inPlace := ["internal/bytealg.IndexByteString", "internal/abi.NoEscape"], unfollowed := true, recurses := true, loops := true, apart := false, narrowed := true }
def ExprHoldsUptoSaid : Prop := exprHoldsUptoRow.holds Tryz.pinned (OpenSpec.upto exprHoldsSpec)

/-- 'plumblinelaw11.ExprDeep', WHERE WHAT IT READS IS OF BULK AT MOST 1048576: true; the input reads as it did. -/
def exprDeepUptoRow : OpenClaim := { program := "ytlmhajfbpplpoaagreat", sum := "4e4b436034b41a5fecf83547ea4a7ff168f52b91ca282781e8f1e0113091b91a", func := "plumbline/plumblinelaw11.ExprDeep", spec := "exprDeep", inPlace := ["internal/bytealg.IndexByteString", "internal/abi.NoEscape"], unfollowed := true, recurses := true, apart := false, narrowed := true }
def ExprDeepUptoSaid : Prop := exprDeepUptoRow.holds Tryz.pinned (OpenSpec.upto exprDeepSpec)

/-- 'plumblinelaw14.LtlParses', WHERE WHAT IT READS IS OF BULK AT MOST 1048576: true; the input reads as it did. -/
def ltlParsesUptoRow : OpenClaim := { program := "ytlmhajfbpplpoaagreat", sum := "4e4b436034b41a5fecf83547ea4a7ff168f52b91ca282781e8f1e0113091b91a", func := "plumbline/plumblinelaw14.LtlParses", spec := "ltlParses", inPlace := ["internal/bytealg.IndexByteString", "internal/abi.NoEscape"], unfollowed := true, recurses := true, loops := true, apart := false, narrowed := true }
def LtlParsesUptoSaid : Prop := ltlParsesUptoRow.holds Tryz.pinned (OpenSpec.upto ltlParsesSpec)

/-- 'plumblinelaw14.LtlTells', WHERE WHAT IT READS IS OF BULK AT MOST 1048576: true; the input reads as it did. -/
def ltlTellsUptoRow : OpenClaim := { program := "ytlmhajfbpplpoaagreat", sum := "4e4b436034b41a5fecf83547ea4a7ff168f52b91ca282781e8f1e0113091b91a", func := "plumbline/plumblinelaw14.LtlTells", spec := "ltlTells", inPlace := ["internal/bytealg.IndexByteString", "internal/abi.NoEscape"], unfollowed := true, recurses := true, loops := true, apart := false, narrowed := true }
def LtlTellsUptoSaid : Prop := ltlTellsUptoRow.holds Tryz.pinned (OpenSpec.upto ltlTellsSpec)

/-- 'plumblinelaw14.LtlBack', WHERE WHAT IT READS IS OF BULK AT MOST 1048576: true; the input reads as it did. -/
def ltlBackUptoRow : OpenClaim := { program := "ytlmhajfbpplpoaagreat", sum := "4e4b436034b41a5fecf83547ea4a7ff168f52b91ca282781e8f1e0113091b91a", func := "plumbline/plumblinelaw14.LtlBack", spec := "ltlBack", inPlace := ["internal/bytealg.IndexByteString", "internal/abi.NoEscape"], unfollowed := true, recurses := true, loops := true, apart := false, narrowed := true }
def LtlBackUptoSaid : Prop := ltlBackUptoRow.holds Tryz.pinned (OpenSpec.upto ltlBackSpec)

/-- 'plumblinelaw14.LtlTwice', WHERE WHAT IT READS IS OF BULK AT MOST 1048576: true; the input reads as it did. -/
def ltlTwiceUptoRow : OpenClaim := { program := "ytlmhajfbpplpoaagreat", sum := "4e4b436034b41a5fecf83547ea4a7ff168f52b91ca282781e8f1e0113091b91a", func := "plumbline/plumblinelaw14.LtlTwice", spec := "ltlTwice", inPlace := ["internal/bytealg.IndexByteString", "internal/abi.NoEscape"], unfollowed := true, recurses := true, loops := true, apart := false, narrowed := true }
def LtlTwiceUptoSaid : Prop := ltlTwiceUptoRow.holds Tryz.pinned (OpenSpec.upto ltlTwiceSpec)

/-- 'plumblinelaw14.LtlAtoms', WHERE WHAT IT READS IS OF BULK AT MOST 1048576: true; the input reads as it did. -/
def ltlAtomsUptoRow : OpenClaim := { program := "ytlmhajfbpplpoaagreat", sum := "4e4b436034b41a5fecf83547ea4a7ff168f52b91ca282781e8f1e0113091b91a", func := "plumbline/plumblinelaw14.LtlAtoms", spec := "ltlAtoms", inPlace := ["internal/bytealg.IndexByteString", "internal/abi.NoEscape"], unfollowed := true, recurses := true, loops := true, apart := false, narrowed := true }
def LtlAtomsUptoSaid : Prop := ltlAtomsUptoRow.holds Tryz.pinned (OpenSpec.upto ltlAtomsSpec)

/-- 'plumblinelaw14.LtlDeep', WHERE WHAT IT READS IS OF BULK AT MOST 1048576: true; the input reads as it did. -/
def ltlDeepUptoRow : OpenClaim := { program := "ytlmhajfbpplpoaagreat", sum := "4e4b436034b41a5fecf83547ea4a7ff168f52b91ca282781e8f1e0113091b91a", func := "plumbline/plumblinelaw14.LtlDeep", spec := "ltlDeep", inPlace := ["internal/bytealg.IndexByteString", "internal/abi.NoEscape"], unfollowed := true, recurses := true, apart := false, narrowed := true }
def LtlDeepUptoSaid : Prop := ltlDeepUptoRow.holds Tryz.pinned (OpenSpec.upto ltlDeepSpec)

end Rows
end Go.Proofs.YtlmhajfbpplpoaaGreat
