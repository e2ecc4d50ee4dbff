/-
  NARROWER THAN 'FOR EVERY INPUT', by the rows' own cells (each row's printed sentence says how): RelTights: laid · RelHolds: laid · RelDenies: laid · RelKeeps: laid · RelOnce: laid · LogicHolds: loops, laid · LogicFlats: loops, laid · LogicPuts: loops, laid · LogicCubes: loops, laid · LogicKeeps: loops, laid · LogicPutKeeps: loops, laid · LogicCompares: laid.
  DERIVED. THE GIVEN ROWS OF THIS SEAT. 12 by the template 'for every input the law returns true; each argument reads behind the call as it read before'; 0 by the template 'total and deterministic' (their statements: YtpncilciembjdaaGreatDoorTotals.lean).
  GIVEN WITH THE SEED: the statements are not yours to turn. If you find one false, say at which input.
  Laid BY PROGRAM, IN A SANDBOX (cutbox-rows.mjs): the forced cells as the released guide's own fill.sh prints them over the translation 1449c61593c6935e… (all of the seat's roots in one cut). By AI agents, Wed Nov 11 2026. No macro, syntax, notation, axiom, sorry.
-/
import Derived.Test.YtpncilciembjdaaGreatDoorChecked
import GoSem.Claim
import GoSem.ClaimJoined
import GoSem.ClaimMapViews
import Derived.JoinedTies
import Derived.KernelRfl
namespace Go.Proofs.YtpncilciembjdaaGreatDoor
/- THE CELL 'sum', in the pinned program and in every row, IS THE sha256 OF THE DUMP (.gsa) THAT YtpncilciembjdaaGreatDoorProg.lean LOADS. Nothing in Lean hashes anything: it is a label: what it is worth is what the hold of that sum in a sandbox is worth. -/
noncomputable def Tryz.pinned : Pinned := { name := "ytpncilciembjdaagreatdoor", sum := "1449c61593c6935e428ff92f3d9fc3b724d34cf217014a108317deb1da70b24a", checked := Tryz.checked }
namespace Rows
def none {H : Type} : Left H := { results := [], args := [] }

/- WHAT THE LISTED PACKAGE-LEVEL VARIABLES READ AS WHEN THE CALL BEGINS. Each datum BY PROGRAM (the guide's laid-datum.mjs) off the statement by which the dump's own 'gosem.cut.vars' lays the variable. In a bare row this is a premise. The card (YtpncilciembjdaaGreatDoorCards.lean) ties it to the program's text. -/
def laid_math_bits_deBruijn32tab {H : Type} : DataW H := .agg [.lit (.int .u8 0), .lit (.int .u8 1), .lit (.int .u8 28), .lit (.int .u8 2), .lit (.int .u8 29), .lit (.int .u8 14), .lit (.int .u8 24), .lit (.int .u8 3), .lit (.int .u8 30), .lit (.int .u8 22), .lit (.int .u8 20), .lit (.int .u8 15), .lit (.int .u8 25), .lit (.int .u8 17), .lit (.int .u8 4), .lit (.int .u8 8), .lit (.int .u8 31), .lit (.int .u8 27), .lit (.int .u8 13), .lit (.int .u8 23), .lit (.int .u8 21), .lit (.int .u8 19), .lit (.int .u8 16), .lit (.int .u8 7), .lit (.int .u8 26), .lit (.int .u8 12), .lit (.int .u8 18), .lit (.int .u8 6), .lit (.int .u8 11), .lit (.int .u8 5), .lit (.int .u8 10), .lit (.int .u8 9)]
def laid_math_bits_deBruijn64tab {H : Type} : DataW H := .agg [.lit (.int .u8 0), .lit (.int .u8 1), .lit (.int .u8 56), .lit (.int .u8 2), .lit (.int .u8 57), .lit (.int .u8 49), .lit (.int .u8 28), .lit (.int .u8 3), .lit (.int .u8 61), .lit (.int .u8 58), .lit (.int .u8 42), .lit (.int .u8 50), .lit (.int .u8 38), .lit (.int .u8 29), .lit (.int .u8 17), .lit (.int .u8 4), .lit (.int .u8 62), .lit (.int .u8 47), .lit (.int .u8 59), .lit (.int .u8 36), .lit (.int .u8 45), .lit (.int .u8 43), .lit (.int .u8 51), .lit (.int .u8 22), .lit (.int .u8 53), .lit (.int .u8 39), .lit (.int .u8 33), .lit (.int .u8 30), .lit (.int .u8 24), .lit (.int .u8 18), .lit (.int .u8 12), .lit (.int .u8 5), .lit (.int .u8 63), .lit (.int .u8 55), .lit (.int .u8 48), .lit (.int .u8 27), .lit (.int .u8 60), .lit (.int .u8 41), .lit (.int .u8 37), .lit (.int .u8 16), .lit (.int .u8 46), .lit (.int .u8 35), .lit (.int .u8 44), .lit (.int .u8 21), .lit (.int .u8 52), .lit (.int .u8 32), .lit (.int .u8 23), .lit (.int .u8 11), .lit (.int .u8 54), .lit (.int .u8 26), .lit (.int .u8 40), .lit (.int .u8 15), .lit (.int .u8 34), .lit (.int .u8 20), .lit (.int .u8 31), .lit (.int .u8 10), .lit (.int .u8 25), .lit (.int .u8 14), .lit (.int .u8 19), .lit (.int .u8 9), .lit (.int .u8 13), .lit (.int .u8 8), .lit (.int .u8 7), .lit (.int .u8 6)]
def laid_internal_strconv_uint64pow10 {H : Type} : DataW H := .agg [.lit (.int .u64 1), .lit (.int .u64 10), .lit (.int .u64 100), .lit (.int .u64 1000), .lit (.int .u64 10000), .lit (.int .u64 100000), .lit (.int .u64 1000000), .lit (.int .u64 10000000), .lit (.int .u64 100000000), .lit (.int .u64 1000000000), .lit (.int .u64 10000000000), .lit (.int .u64 100000000000), .lit (.int .u64 1000000000000), .lit (.int .u64 10000000000000), .lit (.int .u64 100000000000000), .lit (.int .u64 1000000000000000), .lit (.int .u64 10000000000000000), .lit (.int .u64 100000000000000000), .lit (.int .u64 1000000000000000000), .lit (.int .u64 10000000000000000000)]

/-- 'plumblinelaw04.RelTights': WHATEVER THE INPUT: true; the input reads as it did. -/
def relTightsSpec : ChangeSpec := { name := "relTights", fn := fun _ => fun
  | [d1, d2] => { results := [.lit (.bool true)], args := [d1, d2] }
  | _ => none }
def relTightsRow : OpenClaim := { program := "ytpncilciembjdaagreatdoor", sum := "1449c61593c6935e428ff92f3d9fc3b724d34cf217014a108317deb1da70b24a", func := "plumbline/plumblinelaw04.RelTights", spec := "relTights", inPlace := ["internal/abi.NoEscape"], unfollowed := true, recurses := true, named := ["internal/strconv.uint64pow10", "math/bits.deBruijn32tab", "math/bits.deBruijn64tab"], apart := false, laid := [("math/bits.deBruijn32tab", laid_math_bits_deBruijn32tab), ("math/bits.deBruijn64tab", laid_math_bits_deBruijn64tab), ("internal/strconv.uint64pow10", laid_internal_strconv_uint64pow10)] }
def RelTightsSaid : Prop := relTightsRow.holds Tryz.pinned (OpenSpec.ofChange relTightsSpec)

/-- ITS FALSE NEIGHBOUR: 'it returns false'. Refute it at one input. -/
def relTightsWrong : ChangeSpec := { name := "relTights", fn := fun _ => fun
  | [d1, d2] => { results := [.lit (.bool false)], args := [d1, d2] }
  | _ => none }
def RelTightsWrongFalsely : Prop := relTightsRow.holds Tryz.pinned (OpenSpec.ofChange relTightsWrong)

/-- 'plumblinelaw04.RelHolds': WHATEVER THE INPUT: true; the input reads as it did. -/
def relHoldsSpec : ChangeSpec := { name := "relHolds", fn := fun _ => fun
  | [d1, d2] => { results := [.lit (.bool true)], args := [d1, d2] }
  | _ => none }
def relHoldsRow : OpenClaim := { program := "ytpncilciembjdaagreatdoor", sum := "1449c61593c6935e428ff92f3d9fc3b724d34cf217014a108317deb1da70b24a", func := "plumbline/plumblinelaw04.RelHolds", spec := "relHolds", inPlace := ["internal/abi.NoEscape"], unfollowed := true, recurses := true, named := ["internal/strconv.uint64pow10", "math/bits.deBruijn32tab", "math/bits.deBruijn64tab"], apart := false, laid := [("math/bits.deBruijn32tab", laid_math_bits_deBruijn32tab), ("math/bits.deBruijn64tab", laid_math_bits_deBruijn64tab), ("internal/strconv.uint64pow10", laid_internal_strconv_uint64pow10)] }
def RelHoldsSaid : Prop := relHoldsRow.holds Tryz.pinned (OpenSpec.ofChange relHoldsSpec)

/-- ITS FALSE NEIGHBOUR: 'it returns false'. Refute it at one input. -/
def relHoldsWrong : ChangeSpec := { name := "relHolds", fn := fun _ => fun
  | [d1, d2] => { results := [.lit (.bool false)], args := [d1, d2] }
  | _ => none }
def RelHoldsWrongFalsely : Prop := relHoldsRow.holds Tryz.pinned (OpenSpec.ofChange relHoldsWrong)

/-- 'plumblinelaw04.RelDenies': WHATEVER THE INPUT: true; the input reads as it did. -/
def relDeniesSpec : ChangeSpec := { name := "relDenies", fn := fun _ => fun
  | [d1, d2] => { results := [.lit (.bool true)], args := [d1, d2] }
  | _ => none }
def relDeniesRow : OpenClaim := { program := "ytpncilciembjdaagreatdoor", sum := "1449c61593c6935e428ff92f3d9fc3b724d34cf217014a108317deb1da70b24a", func := "plumbline/plumblinelaw04.RelDenies", spec := "relDenies", inPlace := ["internal/abi.NoEscape"], unfollowed := true, recurses := true, named := ["internal/strconv.uint64pow10", "math/bits.deBruijn32tab", "math/bits.deBruijn64tab"], apart := false, laid := [("math/bits.deBruijn32tab", laid_math_bits_deBruijn32tab), ("math/bits.deBruijn64tab", laid_math_bits_deBruijn64tab), ("internal/strconv.uint64pow10", laid_internal_strconv_uint64pow10)] }
def RelDeniesSaid : Prop := relDeniesRow.holds Tryz.pinned (OpenSpec.ofChange relDeniesSpec)

/-- ITS FALSE NEIGHBOUR: 'it returns false'. Refute it at one input. -/
def relDeniesWrong : ChangeSpec := { name := "relDenies", fn := fun _ => fun
  | [d1, d2] => { results := [.lit (.bool false)], args := [d1, d2] }
  | _ => none }
def RelDeniesWrongFalsely : Prop := relDeniesRow.holds Tryz.pinned (OpenSpec.ofChange relDeniesWrong)

/-- 'plumblinelaw04.RelKeeps': WHATEVER THE INPUT: true; the input reads as it did. -/
def relKeepsSpec : ChangeSpec := { name := "relKeeps", fn := fun _ => fun
  | [d1, d2] => { results := [.lit (.bool true)], args := [d1, d2] }
  | _ => none }
def relKeepsRow : OpenClaim := { program := "ytpncilciembjdaagreatdoor", sum := "1449c61593c6935e428ff92f3d9fc3b724d34cf217014a108317deb1da70b24a", func := "plumbline/plumblinelaw04.RelKeeps", spec := "relKeeps", inPlace := ["internal/abi.NoEscape"], unfollowed := true, recurses := true, named := ["internal/strconv.uint64pow10", "math/bits.deBruijn32tab", "math/bits.deBruijn64tab"], apart := false, laid := [("math/bits.deBruijn32tab", laid_math_bits_deBruijn32tab), ("math/bits.deBruijn64tab", laid_math_bits_deBruijn64tab), ("internal/strconv.uint64pow10", laid_internal_strconv_uint64pow10)] }
def RelKeepsSaid : Prop := relKeepsRow.holds Tryz.pinned (OpenSpec.ofChange relKeepsSpec)

/-- ITS FALSE NEIGHBOUR: 'it returns false'. Refute it at one input. -/
def relKeepsWrong : ChangeSpec := { name := "relKeeps", fn := fun _ => fun
  | [d1, d2] => { results := [.lit (.bool false)], args := [d1, d2] }
  | _ => none }
def RelKeepsWrongFalsely : Prop := relKeepsRow.holds Tryz.pinned (OpenSpec.ofChange relKeepsWrong)

/-- 'plumblinelaw04.RelOnce': WHATEVER THE INPUT: true; the input reads as it did. -/
def relOnceSpec : ChangeSpec := { name := "relOnce", fn := fun _ => fun
  | [d1, d2] => { results := [.lit (.bool true)], args := [d1, d2] }
  | _ => none }
def relOnceRow : OpenClaim := { program := "ytpncilciembjdaagreatdoor", sum := "1449c61593c6935e428ff92f3d9fc3b724d34cf217014a108317deb1da70b24a", func := "plumbline/plumblinelaw04.RelOnce", spec := "relOnce", inPlace := ["internal/abi.NoEscape"], unfollowed := true, recurses := true, named := ["internal/strconv.uint64pow10", "math/bits.deBruijn32tab", "math/bits.deBruijn64tab"], apart := false, laid := [("math/bits.deBruijn32tab", laid_math_bits_deBruijn32tab), ("math/bits.deBruijn64tab", laid_math_bits_deBruijn64tab), ("internal/strconv.uint64pow10", laid_internal_strconv_uint64pow10)] }
def RelOnceSaid : Prop := relOnceRow.holds Tryz.pinned (OpenSpec.ofChange relOnceSpec)

/-- ITS FALSE NEIGHBOUR: 'it returns false'. Refute it at one input. -/
def relOnceWrong : ChangeSpec := { name := "relOnce", fn := fun _ => fun
  | [d1, d2] => { results := [.lit (.bool false)], args := [d1, d2] }
  | _ => none }
def RelOnceWrongFalsely : Prop := relOnceRow.holds Tryz.pinned (OpenSpec.ofChange relOnceWrong)

/-- 'plumblinelaw05.LogicHolds': WHATEVER THE INPUT: true; the input reads as it did. -/
def logicHoldsSpec : ChangeSpec := { name := "logicHolds", fn := fun _ => fun
  | [d1, d2] => { results := [.lit (.bool true)], args := [d1, d2] }
  | _ => none }
def logicHoldsRow : OpenClaim := { program := "ytpncilciembjdaagreatdoor", sum := "1449c61593c6935e428ff92f3d9fc3b724d34cf217014a108317deb1da70b24a", func := "plumbline/plumblinelaw05.LogicHolds", spec := "logicHolds", inPlace := ["internal/abi.NoEscape", "internal/bytealg.MakeNoZero"], unfollowed := true, recurses := true, named := ["internal/strconv.uint64pow10", "math/bits.deBruijn32tab", "math/bits.deBruijn64tab"], loops := true, apart := false, laid := [("math/bits.deBruijn32tab", laid_math_bits_deBruijn32tab), ("math/bits.deBruijn64tab", laid_math_bits_deBruijn64tab), ("internal/strconv.uint64pow10", laid_internal_strconv_uint64pow10)] }
def LogicHoldsSaid : Prop := logicHoldsRow.holds Tryz.pinned (OpenSpec.ofChange logicHoldsSpec)

/-- ITS FALSE NEIGHBOUR: 'it returns false'. Refute it at one input. -/
def logicHoldsWrong : ChangeSpec := { name := "logicHolds", fn := fun _ => fun
  | [d1, d2] => { results := [.lit (.bool false)], args := [d1, d2] }
  | _ => none }
def LogicHoldsWrongFalsely : Prop := logicHoldsRow.holds Tryz.pinned (OpenSpec.ofChange logicHoldsWrong)

/-- 'plumblinelaw05.LogicFlats': WHATEVER THE INPUT: true; the input reads as it did. -/
def logicFlatsSpec : ChangeSpec := { name := "logicFlats", fn := fun _ => fun
  | [d1, d2] => { results := [.lit (.bool true)], args := [d1, d2] }
  | _ => none }
def logicFlatsRow : OpenClaim := { program := "ytpncilciembjdaagreatdoor", sum := "1449c61593c6935e428ff92f3d9fc3b724d34cf217014a108317deb1da70b24a", func := "plumbline/plumblinelaw05.LogicFlats", spec := "logicFlats", inPlace := ["internal/abi.NoEscape", "internal/bytealg.MakeNoZero"], unfollowed := true, recurses := true, named := ["internal/strconv.uint64pow10", "math/bits.deBruijn32tab", "math/bits.deBruijn64tab"], loops := true, apart := false, laid := [("math/bits.deBruijn32tab", laid_math_bits_deBruijn32tab), ("math/bits.deBruijn64tab", laid_math_bits_deBruijn64tab), ("internal/strconv.uint64pow10", laid_internal_strconv_uint64pow10)] }
def LogicFlatsSaid : Prop := logicFlatsRow.holds Tryz.pinned (OpenSpec.ofChange logicFlatsSpec)

/-- ITS FALSE NEIGHBOUR: 'it returns false'. Refute it at one input. -/
def logicFlatsWrong : ChangeSpec := { name := "logicFlats", fn := fun _ => fun
  | [d1, d2] => { results := [.lit (.bool false)], args := [d1, d2] }
  | _ => none }
def LogicFlatsWrongFalsely : Prop := logicFlatsRow.holds Tryz.pinned (OpenSpec.ofChange logicFlatsWrong)

/-- 'plumblinelaw05.LogicPuts': WHATEVER THE INPUT: true; the input reads as it did. -/
def logicPutsSpec : ChangeSpec := { name := "logicPuts", fn := fun _ => fun
  | [d1, d2, d3, d4] => { results := [.lit (.bool true)], args := [d1, d2, d3, d4] }
  | _ => none }
def logicPutsRow : OpenClaim := { program := "ytpncilciembjdaagreatdoor", sum := "1449c61593c6935e428ff92f3d9fc3b724d34cf217014a108317deb1da70b24a", func := "plumbline/plumblinelaw05.LogicPuts", spec := "logicPuts", inPlace := ["internal/abi.NoEscape", "internal/bytealg.MakeNoZero"], unfollowed := true, recurses := true, named := ["internal/strconv.uint64pow10", "math/bits.deBruijn32tab", "math/bits.deBruijn64tab"], loops := true, apart := false, laid := [("math/bits.deBruijn32tab", laid_math_bits_deBruijn32tab), ("math/bits.deBruijn64tab", laid_math_bits_deBruijn64tab), ("internal/strconv.uint64pow10", laid_internal_strconv_uint64pow10)] }
def LogicPutsSaid : Prop := logicPutsRow.holds Tryz.pinned (OpenSpec.ofChange logicPutsSpec)

/-- ITS FALSE NEIGHBOUR: 'it returns false'. Refute it at one input. -/
def logicPutsWrong : ChangeSpec := { name := "logicPuts", fn := fun _ => fun
  | [d1, d2, d3, d4] => { results := [.lit (.bool false)], args := [d1, d2, d3, d4] }
  | _ => none }
def LogicPutsWrongFalsely : Prop := logicPutsRow.holds Tryz.pinned (OpenSpec.ofChange logicPutsWrong)

/-- 'plumblinelaw05.LogicCubes': WHATEVER THE INPUT: true; the input reads as it did. -/
def logicCubesSpec : ChangeSpec := { name := "logicCubes", fn := fun _ => fun
  | [d1, d2] => { results := [.lit (.bool true)], args := [d1, d2] }
  | _ => none }
def logicCubesRow : OpenClaim := { program := "ytpncilciembjdaagreatdoor", sum := "1449c61593c6935e428ff92f3d9fc3b724d34cf217014a108317deb1da70b24a", func := "plumbline/plumblinelaw05.LogicCubes", spec := "logicCubes", inPlace := ["internal/abi.NoEscape", "internal/bytealg.MakeNoZero"], unfollowed := true, recurses := true, named := ["internal/strconv.uint64pow10", "math/bits.deBruijn32tab", "math/bits.deBruijn64tab"], loops := true, apart := false, laid := [("math/bits.deBruijn32tab", laid_math_bits_deBruijn32tab), ("math/bits.deBruijn64tab", laid_math_bits_deBruijn64tab), ("internal/strconv.uint64pow10", laid_internal_strconv_uint64pow10)] }
def LogicCubesSaid : Prop := logicCubesRow.holds Tryz.pinned (OpenSpec.ofChange logicCubesSpec)

/-- ITS FALSE NEIGHBOUR: 'it returns false'. Refute it at one input. -/
def logicCubesWrong : ChangeSpec := { name := "logicCubes", fn := fun _ => fun
  | [d1, d2] => { results := [.lit (.bool false)], args := [d1, d2] }
  | _ => none }
def LogicCubesWrongFalsely : Prop := logicCubesRow.holds Tryz.pinned (OpenSpec.ofChange logicCubesWrong)

/-- 'plumblinelaw05.LogicKeeps': WHATEVER THE INPUT: true; the input reads as it did. -/
def logicKeepsSpec : ChangeSpec := { name := "logicKeeps", fn := fun _ => fun
  | [d1, d2] => { results := [.lit (.bool true)], args := [d1, d2] }
  | _ => none }
def logicKeepsRow : OpenClaim := { program := "ytpncilciembjdaagreatdoor", sum := "1449c61593c6935e428ff92f3d9fc3b724d34cf217014a108317deb1da70b24a", func := "plumbline/plumblinelaw05.LogicKeeps", spec := "logicKeeps", inPlace := ["internal/abi.NoEscape", "internal/bytealg.MakeNoZero"], unfollowed := true, recurses := true, named := ["internal/strconv.uint64pow10", "math/bits.deBruijn32tab", "math/bits.deBruijn64tab"], loops := true, apart := false, laid := [("math/bits.deBruijn32tab", laid_math_bits_deBruijn32tab), ("math/bits.deBruijn64tab", laid_math_bits_deBruijn64tab), ("internal/strconv.uint64pow10", laid_internal_strconv_uint64pow10)] }
def LogicKeepsSaid : Prop := logicKeepsRow.holds Tryz.pinned (OpenSpec.ofChange logicKeepsSpec)

/-- ITS FALSE NEIGHBOUR: 'it returns false'. Refute it at one input. -/
def logicKeepsWrong : ChangeSpec := { name := "logicKeeps", fn := fun _ => fun
  | [d1, d2] => { results := [.lit (.bool false)], args := [d1, d2] }
  | _ => none }
def LogicKeepsWrongFalsely : Prop := logicKeepsRow.holds Tryz.pinned (OpenSpec.ofChange logicKeepsWrong)

/-- 'plumblinelaw05.LogicPutKeeps': WHATEVER THE INPUT: true; the input reads as it did. -/
def logicPutKeepsSpec : ChangeSpec := { name := "logicPutKeeps", fn := fun _ => fun
  | [d1, d2, d3] => { results := [.lit (.bool true)], args := [d1, d2, d3] }
  | _ => none }
def logicPutKeepsRow : OpenClaim := { program := "ytpncilciembjdaagreatdoor", sum := "1449c61593c6935e428ff92f3d9fc3b724d34cf217014a108317deb1da70b24a", func := "plumbline/plumblinelaw05.LogicPutKeeps", spec := "logicPutKeeps", inPlace := ["internal/abi.NoEscape", "internal/bytealg.MakeNoZero"], unfollowed := true, recurses := true, named := ["internal/strconv.uint64pow10", "math/bits.deBruijn32tab", "math/bits.deBruijn64tab"], loops := true, apart := false, laid := [("math/bits.deBruijn32tab", laid_math_bits_deBruijn32tab), ("math/bits.deBruijn64tab", laid_math_bits_deBruijn64tab), ("internal/strconv.uint64pow10", laid_internal_strconv_uint64pow10)] }
def LogicPutKeepsSaid : Prop := logicPutKeepsRow.holds Tryz.pinned (OpenSpec.ofChange logicPutKeepsSpec)

/-- ITS FALSE NEIGHBOUR: 'it returns false'. Refute it at one input. -/
def logicPutKeepsWrong : ChangeSpec := { name := "logicPutKeeps", fn := fun _ => fun
  | [d1, d2, d3] => { results := [.lit (.bool false)], args := [d1, d2, d3] }
  | _ => none }
def LogicPutKeepsWrongFalsely : Prop := logicPutKeepsRow.holds Tryz.pinned (OpenSpec.ofChange logicPutKeepsWrong)

/-- 'plumblinelaw05.LogicCompares': WHATEVER THE INPUT: true; the input reads as it did. -/
def logicComparesSpec : ChangeSpec := { name := "logicCompares", fn := fun _ => fun
  | [d1, d2, d3] => { results := [.lit (.bool true)], args := [d1, d2, d3] }
  | _ => none }
def logicComparesRow : OpenClaim := { program := "ytpncilciembjdaagreatdoor", sum := "1449c61593c6935e428ff92f3d9fc3b724d34cf217014a108317deb1da70b24a", func := "plumbline/plumblinelaw05.LogicCompares", spec := "logicCompares", inPlace := ["internal/abi.NoEscape", "internal/bytealg.MakeNoZero"], unfollowed := true, recurses := true, named := ["internal/strconv.uint64pow10", "math/bits.deBruijn32tab", "math/bits.deBruijn64tab"], apart := false, laid := [("math/bits.deBruijn32tab", laid_math_bits_deBruijn32tab), ("math/bits.deBruijn64tab", laid_math_bits_deBruijn64tab), ("internal/strconv.uint64pow10", laid_internal_strconv_uint64pow10)] }
def LogicComparesSaid : Prop := logicComparesRow.holds Tryz.pinned (OpenSpec.ofChange logicComparesSpec)

/-- ITS FALSE NEIGHBOUR: 'it returns false'. Refute it at one input. -/
def logicComparesWrong : ChangeSpec := { name := "logicCompares", fn := fun _ => fun
  | [d1, d2, d3] => { results := [.lit (.bool false)], args := [d1, d2, d3] }
  | _ => none }
def LogicComparesWrongFalsely : Prop := logicComparesRow.holds Tryz.pinned (OpenSpec.ofChange logicComparesWrong)

/- THE SECOND FORM. 'bulk': how many values and letters a reading holds, each counted each time it is reached (what is shared counts as often as it is met; a slice's spare places count too). A statement '..UptoSaid' is the law's where the arguments, and the package variables that the reading takes, are together of bulk at most 1048576: NARROWER than '..Said'. Prove '..Said' where nothing that the law and all that it calls make is longer than what came in: it says more and counts as full. Else prove '..UptoSaid'. A law counts once. -/
mutual
def uptoBulk {H : Type} : DataW H → Nat
  | .lit (.string bytes) => bytes.length + 1
  | .lit _ => 1
  | .nil => 1
  | .ptr d => uptoBulk d + 1
  | .slice elems spare => uptoBulkAll elems + uptoBulkAll spare + 1
  | .agg parts => uptoBulkAll parts + 1
  | .iface _ d => uptoBulk d + 1
  | .map entries => uptoBulkEntries entries + 1
  | .held _ => 1
def uptoBulkAll {H : Type} : List (DataW H) → Nat
  | [] => 0
  | d :: r => uptoBulk d + uptoBulkAll r
def uptoBulkEntries {H : Type} : List (Lit × DataW H) → Nat
  | [] => 0
  | x :: r => uptoBulkEntry x + uptoBulkEntries r
def uptoBulkEntry {H : Type} : Lit × DataW H → Nat
  | (.string bytes, d) => bytes.length + uptoBulk d + 1
  | (_, d) => uptoBulk d + 1
 end
def uptoSmall : (H : Type) → List (DataW H) → Bool := fun _ ds => decide (uptoBulkAll ds ≤ 1048576)
def OpenSpec.upto (s : _root_.Go.ChangeSpec) : _root_.Go.OpenSpec := { _root_.Go.OpenSpec.ofChange s with cond := some uptoSmall }

/-- 'plumblinelaw04.RelTights', WHERE WHAT IT READS IS OF BULK AT MOST 1048576: true; the input reads as it did. -/
def relTightsUptoRow : OpenClaim := { program := "ytpncilciembjdaagreatdoor", sum := "1449c61593c6935e428ff92f3d9fc3b724d34cf217014a108317deb1da70b24a", func := "plumbline/plumblinelaw04.RelTights", spec := "relTights", inPlace := ["internal/abi.NoEscape"], unfollowed := true, recurses := true, named := ["internal/strconv.uint64pow10", "math/bits.deBruijn32tab", "math/bits.deBruijn64tab"], apart := false, laid := [("math/bits.deBruijn32tab", laid_math_bits_deBruijn32tab), ("math/bits.deBruijn64tab", laid_math_bits_deBruijn64tab), ("internal/strconv.uint64pow10", laid_internal_strconv_uint64pow10)], narrowed := true }
def RelTightsUptoSaid : Prop := relTightsUptoRow.holds Tryz.pinned (OpenSpec.upto relTightsSpec)

/-- 'plumblinelaw04.RelHolds', WHERE WHAT IT READS IS OF BULK AT MOST 1048576: true; the input reads as it did. -/
def relHoldsUptoRow : OpenClaim := { program := "ytpncilciembjdaagreatdoor", sum := "1449c61593c6935e428ff92f3d9fc3b724d34cf217014a108317deb1da70b24a", func := "plumbline/plumblinelaw04.RelHolds", spec := "relHolds", inPlace := ["internal/abi.NoEscape"], unfollowed := true, recurses := true, named := ["internal/strconv.uint64pow10", "math/bits.deBruijn32tab", "math/bits.deBruijn64tab"], apart := false, laid := [("math/bits.deBruijn32tab", laid_math_bits_deBruijn32tab), ("math/bits.deBruijn64tab", laid_math_bits_deBruijn64tab), ("internal/strconv.uint64pow10", laid_internal_strconv_uint64pow10)], narrowed := true }
def RelHoldsUptoSaid : Prop := relHoldsUptoRow.holds Tryz.pinned (OpenSpec.upto relHoldsSpec)

/-- 'plumblinelaw04.RelDenies', WHERE WHAT IT READS IS OF BULK AT MOST 1048576: true; the input reads as it did. -/
def relDeniesUptoRow : OpenClaim := { program := "ytpncilciembjdaagreatdoor", sum := "1449c61593c6935e428ff92f3d9fc3b724d34cf217014a108317deb1da70b24a", func := "plumbline/plumblinelaw04.RelDenies", spec := "relDenies", inPlace := ["internal/abi.NoEscape"], unfollowed := true, recurses := true, named := ["internal/strconv.uint64pow10", "math/bits.deBruijn32tab", "math/bits.deBruijn64tab"], apart := false, laid := [("math/bits.deBruijn32tab", laid_math_bits_deBruijn32tab), ("math/bits.deBruijn64tab", laid_math_bits_deBruijn64tab), ("internal/strconv.uint64pow10", laid_internal_strconv_uint64pow10)], narrowed := true }
def RelDeniesUptoSaid : Prop := relDeniesUptoRow.holds Tryz.pinned (OpenSpec.upto relDeniesSpec)

/-- 'plumblinelaw04.RelKeeps', WHERE WHAT IT READS IS OF BULK AT MOST 1048576: true; the input reads as it did. -/
def relKeepsUptoRow : OpenClaim := { program := "ytpncilciembjdaagreatdoor", sum := "1449c61593c6935e428ff92f3d9fc3b724d34cf217014a108317deb1da70b24a", func := "plumbline/plumblinelaw04.RelKeeps", spec := "relKeeps", inPlace := ["internal/abi.NoEscape"], unfollowed := true, recurses := true, named := ["internal/strconv.uint64pow10", "math/bits.deBruijn32tab", "math/bits.deBruijn64tab"], apart := false, laid := [("math/bits.deBruijn32tab", laid_math_bits_deBruijn32tab), ("math/bits.deBruijn64tab", laid_math_bits_deBruijn64tab), ("internal/strconv.uint64pow10", laid_internal_strconv_uint64pow10)], narrowed := true }
def RelKeepsUptoSaid : Prop := relKeepsUptoRow.holds Tryz.pinned (OpenSpec.upto relKeepsSpec)

/-- 'plumblinelaw04.RelOnce', WHERE WHAT IT READS IS OF BULK AT MOST 1048576: true; the input reads as it did. -/
def relOnceUptoRow : OpenClaim := { program := "ytpncilciembjdaagreatdoor", sum := "1449c61593c6935e428ff92f3d9fc3b724d34cf217014a108317deb1da70b24a", func := "plumbline/plumblinelaw04.RelOnce", spec := "relOnce", inPlace := ["internal/abi.NoEscape"], unfollowed := true, recurses := true, named := ["internal/strconv.uint64pow10", "math/bits.deBruijn32tab", "math/bits.deBruijn64tab"], apart := false, laid := [("math/bits.deBruijn32tab", laid_math_bits_deBruijn32tab), ("math/bits.deBruijn64tab", laid_math_bits_deBruijn64tab), ("internal/strconv.uint64pow10", laid_internal_strconv_uint64pow10)], narrowed := true }
def RelOnceUptoSaid : Prop := relOnceUptoRow.holds Tryz.pinned (OpenSpec.upto relOnceSpec)

/-- 'plumblinelaw05.LogicHolds', WHERE WHAT IT READS IS OF BULK AT MOST 1048576: true; the input reads as it did. -/
def logicHoldsUptoRow : OpenClaim := { program := "ytpncilciembjdaagreatdoor", sum := "1449c61593c6935e428ff92f3d9fc3b724d34cf217014a108317deb1da70b24a", func := "plumbline/plumblinelaw05.LogicHolds", spec := "logicHolds", inPlace := ["internal/abi.NoEscape", "internal/bytealg.MakeNoZero"], unfollowed := true, recurses := true, named := ["internal/strconv.uint64pow10", "math/bits.deBruijn32tab", "math/bits.deBruijn64tab"], loops := true, apart := false, laid := [("math/bits.deBruijn32tab", laid_math_bits_deBruijn32tab), ("math/bits.deBruijn64tab", laid_math_bits_deBruijn64tab), ("internal/strconv.uint64pow10", laid_internal_strconv_uint64pow10)], narrowed := true }
def LogicHoldsUptoSaid : Prop := logicHoldsUptoRow.holds Tryz.pinned (OpenSpec.upto logicHoldsSpec)

/-- 'plumblinelaw05.LogicFlats', WHERE WHAT IT READS IS OF BULK AT MOST 1048576: true; the input reads as it did. -/
def logicFlatsUptoRow : OpenClaim := { program := "ytpncilciembjdaagreatdoor", sum := "1449c61593c6935e428ff92f3d9fc3b724d34cf217014a108317deb1da70b24a", func := "plumbline/plumblinelaw05.LogicFlats", spec := "logicFlats", inPlace := ["internal/abi.NoEscape", "internal/bytealg.MakeNoZero"], unfollowed := true, recurses := true, named := ["internal/strconv.uint64pow10", "math/bits.deBruijn32tab", "math/bits.deBruijn64tab"], loops := true, apart := false, laid := [("math/bits.deBruijn32tab", laid_math_bits_deBruijn32tab), ("math/bits.deBruijn64tab", laid_math_bits_deBruijn64tab), ("internal/strconv.uint64pow10", laid_internal_strconv_uint64pow10)], narrowed := true }
def LogicFlatsUptoSaid : Prop := logicFlatsUptoRow.holds Tryz.pinned (OpenSpec.upto logicFlatsSpec)

/-- 'plumblinelaw05.LogicPuts', WHERE WHAT IT READS IS OF BULK AT MOST 1048576: true; the input reads as it did. -/
def logicPutsUptoRow : OpenClaim := { program := "ytpncilciembjdaagreatdoor", sum := "1449c61593c6935e428ff92f3d9fc3b724d34cf217014a108317deb1da70b24a", func := "plumbline/plumblinelaw05.LogicPuts", spec := "logicPuts", inPlace := ["internal/abi.NoEscape", "internal/bytealg.MakeNoZero"], unfollowed := true, recurses := true, named := ["internal/strconv.uint64pow10", "math/bits.deBruijn32tab", "math/bits.deBruijn64tab"], loops := true, apart := false, laid := [("math/bits.deBruijn32tab", laid_math_bits_deBruijn32tab), ("math/bits.deBruijn64tab", laid_math_bits_deBruijn64tab), ("internal/strconv.uint64pow10", laid_internal_strconv_uint64pow10)], narrowed := true }
def LogicPutsUptoSaid : Prop := logicPutsUptoRow.holds Tryz.pinned (OpenSpec.upto logicPutsSpec)

/-- 'plumblinelaw05.LogicCubes', WHERE WHAT IT READS IS OF BULK AT MOST 1048576: true; the input reads as it did. -/
def logicCubesUptoRow : OpenClaim := { program := "ytpncilciembjdaagreatdoor", sum := "1449c61593c6935e428ff92f3d9fc3b724d34cf217014a108317deb1da70b24a", func := "plumbline/plumblinelaw05.LogicCubes", spec := "logicCubes", inPlace := ["internal/abi.NoEscape", "internal/bytealg.MakeNoZero"], unfollowed := true, recurses := true, named := ["internal/strconv.uint64pow10", "math/bits.deBruijn32tab", "math/bits.deBruijn64tab"], loops := true, apart := false, laid := [("math/bits.deBruijn32tab", laid_math_bits_deBruijn32tab), ("math/bits.deBruijn64tab", laid_math_bits_deBruijn64tab), ("internal/strconv.uint64pow10", laid_internal_strconv_uint64pow10)], narrowed := true }
def LogicCubesUptoSaid : Prop := logicCubesUptoRow.holds Tryz.pinned (OpenSpec.upto logicCubesSpec)

/-- 'plumblinelaw05.LogicKeeps', WHERE WHAT IT READS IS OF BULK AT MOST 1048576: true; the input reads as it did. -/
def logicKeepsUptoRow : OpenClaim := { program := "ytpncilciembjdaagreatdoor", sum := "1449c61593c6935e428ff92f3d9fc3b724d34cf217014a108317deb1da70b24a", func := "plumbline/plumblinelaw05.LogicKeeps", spec := "logicKeeps", inPlace := ["internal/abi.NoEscape", "internal/bytealg.MakeNoZero"], unfollowed := true, recurses := true, named := ["internal/strconv.uint64pow10", "math/bits.deBruijn32tab", "math/bits.deBruijn64tab"], loops := true, apart := false, laid := [("math/bits.deBruijn32tab", laid_math_bits_deBruijn32tab), ("math/bits.deBruijn64tab", laid_math_bits_deBruijn64tab), ("internal/strconv.uint64pow10", laid_internal_strconv_uint64pow10)], narrowed := true }
def LogicKeepsUptoSaid : Prop := logicKeepsUptoRow.holds Tryz.pinned (OpenSpec.upto logicKeepsSpec)

/-- 'plumblinelaw05.LogicPutKeeps', WHERE WHAT IT READS IS OF BULK AT MOST 1048576: true; the input reads as it did. -/
def logicPutKeepsUptoRow : OpenClaim := { program := "ytpncilciembjdaagreatdoor", sum := "1449c61593c6935e428ff92f3d9fc3b724d34cf217014a108317deb1da70b24a", func := "plumbline/plumblinelaw05.LogicPutKeeps", spec := "logicPutKeeps", inPlace := ["internal/abi.NoEscape", "internal/bytealg.MakeNoZero"], unfollowed := true, recurses := true, named := ["internal/strconv.uint64pow10", "math/bits.deBruijn32tab", "math/bits.deBruijn64tab"], loops := true, apart := false, laid := [("math/bits.deBruijn32tab", laid_math_bits_deBruijn32tab), ("math/bits.deBruijn64tab", laid_math_bits_deBruijn64tab), ("internal/strconv.uint64pow10", laid_internal_strconv_uint64pow10)], narrowed := true }
def LogicPutKeepsUptoSaid : Prop := logicPutKeepsUptoRow.holds Tryz.pinned (OpenSpec.upto logicPutKeepsSpec)

/-- 'plumblinelaw05.LogicCompares', WHERE WHAT IT READS IS OF BULK AT MOST 1048576: true; the input reads as it did. -/
def logicComparesUptoRow : OpenClaim := { program := "ytpncilciembjdaagreatdoor", sum := "1449c61593c6935e428ff92f3d9fc3b724d34cf217014a108317deb1da70b24a", func := "plumbline/plumblinelaw05.LogicCompares", spec := "logicCompares", inPlace := ["internal/abi.NoEscape", "internal/bytealg.MakeNoZero"], unfollowed := true, recurses := true, named := ["internal/strconv.uint64pow10", "math/bits.deBruijn32tab", "math/bits.deBruijn64tab"], apart := false, laid := [("math/bits.deBruijn32tab", laid_math_bits_deBruijn32tab), ("math/bits.deBruijn64tab", laid_math_bits_deBruijn64tab), ("internal/strconv.uint64pow10", laid_internal_strconv_uint64pow10)], narrowed := true }
def LogicComparesUptoSaid : Prop := logicComparesUptoRow.holds Tryz.pinned (OpenSpec.upto logicComparesSpec)

end Rows
end Go.Proofs.YtpncilciembjdaaGreatDoor
