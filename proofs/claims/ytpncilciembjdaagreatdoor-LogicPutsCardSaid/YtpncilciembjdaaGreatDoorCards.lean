/-
  DERIVED. GIVEN WITH THE SEED: THE CARDS: each row of YtpncilciembjdaaGreatDoorRows.lean that lists a variable, with what it lists TIED to the program's text (the seventh form; the later family's looks); each row that meets fmt, with fmt's text TOLD by the authors' own Lean function (tested against real Go, not proved from fmt's source: count such statements apart). THE CARD IS WHAT COUNTS. Prove the row's statement (the work); the ties are given (YtpncilciembjdaaGreatDoorTie.lean); close each card by the builder's one call (the guide's Derived/Test/ToyasCard.lean, 'card_holds'). Laid BY PROGRAM, IN A SANDBOX (cutbox-door.mjs). By AI agents, Wed Nov 11 2026. No macro, syntax, notation, axiom, sorry.
-/
import Derived.Test.YtpncilciembjdaaGreatDoorRows
import GoSem.ClaimSeven
namespace Go.Proofs.YtpncilciembjdaaGreatDoor
namespace Rows

/-- THE TIED CARD OF 'plumblinelaw04.RelTights'. -/
def relTightsCard : Claim7 := { stood := { row := relTightsRow, standIns := [], harness := (true, "71c373f515b5d6404ff57fe099454b4ae9c8cd2d69debb21d8290a970539b276"), looks := false }, kinds := [], alts := [], laidByText := true, laidKinds := [.data, .data, .data], laidTests := true, laidLooks := .later }
def RelTightsCardSaid : Prop := Claim7.holds Tryz.pinned (.plain (OpenSpec.ofChange relTightsSpec)) relTightsCard

/-- THE TIED CARD OF 'plumblinelaw04.RelHolds'. -/
def relHoldsCard : Claim7 := { stood := { row := relHoldsRow, standIns := [], harness := (true, "71c373f515b5d6404ff57fe099454b4ae9c8cd2d69debb21d8290a970539b276"), looks := false }, kinds := [], alts := [], laidByText := true, laidKinds := [.data, .data, .data], laidTests := true, laidLooks := .later }
def RelHoldsCardSaid : Prop := Claim7.holds Tryz.pinned (.plain (OpenSpec.ofChange relHoldsSpec)) relHoldsCard

/-- THE TIED CARD OF 'plumblinelaw04.RelDenies'. -/
def relDeniesCard : Claim7 := { stood := { row := relDeniesRow, standIns := [], harness := (true, "71c373f515b5d6404ff57fe099454b4ae9c8cd2d69debb21d8290a970539b276"), looks := false }, kinds := [], alts := [], laidByText := true, laidKinds := [.data, .data, .data], laidTests := true, laidLooks := .later }
def RelDeniesCardSaid : Prop := Claim7.holds Tryz.pinned (.plain (OpenSpec.ofChange relDeniesSpec)) relDeniesCard

/-- THE TIED CARD OF 'plumblinelaw04.RelKeeps'. -/
def relKeepsCard : Claim7 := { stood := { row := relKeepsRow, standIns := [], harness := (true, "71c373f515b5d6404ff57fe099454b4ae9c8cd2d69debb21d8290a970539b276"), looks := false }, kinds := [], alts := [], laidByText := true, laidKinds := [.data, .data, .data], laidTests := true, laidLooks := .later }
def RelKeepsCardSaid : Prop := Claim7.holds Tryz.pinned (.plain (OpenSpec.ofChange relKeepsSpec)) relKeepsCard

/-- THE TIED CARD OF 'plumblinelaw04.RelOnce'. -/
def relOnceCard : Claim7 := { stood := { row := relOnceRow, standIns := [], harness := (true, "71c373f515b5d6404ff57fe099454b4ae9c8cd2d69debb21d8290a970539b276"), looks := false }, kinds := [], alts := [], laidByText := true, laidKinds := [.data, .data, .data], laidTests := true, laidLooks := .later }
def RelOnceCardSaid : Prop := Claim7.holds Tryz.pinned (.plain (OpenSpec.ofChange relOnceSpec)) relOnceCard

/-- THE TIED CARD OF 'plumblinelaw05.LogicHolds'. -/
def logicHoldsCard : Claim7 := { stood := { row := logicHoldsRow, standIns := [], harness := (true, "71c373f515b5d6404ff57fe099454b4ae9c8cd2d69debb21d8290a970539b276"), looks := false }, kinds := [], alts := [], laidByText := true, laidKinds := [.data, .data, .data], laidTests := true, laidLooks := .later }
def LogicHoldsCardSaid : Prop := Claim7.holds Tryz.pinned (.plain (OpenSpec.ofChange logicHoldsSpec)) logicHoldsCard

/-- THE TIED CARD OF 'plumblinelaw05.LogicFlats'. -/
def logicFlatsCard : Claim7 := { stood := { row := logicFlatsRow, standIns := [], harness := (true, "71c373f515b5d6404ff57fe099454b4ae9c8cd2d69debb21d8290a970539b276"), looks := false }, kinds := [], alts := [], laidByText := true, laidKinds := [.data, .data, .data], laidTests := true, laidLooks := .later }
def LogicFlatsCardSaid : Prop := Claim7.holds Tryz.pinned (.plain (OpenSpec.ofChange logicFlatsSpec)) logicFlatsCard

/-- THE TIED CARD OF 'plumblinelaw05.LogicPuts'. -/
def logicPutsCard : Claim7 := { stood := { row := logicPutsRow, standIns := [], harness := (true, "71c373f515b5d6404ff57fe099454b4ae9c8cd2d69debb21d8290a970539b276"), looks := false }, kinds := [], alts := [], laidByText := true, laidKinds := [.data, .data, .data], laidTests := true, laidLooks := .later }
def LogicPutsCardSaid : Prop := Claim7.holds Tryz.pinned (.plain (OpenSpec.ofChange logicPutsSpec)) logicPutsCard

/-- THE TIED CARD OF 'plumblinelaw05.LogicCubes'. -/
def logicCubesCard : Claim7 := { stood := { row := logicCubesRow, standIns := [], harness := (true, "71c373f515b5d6404ff57fe099454b4ae9c8cd2d69debb21d8290a970539b276"), looks := false }, kinds := [], alts := [], laidByText := true, laidKinds := [.data, .data, .data], laidTests := true, laidLooks := .later }
def LogicCubesCardSaid : Prop := Claim7.holds Tryz.pinned (.plain (OpenSpec.ofChange logicCubesSpec)) logicCubesCard

/-- THE TIED CARD OF 'plumblinelaw05.LogicKeeps'. -/
def logicKeepsCard : Claim7 := { stood := { row := logicKeepsRow, standIns := [], harness := (true, "71c373f515b5d6404ff57fe099454b4ae9c8cd2d69debb21d8290a970539b276"), looks := false }, kinds := [], alts := [], laidByText := true, laidKinds := [.data, .data, .data], laidTests := true, laidLooks := .later }
def LogicKeepsCardSaid : Prop := Claim7.holds Tryz.pinned (.plain (OpenSpec.ofChange logicKeepsSpec)) logicKeepsCard

/-- THE TIED CARD OF 'plumblinelaw05.LogicPutKeeps'. -/
def logicPutKeepsCard : Claim7 := { stood := { row := logicPutKeepsRow, standIns := [], harness := (true, "71c373f515b5d6404ff57fe099454b4ae9c8cd2d69debb21d8290a970539b276"), looks := false }, kinds := [], alts := [], laidByText := true, laidKinds := [.data, .data, .data], laidTests := true, laidLooks := .later }
def LogicPutKeepsCardSaid : Prop := Claim7.holds Tryz.pinned (.plain (OpenSpec.ofChange logicPutKeepsSpec)) logicPutKeepsCard

/-- THE TIED CARD OF 'plumblinelaw05.LogicCompares'. -/
def logicComparesCard : Claim7 := { stood := { row := logicComparesRow, standIns := [], harness := (true, "71c373f515b5d6404ff57fe099454b4ae9c8cd2d69debb21d8290a970539b276"), looks := false }, kinds := [], alts := [], laidByText := true, laidKinds := [.data, .data, .data], laidTests := true, laidLooks := .later }
def LogicComparesCardSaid : Prop := Claim7.holds Tryz.pinned (.plain (OpenSpec.ofChange logicComparesSpec)) logicComparesCard

/-- THE SECOND FORM's CARD OF 'plumblinelaw04.RelTights'. -/
def relTightsUptoCard : Claim7 := { stood := { row := relTightsUptoRow, standIns := [], harness := (true, "71c373f515b5d6404ff57fe099454b4ae9c8cd2d69debb21d8290a970539b276"), looks := false }, kinds := [], alts := [], laidByText := true, laidKinds := [.data, .data, .data], laidTests := true, laidLooks := .later }
def RelTightsUptoCardSaid : Prop := Claim7.holds Tryz.pinned (.plain (OpenSpec.upto relTightsSpec)) relTightsUptoCard

/-- THE SECOND FORM's CARD OF 'plumblinelaw04.RelHolds'. -/
def relHoldsUptoCard : Claim7 := { stood := { row := relHoldsUptoRow, standIns := [], harness := (true, "71c373f515b5d6404ff57fe099454b4ae9c8cd2d69debb21d8290a970539b276"), looks := false }, kinds := [], alts := [], laidByText := true, laidKinds := [.data, .data, .data], laidTests := true, laidLooks := .later }
def RelHoldsUptoCardSaid : Prop := Claim7.holds Tryz.pinned (.plain (OpenSpec.upto relHoldsSpec)) relHoldsUptoCard

/-- THE SECOND FORM's CARD OF 'plumblinelaw04.RelDenies'. -/
def relDeniesUptoCard : Claim7 := { stood := { row := relDeniesUptoRow, standIns := [], harness := (true, "71c373f515b5d6404ff57fe099454b4ae9c8cd2d69debb21d8290a970539b276"), looks := false }, kinds := [], alts := [], laidByText := true, laidKinds := [.data, .data, .data], laidTests := true, laidLooks := .later }
def RelDeniesUptoCardSaid : Prop := Claim7.holds Tryz.pinned (.plain (OpenSpec.upto relDeniesSpec)) relDeniesUptoCard

/-- THE SECOND FORM's CARD OF 'plumblinelaw04.RelKeeps'. -/
def relKeepsUptoCard : Claim7 := { stood := { row := relKeepsUptoRow, standIns := [], harness := (true, "71c373f515b5d6404ff57fe099454b4ae9c8cd2d69debb21d8290a970539b276"), looks := false }, kinds := [], alts := [], laidByText := true, laidKinds := [.data, .data, .data], laidTests := true, laidLooks := .later }
def RelKeepsUptoCardSaid : Prop := Claim7.holds Tryz.pinned (.plain (OpenSpec.upto relKeepsSpec)) relKeepsUptoCard

/-- THE SECOND FORM's CARD OF 'plumblinelaw04.RelOnce'. -/
def relOnceUptoCard : Claim7 := { stood := { row := relOnceUptoRow, standIns := [], harness := (true, "71c373f515b5d6404ff57fe099454b4ae9c8cd2d69debb21d8290a970539b276"), looks := false }, kinds := [], alts := [], laidByText := true, laidKinds := [.data, .data, .data], laidTests := true, laidLooks := .later }
def RelOnceUptoCardSaid : Prop := Claim7.holds Tryz.pinned (.plain (OpenSpec.upto relOnceSpec)) relOnceUptoCard

/-- THE SECOND FORM's CARD OF 'plumblinelaw05.LogicHolds'. -/
def logicHoldsUptoCard : Claim7 := { stood := { row := logicHoldsUptoRow, standIns := [], harness := (true, "71c373f515b5d6404ff57fe099454b4ae9c8cd2d69debb21d8290a970539b276"), looks := false }, kinds := [], alts := [], laidByText := true, laidKinds := [.data, .data, .data], laidTests := true, laidLooks := .later }
def LogicHoldsUptoCardSaid : Prop := Claim7.holds Tryz.pinned (.plain (OpenSpec.upto logicHoldsSpec)) logicHoldsUptoCard

/-- THE SECOND FORM's CARD OF 'plumblinelaw05.LogicFlats'. -/
def logicFlatsUptoCard : Claim7 := { stood := { row := logicFlatsUptoRow, standIns := [], harness := (true, "71c373f515b5d6404ff57fe099454b4ae9c8cd2d69debb21d8290a970539b276"), looks := false }, kinds := [], alts := [], laidByText := true, laidKinds := [.data, .data, .data], laidTests := true, laidLooks := .later }
def LogicFlatsUptoCardSaid : Prop := Claim7.holds Tryz.pinned (.plain (OpenSpec.upto logicFlatsSpec)) logicFlatsUptoCard

/-- THE SECOND FORM's CARD OF 'plumblinelaw05.LogicPuts'. -/
def logicPutsUptoCard : Claim7 := { stood := { row := logicPutsUptoRow, standIns := [], harness := (true, "71c373f515b5d6404ff57fe099454b4ae9c8cd2d69debb21d8290a970539b276"), looks := false }, kinds := [], alts := [], laidByText := true, laidKinds := [.data, .data, .data], laidTests := true, laidLooks := .later }
def LogicPutsUptoCardSaid : Prop := Claim7.holds Tryz.pinned (.plain (OpenSpec.upto logicPutsSpec)) logicPutsUptoCard

/-- THE SECOND FORM's CARD OF 'plumblinelaw05.LogicCubes'. -/
def logicCubesUptoCard : Claim7 := { stood := { row := logicCubesUptoRow, standIns := [], harness := (true, "71c373f515b5d6404ff57fe099454b4ae9c8cd2d69debb21d8290a970539b276"), looks := false }, kinds := [], alts := [], laidByText := true, laidKinds := [.data, .data, .data], laidTests := true, laidLooks := .later }
def LogicCubesUptoCardSaid : Prop := Claim7.holds Tryz.pinned (.plain (OpenSpec.upto logicCubesSpec)) logicCubesUptoCard

/-- THE SECOND FORM's CARD OF 'plumblinelaw05.LogicKeeps'. -/
def logicKeepsUptoCard : Claim7 := { stood := { row := logicKeepsUptoRow, standIns := [], harness := (true, "71c373f515b5d6404ff57fe099454b4ae9c8cd2d69debb21d8290a970539b276"), looks := false }, kinds := [], alts := [], laidByText := true, laidKinds := [.data, .data, .data], laidTests := true, laidLooks := .later }
def LogicKeepsUptoCardSaid : Prop := Claim7.holds Tryz.pinned (.plain (OpenSpec.upto logicKeepsSpec)) logicKeepsUptoCard

/-- THE SECOND FORM's CARD OF 'plumblinelaw05.LogicPutKeeps'. -/
def logicPutKeepsUptoCard : Claim7 := { stood := { row := logicPutKeepsUptoRow, standIns := [], harness := (true, "71c373f515b5d6404ff57fe099454b4ae9c8cd2d69debb21d8290a970539b276"), looks := false }, kinds := [], alts := [], laidByText := true, laidKinds := [.data, .data, .data], laidTests := true, laidLooks := .later }
def LogicPutKeepsUptoCardSaid : Prop := Claim7.holds Tryz.pinned (.plain (OpenSpec.upto logicPutKeepsSpec)) logicPutKeepsUptoCard

/-- THE SECOND FORM's CARD OF 'plumblinelaw05.LogicCompares'. -/
def logicComparesUptoCard : Claim7 := { stood := { row := logicComparesUptoRow, standIns := [], harness := (true, "71c373f515b5d6404ff57fe099454b4ae9c8cd2d69debb21d8290a970539b276"), looks := false }, kinds := [], alts := [], laidByText := true, laidKinds := [.data, .data, .data], laidTests := true, laidLooks := .later }
def LogicComparesUptoCardSaid : Prop := Claim7.holds Tryz.pinned (.plain (OpenSpec.upto logicComparesSpec)) logicComparesUptoCard
end Rows
end Go.Proofs.YtpncilciembjdaaGreatDoor
