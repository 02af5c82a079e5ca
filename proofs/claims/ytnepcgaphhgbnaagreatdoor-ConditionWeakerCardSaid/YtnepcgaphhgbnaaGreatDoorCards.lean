/-
  DERIVED. GIVEN WITH THE SEED: THE CARDS: each row of YtnepcgaphhgbnaaGreatDoorRows.lean that lists a variable, with what it lists TIED to the program's text (the seventh form; the later family's looks); each row that meets fmt, with fmt's text TOLD by the authors' own Lean function (tested against real Go, not proved from fmt's source: count such statements apart). THE CARD IS WHAT COUNTS. Prove the row's statement (the work); the ties are given (YtnepcgaphhgbnaaGreatDoorTie.lean); close each card by the builder's one call (the guide's Derived/Test/ToyasCard.lean, 'card_holds'). Laid BY PROGRAM, IN A SANDBOX (cutbox-door.mjs). By AI agents, Wed Nov 11 2026. No macro, syntax, notation, axiom, sorry.
-/
import Derived.Test.YtnepcgaphhgbnaaGreatDoorRows
import GoSem.ClaimSeven
namespace Go.Proofs.YtnepcgaphhgbnaaGreatDoor
namespace Rows

/-- THE TIED CARD OF 'joinlearnlaw22.ConditionWeaker'. -/
def conditionWeakerCard : Claim7 := { stood := { row := conditionWeakerRow, standIns := [], harness := (true, "641c3cb70402c17793fd93b0fca2057dccbbdef1e3fa75310d880ff7275ed8c2"), looks := true }, kinds := [], alts := [], laidByText := true, laidKinds := [.data, .data, .data, .sentinel, .sentinel], laidTests := true, laidLooks := .later }
def ConditionWeakerCardSaid : Prop := Claim7.holds Tryz.pinned (.plain (OpenSpec.ofChange conditionWeakerSpec)) conditionWeakerCard

/-- THE TIED CARD OF 'joinlearnlaw22.ConditionNormal'. -/
def conditionNormalCard : Claim7 := { stood := { row := conditionNormalRow, standIns := [], harness := (true, "641c3cb70402c17793fd93b0fca2057dccbbdef1e3fa75310d880ff7275ed8c2"), looks := true }, kinds := [], alts := [], laidByText := true, laidKinds := [.data, .data, .data, .sentinel, .sentinel], laidTests := true, laidLooks := .later }
def ConditionNormalCardSaid : Prop := Claim7.holds Tryz.pinned (.plain (OpenSpec.ofChange conditionNormalSpec)) conditionNormalCard

/-- THE TIED CARD OF 'joinlearnlaw22.ConditionCounts'. -/
def conditionCountsCard : Claim7 := { stood := { row := conditionCountsRow, standIns := [], harness := (true, "641c3cb70402c17793fd93b0fca2057dccbbdef1e3fa75310d880ff7275ed8c2"), looks := true }, kinds := [], alts := [], laidByText := true, laidKinds := [.data, .data, .data, .sentinel, .sentinel], laidTests := true, laidLooks := .later }
def ConditionCountsCardSaid : Prop := Claim7.holds Tryz.pinned (.plain (OpenSpec.ofChange conditionCountsSpec)) conditionCountsCard

/-- THE TIED CARD OF 'joinlearnlaw22.ConditionAgain'. -/
def conditionAgainCard : Claim7 := { stood := { row := conditionAgainRow, standIns := [], harness := (true, "641c3cb70402c17793fd93b0fca2057dccbbdef1e3fa75310d880ff7275ed8c2"), looks := true }, kinds := [], alts := [], laidByText := true, laidKinds := [.data, .data, .data, .sentinel, .sentinel], laidTests := true, laidLooks := .later }
def ConditionAgainCardSaid : Prop := Claim7.holds Tryz.pinned (.plain (OpenSpec.ofChange conditionAgainSpec)) conditionAgainCard

/-- THE TIED CARD OF 'joinlearnlaw22.ConditionFilters'. -/
def conditionFiltersCard : Claim7 := { stood := { row := conditionFiltersRow, standIns := [], harness := (true, "641c3cb70402c17793fd93b0fca2057dccbbdef1e3fa75310d880ff7275ed8c2"), looks := true }, kinds := [], alts := [], laidByText := true, laidKinds := [.data, .data, .data, .sentinel, .sentinel], laidTests := true, laidLooks := .later }
def ConditionFiltersCardSaid : Prop := Claim7.holds Tryz.pinned (.plain (OpenSpec.ofChange conditionFiltersSpec)) conditionFiltersCard

/-- THE TIED CARD OF 'joinlearnlaw22.ConditionOrder'. -/
def conditionOrderCard : Claim7 := { stood := { row := conditionOrderRow, standIns := [], harness := (true, "641c3cb70402c17793fd93b0fca2057dccbbdef1e3fa75310d880ff7275ed8c2"), looks := true }, kinds := [], alts := [], laidByText := true, laidKinds := [.data, .data, .data, .sentinel, .sentinel], laidTests := true, laidLooks := .later }
def ConditionOrderCardSaid : Prop := Claim7.holds Tryz.pinned (.plain (OpenSpec.ofChange conditionOrderSpec)) conditionOrderCard

/-- THE TIED CARD OF 'joinlearnlaw22.ConditionOpposites'. -/
def conditionOppositesCard : Claim7 := { stood := { row := conditionOppositesRow, standIns := [], harness := (true, "641c3cb70402c17793fd93b0fca2057dccbbdef1e3fa75310d880ff7275ed8c2"), looks := true }, kinds := [], alts := [], laidByText := true, laidKinds := [.data, .data, .data, .sentinel, .sentinel], laidTests := true, laidLooks := .later }
def ConditionOppositesCardSaid : Prop := Claim7.holds Tryz.pinned (.plain (OpenSpec.ofChange conditionOppositesSpec)) conditionOppositesCard

/-- THE TIED CARD OF 'joinlearnlaw22.ConditionExact'. -/
def conditionExactCard : Claim7 := { stood := { row := conditionExactRow, standIns := [], harness := (true, "641c3cb70402c17793fd93b0fca2057dccbbdef1e3fa75310d880ff7275ed8c2"), looks := true }, kinds := [], alts := [], laidByText := true, laidKinds := [.data, .data, .data, .sentinel, .sentinel], laidTests := true, laidLooks := .later }
def ConditionExactCardSaid : Prop := Claim7.holds Tryz.pinned (.plain (OpenSpec.ofChange conditionExactSpec)) conditionExactCard

/-- THE SECOND FORM's CARD OF 'joinlearnlaw22.ConditionWeaker'. -/
def conditionWeakerUptoCard : Claim7 := { stood := { row := conditionWeakerUptoRow, standIns := [], harness := (true, "641c3cb70402c17793fd93b0fca2057dccbbdef1e3fa75310d880ff7275ed8c2"), looks := true }, kinds := [], alts := [], laidByText := true, laidKinds := [.data, .data, .data, .sentinel, .sentinel], laidTests := true, laidLooks := .later }
def ConditionWeakerUptoCardSaid : Prop := Claim7.holds Tryz.pinned (.plain (OpenSpec.upto conditionWeakerSpec)) conditionWeakerUptoCard

/-- THE SECOND FORM's CARD OF 'joinlearnlaw22.ConditionNormal'. -/
def conditionNormalUptoCard : Claim7 := { stood := { row := conditionNormalUptoRow, standIns := [], harness := (true, "641c3cb70402c17793fd93b0fca2057dccbbdef1e3fa75310d880ff7275ed8c2"), looks := true }, kinds := [], alts := [], laidByText := true, laidKinds := [.data, .data, .data, .sentinel, .sentinel], laidTests := true, laidLooks := .later }
def ConditionNormalUptoCardSaid : Prop := Claim7.holds Tryz.pinned (.plain (OpenSpec.upto conditionNormalSpec)) conditionNormalUptoCard

/-- THE SECOND FORM's CARD OF 'joinlearnlaw22.ConditionCounts'. -/
def conditionCountsUptoCard : Claim7 := { stood := { row := conditionCountsUptoRow, standIns := [], harness := (true, "641c3cb70402c17793fd93b0fca2057dccbbdef1e3fa75310d880ff7275ed8c2"), looks := true }, kinds := [], alts := [], laidByText := true, laidKinds := [.data, .data, .data, .sentinel, .sentinel], laidTests := true, laidLooks := .later }
def ConditionCountsUptoCardSaid : Prop := Claim7.holds Tryz.pinned (.plain (OpenSpec.upto conditionCountsSpec)) conditionCountsUptoCard

/-- THE SECOND FORM's CARD OF 'joinlearnlaw22.ConditionAgain'. -/
def conditionAgainUptoCard : Claim7 := { stood := { row := conditionAgainUptoRow, standIns := [], harness := (true, "641c3cb70402c17793fd93b0fca2057dccbbdef1e3fa75310d880ff7275ed8c2"), looks := true }, kinds := [], alts := [], laidByText := true, laidKinds := [.data, .data, .data, .sentinel, .sentinel], laidTests := true, laidLooks := .later }
def ConditionAgainUptoCardSaid : Prop := Claim7.holds Tryz.pinned (.plain (OpenSpec.upto conditionAgainSpec)) conditionAgainUptoCard

/-- THE SECOND FORM's CARD OF 'joinlearnlaw22.ConditionFilters'. -/
def conditionFiltersUptoCard : Claim7 := { stood := { row := conditionFiltersUptoRow, standIns := [], harness := (true, "641c3cb70402c17793fd93b0fca2057dccbbdef1e3fa75310d880ff7275ed8c2"), looks := true }, kinds := [], alts := [], laidByText := true, laidKinds := [.data, .data, .data, .sentinel, .sentinel], laidTests := true, laidLooks := .later }
def ConditionFiltersUptoCardSaid : Prop := Claim7.holds Tryz.pinned (.plain (OpenSpec.upto conditionFiltersSpec)) conditionFiltersUptoCard

/-- THE SECOND FORM's CARD OF 'joinlearnlaw22.ConditionOrder'. -/
def conditionOrderUptoCard : Claim7 := { stood := { row := conditionOrderUptoRow, standIns := [], harness := (true, "641c3cb70402c17793fd93b0fca2057dccbbdef1e3fa75310d880ff7275ed8c2"), looks := true }, kinds := [], alts := [], laidByText := true, laidKinds := [.data, .data, .data, .sentinel, .sentinel], laidTests := true, laidLooks := .later }
def ConditionOrderUptoCardSaid : Prop := Claim7.holds Tryz.pinned (.plain (OpenSpec.upto conditionOrderSpec)) conditionOrderUptoCard

/-- THE SECOND FORM's CARD OF 'joinlearnlaw22.ConditionOpposites'. -/
def conditionOppositesUptoCard : Claim7 := { stood := { row := conditionOppositesUptoRow, standIns := [], harness := (true, "641c3cb70402c17793fd93b0fca2057dccbbdef1e3fa75310d880ff7275ed8c2"), looks := true }, kinds := [], alts := [], laidByText := true, laidKinds := [.data, .data, .data, .sentinel, .sentinel], laidTests := true, laidLooks := .later }
def ConditionOppositesUptoCardSaid : Prop := Claim7.holds Tryz.pinned (.plain (OpenSpec.upto conditionOppositesSpec)) conditionOppositesUptoCard

/-- THE SECOND FORM's CARD OF 'joinlearnlaw22.ConditionExact'. -/
def conditionExactUptoCard : Claim7 := { stood := { row := conditionExactUptoRow, standIns := [], harness := (true, "641c3cb70402c17793fd93b0fca2057dccbbdef1e3fa75310d880ff7275ed8c2"), looks := true }, kinds := [], alts := [], laidByText := true, laidKinds := [.data, .data, .data, .sentinel, .sentinel], laidTests := true, laidLooks := .later }
def ConditionExactUptoCardSaid : Prop := Claim7.holds Tryz.pinned (.plain (OpenSpec.upto conditionExactSpec)) conditionExactUptoCard
end Rows
end Go.Proofs.YtnepcgaphhgbnaaGreatDoor
