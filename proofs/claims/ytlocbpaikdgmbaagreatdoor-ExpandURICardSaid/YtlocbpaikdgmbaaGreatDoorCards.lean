/-
  DERIVED. GIVEN WITH THE SEED: THE CARDS: each row of YtlocbpaikdgmbaaGreatDoorRows.lean that lists a variable, with what it lists TIED to the program's text (the seventh form; the later family's looks); each row that meets fmt, with fmt's text TOLD by the authors' own Lean function (tested against real Go, not proved from fmt's source: count such statements apart). THE CARD IS WHAT COUNTS. Prove the row's statement (the work); the ties are given (YtlocbpaikdgmbaaGreatDoorTie.lean); close each card by the builder's one call (the guide's Derived/Test/ToyasCard.lean, 'card_holds'). Laid BY PROGRAM, IN A SANDBOX (cutbox-door.mjs). By AI agents, Wed Nov 11 2026. No macro, syntax, notation, axiom, sorry.
-/
import Derived.Test.YtlocbpaikdgmbaaGreatDoorRows
import GoSem.ClaimSeven
namespace Go.Proofs.YtlocbpaikdgmbaaGreatDoor
namespace Rows

/-- THE TIED CARD OF 'phalaropelaw12.ExpandTells'. -/
def expandTellsCard : Claim7 := { stood := { row := expandTellsRow, standIns := [], harness := (true, "f3ef785f2b532d61e6b97717b2dda9ce0b7c59e5dcad40e368f1b0fd41052c9f"), looks := true }, kinds := [], alts := [], laidByText := true, laidKinds := [.data, .data, .data, .sentinel, .sentinel], laidTests := true, laidLooks := .later }
def ExpandTellsCardSaid : Prop := Claim7.holds Tryz.pinned (.plain (OpenSpec.ofChange expandTellsSpec)) expandTellsCard

/-- THE TIED CARD OF 'phalaropelaw12.ExpandURI'. -/
def expandURICard : Claim7 := { stood := { row := expandURIRow, standIns := [], harness := (true, "f3ef785f2b532d61e6b97717b2dda9ce0b7c59e5dcad40e368f1b0fd41052c9f"), looks := true }, kinds := [], alts := [], laidByText := true, laidKinds := [.data, .data, .data, .sentinel, .sentinel], laidTests := true, laidLooks := .later }
def ExpandURICardSaid : Prop := Claim7.holds Tryz.pinned (.plain (OpenSpec.ofChange expandURISpec)) expandURICard

/-- THE TIED CARD OF 'phalaropelaw12.ExpandOther'. -/
def expandOtherCard : Claim7 := { stood := { row := expandOtherRow, standIns := [], harness := (true, "f3ef785f2b532d61e6b97717b2dda9ce0b7c59e5dcad40e368f1b0fd41052c9f"), looks := true }, kinds := [], alts := [], laidByText := true, laidKinds := [.data, .data, .data, .sentinel, .sentinel], laidTests := true, laidLooks := .later }
def ExpandOtherCardSaid : Prop := Claim7.holds Tryz.pinned (.plain (OpenSpec.ofChange expandOtherSpec)) expandOtherCard

/-- THE TIED CARD OF 'phalaropelaw12.ExpandJoins'. -/
def expandJoinsCard : Claim7 := { stood := { row := expandJoinsRow, standIns := [], harness := (true, "f3ef785f2b532d61e6b97717b2dda9ce0b7c59e5dcad40e368f1b0fd41052c9f"), looks := true }, kinds := [], alts := [], laidByText := true, laidKinds := [.data, .data, .data, .sentinel, .sentinel], laidTests := true, laidLooks := .later }
def ExpandJoinsCardSaid : Prop := Claim7.holds Tryz.pinned (.plain (OpenSpec.ofChange expandJoinsSpec)) expandJoinsCard

/-- THE TIED CARD OF 'phalaropelaw12.ExpandLimit'. -/
def expandLimitCard : Claim7 := { stood := { row := expandLimitRow, standIns := [], harness := (true, "f3ef785f2b532d61e6b97717b2dda9ce0b7c59e5dcad40e368f1b0fd41052c9f"), looks := true }, kinds := [], alts := [], laidByText := true, laidKinds := [.data, .data, .data, .sentinel, .sentinel], laidTests := true, laidLooks := .later }
def ExpandLimitCardSaid : Prop := Claim7.holds Tryz.pinned (.plain (OpenSpec.ofChange expandLimitSpec)) expandLimitCard

/-- THE TIED CARD OF 'phalaropelaw12.ExpandNothing'. -/
def expandNothingCard : Claim7 := { stood := { row := expandNothingRow, standIns := [], harness := (true, "f3ef785f2b532d61e6b97717b2dda9ce0b7c59e5dcad40e368f1b0fd41052c9f"), looks := true }, kinds := [], alts := [], laidByText := true, laidKinds := [.data, .data, .data, .sentinel, .sentinel], laidTests := true, laidLooks := .later }
def ExpandNothingCardSaid : Prop := Claim7.holds Tryz.pinned (.plain (OpenSpec.ofChange expandNothingSpec)) expandNothingCard

/-- THE TIED CARD OF 'phalaropelaw12.ExpandSingle'. -/
def expandSingleCard : Claim7 := { stood := { row := expandSingleRow, standIns := [], harness := (true, "f3ef785f2b532d61e6b97717b2dda9ce0b7c59e5dcad40e368f1b0fd41052c9f"), looks := true }, kinds := [], alts := [], laidByText := true, laidKinds := [.data, .data, .data, .sentinel, .sentinel], laidTests := true, laidLooks := .later }
def ExpandSingleCardSaid : Prop := Claim7.holds Tryz.pinned (.plain (OpenSpec.ofChange expandSingleSpec)) expandSingleCard

/-- THE TIED CARD OF 'phalaropelaw13.ProgCompiles'. -/
def progCompilesCard : Claim7 := { stood := { row := progCompilesRow, standIns := [], harness := (true, "f3ef785f2b532d61e6b97717b2dda9ce0b7c59e5dcad40e368f1b0fd41052c9f"), looks := true }, kinds := [], alts := [], laidByText := true, laidKinds := [.data, .data, .data, .sentinel, .sentinel], laidTests := true, laidLooks := .later }
def ProgCompilesCardSaid : Prop := Claim7.holds Tryz.pinned (.plain (OpenSpec.ofChange progCompilesSpec)) progCompilesCard

/-- THE TIED CARD OF 'phalaropelaw13.ProgRuns'. -/
def progRunsCard : Claim7 := { stood := { row := progRunsRow, standIns := [], harness := (true, "f3ef785f2b532d61e6b97717b2dda9ce0b7c59e5dcad40e368f1b0fd41052c9f"), looks := true }, kinds := [], alts := [], laidByText := true, laidKinds := [.data, .data, .data, .sentinel, .sentinel], laidTests := true, laidLooks := .later }
def ProgRunsCardSaid : Prop := Claim7.holds Tryz.pinned (.plain (OpenSpec.ofChange progRunsSpec)) progRunsCard

/-- THE TIED CARD OF 'phalaropelaw13.ProgBack'. -/
def progBackCard : Claim7 := { stood := { row := progBackRow, standIns := [], harness := (true, "f3ef785f2b532d61e6b97717b2dda9ce0b7c59e5dcad40e368f1b0fd41052c9f"), looks := true }, kinds := [], alts := [], laidByText := true, laidKinds := [.data, .data, .data, .sentinel, .sentinel], laidTests := true, laidLooks := .later }
def ProgBackCardSaid : Prop := Claim7.holds Tryz.pinned (.plain (OpenSpec.ofChange progBackSpec)) progBackCard

/-- THE TIED CARD OF 'phalaropelaw13.ProgJoins'. -/
def progJoinsCard : Claim7 := { stood := { row := progJoinsRow, standIns := [], harness := (true, "f3ef785f2b532d61e6b97717b2dda9ce0b7c59e5dcad40e368f1b0fd41052c9f"), looks := true }, kinds := [], alts := [], laidByText := true, laidKinds := [.data, .data, .data, .sentinel, .sentinel], laidTests := true, laidLooks := .later }
def ProgJoinsCardSaid : Prop := Claim7.holds Tryz.pinned (.plain (OpenSpec.ofChange progJoinsSpec)) progJoinsCard

/-- THE TIED CARD OF 'phalaropelaw13.ProgLits'. -/
def progLitsCard : Claim7 := { stood := { row := progLitsRow, standIns := [], harness := (true, "f3ef785f2b532d61e6b97717b2dda9ce0b7c59e5dcad40e368f1b0fd41052c9f"), looks := true }, kinds := [], alts := [], laidByText := true, laidKinds := [.data, .data, .data, .sentinel, .sentinel], laidTests := true, laidLooks := .later }
def ProgLitsCardSaid : Prop := Claim7.holds Tryz.pinned (.plain (OpenSpec.ofChange progLitsSpec)) progLitsCard

/-- THE TIED CARD OF 'phalaropelaw13.ProgSame'. -/
def progSameCard : Claim7 := { stood := { row := progSameRow, standIns := [], harness := (true, "f3ef785f2b532d61e6b97717b2dda9ce0b7c59e5dcad40e368f1b0fd41052c9f"), looks := true }, kinds := [], alts := [], laidByText := true, laidKinds := [.data, .data, .data, .sentinel, .sentinel], laidTests := true, laidLooks := .later }
def ProgSameCardSaid : Prop := Claim7.holds Tryz.pinned (.plain (OpenSpec.ofChange progSameSpec)) progSameCard

/-- THE SECOND FORM's CARD OF 'phalaropelaw12.ExpandTells'. -/
def expandTellsUptoCard : Claim7 := { stood := { row := expandTellsUptoRow, standIns := [], harness := (true, "f3ef785f2b532d61e6b97717b2dda9ce0b7c59e5dcad40e368f1b0fd41052c9f"), looks := true }, kinds := [], alts := [], laidByText := true, laidKinds := [.data, .data, .data, .sentinel, .sentinel], laidTests := true, laidLooks := .later }
def ExpandTellsUptoCardSaid : Prop := Claim7.holds Tryz.pinned (.plain (OpenSpec.upto expandTellsSpec)) expandTellsUptoCard

/-- THE SECOND FORM's CARD OF 'phalaropelaw12.ExpandURI'. -/
def expandURIUptoCard : Claim7 := { stood := { row := expandURIUptoRow, standIns := [], harness := (true, "f3ef785f2b532d61e6b97717b2dda9ce0b7c59e5dcad40e368f1b0fd41052c9f"), looks := true }, kinds := [], alts := [], laidByText := true, laidKinds := [.data, .data, .data, .sentinel, .sentinel], laidTests := true, laidLooks := .later }
def ExpandURIUptoCardSaid : Prop := Claim7.holds Tryz.pinned (.plain (OpenSpec.upto expandURISpec)) expandURIUptoCard

/-- THE SECOND FORM's CARD OF 'phalaropelaw12.ExpandOther'. -/
def expandOtherUptoCard : Claim7 := { stood := { row := expandOtherUptoRow, standIns := [], harness := (true, "f3ef785f2b532d61e6b97717b2dda9ce0b7c59e5dcad40e368f1b0fd41052c9f"), looks := true }, kinds := [], alts := [], laidByText := true, laidKinds := [.data, .data, .data, .sentinel, .sentinel], laidTests := true, laidLooks := .later }
def ExpandOtherUptoCardSaid : Prop := Claim7.holds Tryz.pinned (.plain (OpenSpec.upto expandOtherSpec)) expandOtherUptoCard

/-- THE SECOND FORM's CARD OF 'phalaropelaw12.ExpandJoins'. -/
def expandJoinsUptoCard : Claim7 := { stood := { row := expandJoinsUptoRow, standIns := [], harness := (true, "f3ef785f2b532d61e6b97717b2dda9ce0b7c59e5dcad40e368f1b0fd41052c9f"), looks := true }, kinds := [], alts := [], laidByText := true, laidKinds := [.data, .data, .data, .sentinel, .sentinel], laidTests := true, laidLooks := .later }
def ExpandJoinsUptoCardSaid : Prop := Claim7.holds Tryz.pinned (.plain (OpenSpec.upto expandJoinsSpec)) expandJoinsUptoCard

/-- THE SECOND FORM's CARD OF 'phalaropelaw12.ExpandLimit'. -/
def expandLimitUptoCard : Claim7 := { stood := { row := expandLimitUptoRow, standIns := [], harness := (true, "f3ef785f2b532d61e6b97717b2dda9ce0b7c59e5dcad40e368f1b0fd41052c9f"), looks := true }, kinds := [], alts := [], laidByText := true, laidKinds := [.data, .data, .data, .sentinel, .sentinel], laidTests := true, laidLooks := .later }
def ExpandLimitUptoCardSaid : Prop := Claim7.holds Tryz.pinned (.plain (OpenSpec.upto expandLimitSpec)) expandLimitUptoCard

/-- THE SECOND FORM's CARD OF 'phalaropelaw12.ExpandNothing'. -/
def expandNothingUptoCard : Claim7 := { stood := { row := expandNothingUptoRow, standIns := [], harness := (true, "f3ef785f2b532d61e6b97717b2dda9ce0b7c59e5dcad40e368f1b0fd41052c9f"), looks := true }, kinds := [], alts := [], laidByText := true, laidKinds := [.data, .data, .data, .sentinel, .sentinel], laidTests := true, laidLooks := .later }
def ExpandNothingUptoCardSaid : Prop := Claim7.holds Tryz.pinned (.plain (OpenSpec.upto expandNothingSpec)) expandNothingUptoCard

/-- THE SECOND FORM's CARD OF 'phalaropelaw12.ExpandSingle'. -/
def expandSingleUptoCard : Claim7 := { stood := { row := expandSingleUptoRow, standIns := [], harness := (true, "f3ef785f2b532d61e6b97717b2dda9ce0b7c59e5dcad40e368f1b0fd41052c9f"), looks := true }, kinds := [], alts := [], laidByText := true, laidKinds := [.data, .data, .data, .sentinel, .sentinel], laidTests := true, laidLooks := .later }
def ExpandSingleUptoCardSaid : Prop := Claim7.holds Tryz.pinned (.plain (OpenSpec.upto expandSingleSpec)) expandSingleUptoCard

/-- THE SECOND FORM's CARD OF 'phalaropelaw13.ProgCompiles'. -/
def progCompilesUptoCard : Claim7 := { stood := { row := progCompilesUptoRow, standIns := [], harness := (true, "f3ef785f2b532d61e6b97717b2dda9ce0b7c59e5dcad40e368f1b0fd41052c9f"), looks := true }, kinds := [], alts := [], laidByText := true, laidKinds := [.data, .data, .data, .sentinel, .sentinel], laidTests := true, laidLooks := .later }
def ProgCompilesUptoCardSaid : Prop := Claim7.holds Tryz.pinned (.plain (OpenSpec.upto progCompilesSpec)) progCompilesUptoCard

/-- THE SECOND FORM's CARD OF 'phalaropelaw13.ProgRuns'. -/
def progRunsUptoCard : Claim7 := { stood := { row := progRunsUptoRow, standIns := [], harness := (true, "f3ef785f2b532d61e6b97717b2dda9ce0b7c59e5dcad40e368f1b0fd41052c9f"), looks := true }, kinds := [], alts := [], laidByText := true, laidKinds := [.data, .data, .data, .sentinel, .sentinel], laidTests := true, laidLooks := .later }
def ProgRunsUptoCardSaid : Prop := Claim7.holds Tryz.pinned (.plain (OpenSpec.upto progRunsSpec)) progRunsUptoCard

/-- THE SECOND FORM's CARD OF 'phalaropelaw13.ProgBack'. -/
def progBackUptoCard : Claim7 := { stood := { row := progBackUptoRow, standIns := [], harness := (true, "f3ef785f2b532d61e6b97717b2dda9ce0b7c59e5dcad40e368f1b0fd41052c9f"), looks := true }, kinds := [], alts := [], laidByText := true, laidKinds := [.data, .data, .data, .sentinel, .sentinel], laidTests := true, laidLooks := .later }
def ProgBackUptoCardSaid : Prop := Claim7.holds Tryz.pinned (.plain (OpenSpec.upto progBackSpec)) progBackUptoCard

/-- THE SECOND FORM's CARD OF 'phalaropelaw13.ProgJoins'. -/
def progJoinsUptoCard : Claim7 := { stood := { row := progJoinsUptoRow, standIns := [], harness := (true, "f3ef785f2b532d61e6b97717b2dda9ce0b7c59e5dcad40e368f1b0fd41052c9f"), looks := true }, kinds := [], alts := [], laidByText := true, laidKinds := [.data, .data, .data, .sentinel, .sentinel], laidTests := true, laidLooks := .later }
def ProgJoinsUptoCardSaid : Prop := Claim7.holds Tryz.pinned (.plain (OpenSpec.upto progJoinsSpec)) progJoinsUptoCard

/-- THE SECOND FORM's CARD OF 'phalaropelaw13.ProgLits'. -/
def progLitsUptoCard : Claim7 := { stood := { row := progLitsUptoRow, standIns := [], harness := (true, "f3ef785f2b532d61e6b97717b2dda9ce0b7c59e5dcad40e368f1b0fd41052c9f"), looks := true }, kinds := [], alts := [], laidByText := true, laidKinds := [.data, .data, .data, .sentinel, .sentinel], laidTests := true, laidLooks := .later }
def ProgLitsUptoCardSaid : Prop := Claim7.holds Tryz.pinned (.plain (OpenSpec.upto progLitsSpec)) progLitsUptoCard

/-- THE SECOND FORM's CARD OF 'phalaropelaw13.ProgSame'. -/
def progSameUptoCard : Claim7 := { stood := { row := progSameUptoRow, standIns := [], harness := (true, "f3ef785f2b532d61e6b97717b2dda9ce0b7c59e5dcad40e368f1b0fd41052c9f"), looks := true }, kinds := [], alts := [], laidByText := true, laidKinds := [.data, .data, .data, .sentinel, .sentinel], laidTests := true, laidLooks := .later }
def ProgSameUptoCardSaid : Prop := Claim7.holds Tryz.pinned (.plain (OpenSpec.upto progSameSpec)) progSameUptoCard
end Rows
end Go.Proofs.YtlocbpaikdgmbaaGreatDoor
