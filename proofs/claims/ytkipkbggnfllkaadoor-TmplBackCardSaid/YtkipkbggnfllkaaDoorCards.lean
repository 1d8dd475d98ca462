/-
  DERIVED. GIVEN WITH THE SEED: THE CARDS: each row of YtkipkbggnfllkaaDoorRows.lean that lists a variable, with what it lists TIED to the program's text (the seventh form; the later family's looks); each row that meets fmt, with fmt's text TOLD by the authors' own Lean function (tested against real Go, not proved from fmt's source: count such statements apart). THE CARD IS WHAT COUNTS. Prove the row's statement (the work); the ties are given (YtkipkbggnfllkaaDoorTie.lean); close each card by the builder's one call (the guide's Derived/Test/ToyasCard.lean, 'card_holds'). Laid BY PROGRAM, IN A SANDBOX (cutbox-door.mjs). By AI agents, Wed Nov 11 2026. No macro, syntax, notation, axiom, sorry.
-/
import Derived.Test.YtkipkbggnfllkaaDoorRows
import GoSem.ClaimSeven
namespace Go.Proofs.YtkipkbggnfllkaaDoor
namespace Rows

/-- THE TIED CARD OF 'phalaropelaw07.TmplBegins'. -/
def tmplBeginsCard : Claim7 := { stood := { row := tmplBeginsRow, standIns := [], harness := (true, "df6acfe58ddbe3ebe04806c47197d261dc1152fdcd4219cee9cfafbf69fd01f3"), looks := true }, kinds := [], alts := [], laidByText := true, laidKinds := [.data, .data, .data, .sentinel, .sentinel], laidTests := true, laidLooks := .later }
def TmplBeginsCardSaid : Prop := Claim7.holds Tryd.pinned (.plain (OpenSpec.ofChange tmplBeginsSpec)) tmplBeginsCard

/-- THE TIED CARD OF 'phalaropelaw07.TmplReserved'. -/
def tmplReservedCard : Claim7 := { stood := { row := tmplReservedRow, standIns := [], harness := (true, "df6acfe58ddbe3ebe04806c47197d261dc1152fdcd4219cee9cfafbf69fd01f3"), looks := true }, kinds := [], alts := [], laidByText := true, laidKinds := [.data, .data, .data, .sentinel, .sentinel], laidTests := true, laidLooks := .later }
def TmplReservedCardSaid : Prop := Claim7.holds Tryd.pinned (.plain (OpenSpec.ofChange tmplReservedSpec)) tmplReservedCard

/-- THE TIED CARD OF 'phalaropelaw07.TmplJoins'. -/
def tmplJoinsCard : Claim7 := { stood := { row := tmplJoinsRow, standIns := [], harness := (true, "df6acfe58ddbe3ebe04806c47197d261dc1152fdcd4219cee9cfafbf69fd01f3"), looks := true }, kinds := [], alts := [], laidByText := true, laidKinds := [.data, .data, .data, .sentinel, .sentinel], laidTests := true, laidLooks := .later }
def TmplJoinsCardSaid : Prop := Claim7.holds Tryd.pinned (.plain (OpenSpec.ofChange tmplJoinsSpec)) tmplJoinsCard

/-- THE TIED CARD OF 'phalaropelaw07.TmplBack'. -/
def tmplBackCard : Claim7 := { stood := { row := tmplBackRow, standIns := [], harness := (true, "df6acfe58ddbe3ebe04806c47197d261dc1152fdcd4219cee9cfafbf69fd01f3"), looks := true }, kinds := [], alts := [], laidByText := true, laidKinds := [.data, .data, .data, .sentinel, .sentinel], laidTests := true, laidLooks := .later }
def TmplBackCardSaid : Prop := Claim7.holds Tryd.pinned (.plain (OpenSpec.ofChange tmplBackSpec)) tmplBackCard

/-- THE SECOND FORM's CARD OF 'phalaropelaw07.TmplBegins'. -/
def tmplBeginsUptoCard : Claim7 := { stood := { row := tmplBeginsUptoRow, standIns := [], harness := (true, "df6acfe58ddbe3ebe04806c47197d261dc1152fdcd4219cee9cfafbf69fd01f3"), looks := true }, kinds := [], alts := [], laidByText := true, laidKinds := [.data, .data, .data, .sentinel, .sentinel], laidTests := true, laidLooks := .later }
def TmplBeginsUptoCardSaid : Prop := Claim7.holds Tryd.pinned (.plain (OpenSpec.upto tmplBeginsSpec)) tmplBeginsUptoCard

/-- THE SECOND FORM's CARD OF 'phalaropelaw07.TmplReserved'. -/
def tmplReservedUptoCard : Claim7 := { stood := { row := tmplReservedUptoRow, standIns := [], harness := (true, "df6acfe58ddbe3ebe04806c47197d261dc1152fdcd4219cee9cfafbf69fd01f3"), looks := true }, kinds := [], alts := [], laidByText := true, laidKinds := [.data, .data, .data, .sentinel, .sentinel], laidTests := true, laidLooks := .later }
def TmplReservedUptoCardSaid : Prop := Claim7.holds Tryd.pinned (.plain (OpenSpec.upto tmplReservedSpec)) tmplReservedUptoCard

/-- THE SECOND FORM's CARD OF 'phalaropelaw07.TmplJoins'. -/
def tmplJoinsUptoCard : Claim7 := { stood := { row := tmplJoinsUptoRow, standIns := [], harness := (true, "df6acfe58ddbe3ebe04806c47197d261dc1152fdcd4219cee9cfafbf69fd01f3"), looks := true }, kinds := [], alts := [], laidByText := true, laidKinds := [.data, .data, .data, .sentinel, .sentinel], laidTests := true, laidLooks := .later }
def TmplJoinsUptoCardSaid : Prop := Claim7.holds Tryd.pinned (.plain (OpenSpec.upto tmplJoinsSpec)) tmplJoinsUptoCard

/-- THE SECOND FORM's CARD OF 'phalaropelaw07.TmplBack'. -/
def tmplBackUptoCard : Claim7 := { stood := { row := tmplBackUptoRow, standIns := [], harness := (true, "df6acfe58ddbe3ebe04806c47197d261dc1152fdcd4219cee9cfafbf69fd01f3"), looks := true }, kinds := [], alts := [], laidByText := true, laidKinds := [.data, .data, .data, .sentinel, .sentinel], laidTests := true, laidLooks := .later }
def TmplBackUptoCardSaid : Prop := Claim7.holds Tryd.pinned (.plain (OpenSpec.upto tmplBackSpec)) tmplBackUptoCard
end Rows
end Go.Proofs.YtkipkbggnfllkaaDoor
