/-
  DERIVED. GIVEN WITH THE SEED: THE CARDS: each row of YtkipkbggnfllkaaGreatDoorRows.lean that lists a variable, with what it lists TIED to the program's text (the seventh form; the later family's looks); each row that meets fmt, with fmt's text TOLD by the authors' own Lean function (tested against real Go, not proved from fmt's source: count such statements apart). THE CARD IS WHAT COUNTS. Prove the row's statement (the work); the ties are given (YtkipkbggnfllkaaGreatDoorTie.lean); close each card by the builder's one call (the guide's Derived/Test/ToyasCard.lean, 'card_holds'). Laid BY PROGRAM, IN A SANDBOX (cutbox-door.mjs). By AI agents, Wed Nov 11 2026. No macro, syntax, notation, axiom, sorry.
-/
import Derived.Test.YtkipkbggnfllkaaGreatDoorRows
import GoSem.ClaimSeven
namespace Go.Proofs.YtkipkbggnfllkaaGreatDoor
namespace Rows

/-- THE TIED CARD OF 'phalaropelaw07.TmplParses'. -/
def tmplParsesCard : Claim7 := { stood := { row := tmplParsesRow, standIns := [], harness := (true, "ae339d0ffd9aad1dda9d1cc2b33bd6c29f12b946c6a0ecdf56e7b6ed8b6be670"), looks := true }, kinds := [], alts := [], laidByText := true, laidKinds := [.data, .data, .data, .sentinel, .sentinel], laidTests := true, laidLooks := .later }
def TmplParsesCardSaid : Prop := Claim7.holds Tryz.pinned (.plain (OpenSpec.ofChange tmplParsesSpec)) tmplParsesCard

/-- THE TIED CARD OF 'phalaropelaw07.TmplTells'. -/
def tmplTellsCard : Claim7 := { stood := { row := tmplTellsRow, standIns := [], harness := (true, "ae339d0ffd9aad1dda9d1cc2b33bd6c29f12b946c6a0ecdf56e7b6ed8b6be670"), looks := true }, kinds := [], alts := [], laidByText := true, laidKinds := [.data, .data, .data, .sentinel, .sentinel], laidTests := true, laidLooks := .later }
def TmplTellsCardSaid : Prop := Claim7.holds Tryz.pinned (.plain (OpenSpec.ofChange tmplTellsSpec)) tmplTellsCard

/-- THE SECOND FORM's CARD OF 'phalaropelaw07.TmplParses'. -/
def tmplParsesUptoCard : Claim7 := { stood := { row := tmplParsesUptoRow, standIns := [], harness := (true, "ae339d0ffd9aad1dda9d1cc2b33bd6c29f12b946c6a0ecdf56e7b6ed8b6be670"), looks := true }, kinds := [], alts := [], laidByText := true, laidKinds := [.data, .data, .data, .sentinel, .sentinel], laidTests := true, laidLooks := .later }
def TmplParsesUptoCardSaid : Prop := Claim7.holds Tryz.pinned (.plain (OpenSpec.upto tmplParsesSpec)) tmplParsesUptoCard

/-- THE SECOND FORM's CARD OF 'phalaropelaw07.TmplTells'. -/
def tmplTellsUptoCard : Claim7 := { stood := { row := tmplTellsUptoRow, standIns := [], harness := (true, "ae339d0ffd9aad1dda9d1cc2b33bd6c29f12b946c6a0ecdf56e7b6ed8b6be670"), looks := true }, kinds := [], alts := [], laidByText := true, laidKinds := [.data, .data, .data, .sentinel, .sentinel], laidTests := true, laidLooks := .later }
def TmplTellsUptoCardSaid : Prop := Claim7.holds Tryz.pinned (.plain (OpenSpec.upto tmplTellsSpec)) tmplTellsUptoCard
end Rows
end Go.Proofs.YtkipkbggnfllkaaGreatDoor
