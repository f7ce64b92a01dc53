/-
  DERIVED. GIVEN WITH THE SEED: THE CARDS: each row of YtnednnnegofhkaaDoorRows.lean that lists a variable, with what it lists TIED to the program's text (the seventh form; the later family's looks); each row that meets fmt, with fmt's text TOLD by the authors' own Lean function (tested against real Go, not proved from fmt's source: count such statements apart). THE CARD IS WHAT COUNTS. Prove the row's statement (the work); the ties are given (YtnednnnegofhkaaDoorTie.lean); close each card by the builder's one call (the guide's Derived/Test/ToyasCard.lean, 'card_holds'). Laid BY PROGRAM, IN A SANDBOX (cutbox-door.mjs). By AI agents, Wed Nov 11 2026. No macro, syntax, notation, axiom, sorry.
-/
import Derived.Test.YtnednnnegofhkaaDoorRows
import GoSem.ClaimSeven
namespace Go.Proofs.YtnednnnegofhkaaDoor
namespace Rows

/-- THE TIED CARD OF 'laws.FnTblOk'. -/
def fnTblOkCard : Claim7 := { stood := { row := fnTblOkRow, standIns := [], harness := (true, "4fcdb145af344039f564b7ee773dc8a9167504a38939625334c9bc2bb39ed9fa"), looks := false }, kinds := [], alts := [], laidByText := true, laidKinds := [.data, .pinned], laidTests := true, laidLooks := .later }
def FnTblOkCardSaid : Prop := Claim7.holds Tryd.pinned (.plain (OpenSpec.ofChange fnTblOkSpec)) fnTblOkCard

/-- THE TIED CARD OF 'laws.FnTblPart'. -/
def fnTblPartCard : Claim7 := { stood := { row := fnTblPartRow, standIns := [], harness := (true, "4fcdb145af344039f564b7ee773dc8a9167504a38939625334c9bc2bb39ed9fa"), looks := false }, kinds := [], alts := [], laidByText := true, laidKinds := [.data, .pinned], laidTests := true, laidLooks := .later }
def FnTblPartCardSaid : Prop := Claim7.holds Tryd.pinned (.plain (OpenSpec.ofChange fnTblPartSpec)) fnTblPartCard

/-- THE TIED CARD OF 'laws.FnTblCells'. -/
def fnTblCellsCard : Claim7 := { stood := { row := fnTblCellsRow, standIns := [], harness := (true, "4fcdb145af344039f564b7ee773dc8a9167504a38939625334c9bc2bb39ed9fa"), looks := false }, kinds := [], alts := [], laidByText := true, laidKinds := [.data, .pinned], laidTests := true, laidLooks := .later }
def FnTblCellsCardSaid : Prop := Claim7.holds Tryd.pinned (.plain (OpenSpec.ofChange fnTblCellsSpec)) fnTblCellsCard

/-- THE SECOND FORM's CARD OF 'laws.FnTblOk'. -/
def fnTblOkUptoCard : Claim7 := { stood := { row := fnTblOkUptoRow, standIns := [], harness := (true, "4fcdb145af344039f564b7ee773dc8a9167504a38939625334c9bc2bb39ed9fa"), looks := false }, kinds := [], alts := [], laidByText := true, laidKinds := [.data, .pinned], laidTests := true, laidLooks := .later }
def FnTblOkUptoCardSaid : Prop := Claim7.holds Tryd.pinned (.plain (OpenSpec.upto fnTblOkSpec)) fnTblOkUptoCard

/-- THE SECOND FORM's CARD OF 'laws.FnTblPart'. -/
def fnTblPartUptoCard : Claim7 := { stood := { row := fnTblPartUptoRow, standIns := [], harness := (true, "4fcdb145af344039f564b7ee773dc8a9167504a38939625334c9bc2bb39ed9fa"), looks := false }, kinds := [], alts := [], laidByText := true, laidKinds := [.data, .pinned], laidTests := true, laidLooks := .later }
def FnTblPartUptoCardSaid : Prop := Claim7.holds Tryd.pinned (.plain (OpenSpec.upto fnTblPartSpec)) fnTblPartUptoCard

/-- THE SECOND FORM's CARD OF 'laws.FnTblCells'. -/
def fnTblCellsUptoCard : Claim7 := { stood := { row := fnTblCellsUptoRow, standIns := [], harness := (true, "4fcdb145af344039f564b7ee773dc8a9167504a38939625334c9bc2bb39ed9fa"), looks := false }, kinds := [], alts := [], laidByText := true, laidKinds := [.data, .pinned], laidTests := true, laidLooks := .later }
def FnTblCellsUptoCardSaid : Prop := Claim7.holds Tryd.pinned (.plain (OpenSpec.upto fnTblCellsSpec)) fnTblCellsUptoCard
end Rows
end Go.Proofs.YtnednnnegofhkaaDoor
