/-
  DERIVED. GIVEN WITH THE SEED: THE CARDS: each row of YtemcdfkmpikegaaDoorRows.lean that lists a variable, with what it lists TIED to the program's text (the seventh form; the later family's looks); each row that meets fmt, with fmt's text TOLD by the authors' own Lean function (tested against real Go, not proved from fmt's source: count such statements apart). THE CARD IS WHAT COUNTS. Prove the row's statement (the work); the ties are given (YtemcdfkmpikegaaDoorTie.lean); close each card by the builder's one call (the guide's Derived/Test/ToyasCard.lean, 'card_holds'). Laid BY PROGRAM, IN A SANDBOX (cutbox-door.mjs). By AI agents, Wed Nov 11 2026. No macro, syntax, notation, axiom, sorry.
-/
import Derived.Test.YtemcdfkmpikegaaDoorRows
import GoSem.ClaimSeven
namespace Go.Proofs.YtemcdfkmpikegaaDoor
namespace Rows

/-- THE TIED CARD OF 'laws.FnExactTblOk'. -/
def fnExactTblOkCard : Claim7 := { stood := { row := fnExactTblOkRow, standIns := [], harness := (true, "29c0ca91e072c5382de7c7d3f051b4bc8562e4f2285b66d29c6289374ed11205"), looks := false }, kinds := [], alts := [], laidByText := true, laidKinds := [.data, .pinned], laidTests := true, laidLooks := .later }
def FnExactTblOkCardSaid : Prop := Claim7.holds Tryd.pinned (.plain (OpenSpec.ofChange fnExactTblOkSpec)) fnExactTblOkCard

/-- THE TIED CARD OF 'laws.FnExactTblPart'. -/
def fnExactTblPartCard : Claim7 := { stood := { row := fnExactTblPartRow, standIns := [], harness := (true, "29c0ca91e072c5382de7c7d3f051b4bc8562e4f2285b66d29c6289374ed11205"), looks := false }, kinds := [], alts := [], laidByText := true, laidKinds := [.data, .pinned], laidTests := true, laidLooks := .later }
def FnExactTblPartCardSaid : Prop := Claim7.holds Tryd.pinned (.plain (OpenSpec.ofChange fnExactTblPartSpec)) fnExactTblPartCard

/-- THE SECOND FORM's CARD OF 'laws.FnExactTblOk'. -/
def fnExactTblOkUptoCard : Claim7 := { stood := { row := fnExactTblOkUptoRow, standIns := [], harness := (true, "29c0ca91e072c5382de7c7d3f051b4bc8562e4f2285b66d29c6289374ed11205"), looks := false }, kinds := [], alts := [], laidByText := true, laidKinds := [.data, .pinned], laidTests := true, laidLooks := .later }
def FnExactTblOkUptoCardSaid : Prop := Claim7.holds Tryd.pinned (.plain (OpenSpec.upto fnExactTblOkSpec)) fnExactTblOkUptoCard

/-- THE SECOND FORM's CARD OF 'laws.FnExactTblPart'. -/
def fnExactTblPartUptoCard : Claim7 := { stood := { row := fnExactTblPartUptoRow, standIns := [], harness := (true, "29c0ca91e072c5382de7c7d3f051b4bc8562e4f2285b66d29c6289374ed11205"), looks := false }, kinds := [], alts := [], laidByText := true, laidKinds := [.data, .pinned], laidTests := true, laidLooks := .later }
def FnExactTblPartUptoCardSaid : Prop := Claim7.holds Tryd.pinned (.plain (OpenSpec.upto fnExactTblPartSpec)) fnExactTblPartUptoCard
end Rows
end Go.Proofs.YtemcdfkmpikegaaDoor
