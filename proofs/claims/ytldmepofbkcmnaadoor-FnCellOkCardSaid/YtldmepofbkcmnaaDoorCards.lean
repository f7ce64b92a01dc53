/-
  DERIVED. GIVEN WITH THE SEED: THE CARDS: each row of YtldmepofbkcmnaaDoorRows.lean that lists a variable, with what it lists TIED to the program's text (the seventh form; the later family's looks); each row that meets fmt, with fmt's text TOLD by the authors' own Lean function (tested against real Go, not proved from fmt's source: count such statements apart). THE CARD IS WHAT COUNTS. Prove the row's statement (the work); the ties are given (YtldmepofbkcmnaaDoorTie.lean); close each card by the builder's one call (the guide's Derived/Test/ToyasCard.lean, 'card_holds'). Laid BY PROGRAM, IN A SANDBOX (cutbox-door.mjs). By AI agents, Wed Nov 11 2026. No macro, syntax, notation, axiom, sorry.
-/
import Derived.Test.YtldmepofbkcmnaaDoorRows
import GoSem.ClaimSeven
namespace Go.Proofs.YtldmepofbkcmnaaDoor
namespace Rows

/-- THE TIED CARD OF 'laws.FnTxtLeast'. -/
def fnTxtLeastCard : Claim7 := { stood := { row := fnTxtLeastRow, standIns := [], harness := (true, "11d016949b570fd0bb5bbc8ef8b5baac8bd6317f281889aa65efae837834fe7e"), looks := false }, kinds := [], alts := [], laidByText := true, laidKinds := [.data, .pinned], laidTests := true, laidLooks := .later }
def FnTxtLeastCardSaid : Prop := Claim7.holds Tryd.pinned (.plain (OpenSpec.ofChange fnTxtLeastSpec)) fnTxtLeastCard

/-- THE TIED CARD OF 'laws.FnTxtGreedy'. -/
def fnTxtGreedyCard : Claim7 := { stood := { row := fnTxtGreedyRow, standIns := [], harness := (true, "11d016949b570fd0bb5bbc8ef8b5baac8bd6317f281889aa65efae837834fe7e"), looks := false }, kinds := [], alts := [], laidByText := true, laidKinds := [.data, .pinned], laidTests := true, laidLooks := .later }
def FnTxtGreedyCardSaid : Prop := Claim7.holds Tryd.pinned (.plain (OpenSpec.ofChange fnTxtGreedySpec)) fnTxtGreedyCard

/-- THE TIED CARD OF 'laws.FnTxtMore'. -/
def fnTxtMoreCard : Claim7 := { stood := { row := fnTxtMoreRow, standIns := [], harness := (true, "11d016949b570fd0bb5bbc8ef8b5baac8bd6317f281889aa65efae837834fe7e"), looks := false }, kinds := [], alts := [], laidByText := true, laidKinds := [.data, .pinned], laidTests := true, laidLooks := .later }
def FnTxtMoreCardSaid : Prop := Claim7.holds Tryd.pinned (.plain (OpenSpec.ofChange fnTxtMoreSpec)) fnTxtMoreCard

/-- THE TIED CARD OF 'laws.FnTxtWider'. -/
def fnTxtWiderCard : Claim7 := { stood := { row := fnTxtWiderRow, standIns := [], harness := (true, "11d016949b570fd0bb5bbc8ef8b5baac8bd6317f281889aa65efae837834fe7e"), looks := false }, kinds := [], alts := [], laidByText := true, laidKinds := [.data, .pinned], laidTests := true, laidLooks := .later }
def FnTxtWiderCardSaid : Prop := Claim7.holds Tryd.pinned (.plain (OpenSpec.ofChange fnTxtWiderSpec)) fnTxtWiderCard

/-- THE TIED CARD OF 'laws.FnTxtWords'. -/
def fnTxtWordsCard : Claim7 := { stood := { row := fnTxtWordsRow, standIns := [], harness := (true, "11d016949b570fd0bb5bbc8ef8b5baac8bd6317f281889aa65efae837834fe7e"), looks := false }, kinds := [], alts := [], laidByText := true, laidKinds := [.data, .pinned], laidTests := true, laidLooks := .later }
def FnTxtWordsCardSaid : Prop := Claim7.holds Tryd.pinned (.plain (OpenSpec.ofChange fnTxtWordsSpec)) fnTxtWordsCard

/-- THE TIED CARD OF 'laws.FnTxtLines'. -/
def fnTxtLinesCard : Claim7 := { stood := { row := fnTxtLinesRow, standIns := [], harness := (true, "11d016949b570fd0bb5bbc8ef8b5baac8bd6317f281889aa65efae837834fe7e"), looks := false }, kinds := [], alts := [], laidByText := true, laidKinds := [.data, .pinned], laidTests := true, laidLooks := .later }
def FnTxtLinesCardSaid : Prop := Claim7.holds Tryd.pinned (.plain (OpenSpec.ofChange fnTxtLinesSpec)) fnTxtLinesCard

/-- THE TIED CARD OF 'laws.FnCellOk'. -/
def fnCellOkCard : Claim7 := { stood := { row := fnCellOkRow, standIns := [], harness := (true, "11d016949b570fd0bb5bbc8ef8b5baac8bd6317f281889aa65efae837834fe7e"), looks := false }, kinds := [], alts := [], laidByText := true, laidKinds := [.data, .pinned], laidTests := true, laidLooks := .later }
def FnCellOkCardSaid : Prop := Claim7.holds Tryd.pinned (.plain (OpenSpec.ofChange fnCellOkSpec)) fnCellOkCard

/-- THE TIED CARD OF 'laws.FnExactCellOk'. -/
def fnExactCellOkCard : Claim7 := { stood := { row := fnExactCellOkRow, standIns := [], harness := (true, "11d016949b570fd0bb5bbc8ef8b5baac8bd6317f281889aa65efae837834fe7e"), looks := false }, kinds := [], alts := [], laidByText := true, laidKinds := [.data, .pinned], laidTests := true, laidLooks := .later }
def FnExactCellOkCardSaid : Prop := Claim7.holds Tryd.pinned (.plain (OpenSpec.ofChange fnExactCellOkSpec)) fnExactCellOkCard

/-- THE SECOND FORM's CARD OF 'laws.FnTxtLeast'. -/
def fnTxtLeastUptoCard : Claim7 := { stood := { row := fnTxtLeastUptoRow, standIns := [], harness := (true, "11d016949b570fd0bb5bbc8ef8b5baac8bd6317f281889aa65efae837834fe7e"), looks := false }, kinds := [], alts := [], laidByText := true, laidKinds := [.data, .pinned], laidTests := true, laidLooks := .later }
def FnTxtLeastUptoCardSaid : Prop := Claim7.holds Tryd.pinned (.plain (OpenSpec.upto fnTxtLeastSpec)) fnTxtLeastUptoCard

/-- THE SECOND FORM's CARD OF 'laws.FnTxtGreedy'. -/
def fnTxtGreedyUptoCard : Claim7 := { stood := { row := fnTxtGreedyUptoRow, standIns := [], harness := (true, "11d016949b570fd0bb5bbc8ef8b5baac8bd6317f281889aa65efae837834fe7e"), looks := false }, kinds := [], alts := [], laidByText := true, laidKinds := [.data, .pinned], laidTests := true, laidLooks := .later }
def FnTxtGreedyUptoCardSaid : Prop := Claim7.holds Tryd.pinned (.plain (OpenSpec.upto fnTxtGreedySpec)) fnTxtGreedyUptoCard

/-- THE SECOND FORM's CARD OF 'laws.FnTxtMore'. -/
def fnTxtMoreUptoCard : Claim7 := { stood := { row := fnTxtMoreUptoRow, standIns := [], harness := (true, "11d016949b570fd0bb5bbc8ef8b5baac8bd6317f281889aa65efae837834fe7e"), looks := false }, kinds := [], alts := [], laidByText := true, laidKinds := [.data, .pinned], laidTests := true, laidLooks := .later }
def FnTxtMoreUptoCardSaid : Prop := Claim7.holds Tryd.pinned (.plain (OpenSpec.upto fnTxtMoreSpec)) fnTxtMoreUptoCard

/-- THE SECOND FORM's CARD OF 'laws.FnTxtWider'. -/
def fnTxtWiderUptoCard : Claim7 := { stood := { row := fnTxtWiderUptoRow, standIns := [], harness := (true, "11d016949b570fd0bb5bbc8ef8b5baac8bd6317f281889aa65efae837834fe7e"), looks := false }, kinds := [], alts := [], laidByText := true, laidKinds := [.data, .pinned], laidTests := true, laidLooks := .later }
def FnTxtWiderUptoCardSaid : Prop := Claim7.holds Tryd.pinned (.plain (OpenSpec.upto fnTxtWiderSpec)) fnTxtWiderUptoCard

/-- THE SECOND FORM's CARD OF 'laws.FnTxtWords'. -/
def fnTxtWordsUptoCard : Claim7 := { stood := { row := fnTxtWordsUptoRow, standIns := [], harness := (true, "11d016949b570fd0bb5bbc8ef8b5baac8bd6317f281889aa65efae837834fe7e"), looks := false }, kinds := [], alts := [], laidByText := true, laidKinds := [.data, .pinned], laidTests := true, laidLooks := .later }
def FnTxtWordsUptoCardSaid : Prop := Claim7.holds Tryd.pinned (.plain (OpenSpec.upto fnTxtWordsSpec)) fnTxtWordsUptoCard

/-- THE SECOND FORM's CARD OF 'laws.FnTxtLines'. -/
def fnTxtLinesUptoCard : Claim7 := { stood := { row := fnTxtLinesUptoRow, standIns := [], harness := (true, "11d016949b570fd0bb5bbc8ef8b5baac8bd6317f281889aa65efae837834fe7e"), looks := false }, kinds := [], alts := [], laidByText := true, laidKinds := [.data, .pinned], laidTests := true, laidLooks := .later }
def FnTxtLinesUptoCardSaid : Prop := Claim7.holds Tryd.pinned (.plain (OpenSpec.upto fnTxtLinesSpec)) fnTxtLinesUptoCard

/-- THE SECOND FORM's CARD OF 'laws.FnCellOk'. -/
def fnCellOkUptoCard : Claim7 := { stood := { row := fnCellOkUptoRow, standIns := [], harness := (true, "11d016949b570fd0bb5bbc8ef8b5baac8bd6317f281889aa65efae837834fe7e"), looks := false }, kinds := [], alts := [], laidByText := true, laidKinds := [.data, .pinned], laidTests := true, laidLooks := .later }
def FnCellOkUptoCardSaid : Prop := Claim7.holds Tryd.pinned (.plain (OpenSpec.upto fnCellOkSpec)) fnCellOkUptoCard

/-- THE SECOND FORM's CARD OF 'laws.FnExactCellOk'. -/
def fnExactCellOkUptoCard : Claim7 := { stood := { row := fnExactCellOkUptoRow, standIns := [], harness := (true, "11d016949b570fd0bb5bbc8ef8b5baac8bd6317f281889aa65efae837834fe7e"), looks := false }, kinds := [], alts := [], laidByText := true, laidKinds := [.data, .pinned], laidTests := true, laidLooks := .later }
def FnExactCellOkUptoCardSaid : Prop := Claim7.holds Tryd.pinned (.plain (OpenSpec.upto fnExactCellOkSpec)) fnExactCellOkUptoCard
end Rows
end Go.Proofs.YtldmepofbkcmnaaDoor
