/-
  DERIVED. GIVEN WITH THE SEED: THE CARDS: each row of YtnalfnoebhmijaaDoorRows.lean that lists a variable, with what it lists TIED to the program's text (the seventh form; the later family's looks); each row that meets fmt, with fmt's text TOLD by the authors' own Lean function (tested against real Go, not proved from fmt's source: count such statements apart). THE CARD IS WHAT COUNTS. Prove the row's statement (the work); the ties are given (YtnalfnoebhmijaaDoorTie.lean); close each card by the builder's one call (the guide's Derived/Test/ToyasCard.lean, 'card_holds'). Laid BY PROGRAM, IN A SANDBOX (cutbox-door.mjs). By AI agents, Wed Nov 11 2026. No macro, syntax, notation, axiom, sorry.
-/
import Derived.Test.YtnalfnoebhmijaaDoorRows
import GoSem.ClaimSeven
namespace Go.Proofs.YtnalfnoebhmijaaDoor
namespace Rows

/-- THE TIED CARD OF 'laws.FnGrdPlain'. -/
def fnGrdPlainCard : Claim7 := { stood := { row := fnGrdPlainRow, standIns := [], harness := (true, "04dbd65217bf7e231feacf04f05ee749684103c7cc548250a7ca76a03f600fcc"), looks := false }, kinds := [], alts := [], laidByText := true, laidKinds := [.data, .pinned], laidTests := true, laidLooks := .later }
def FnGrdPlainCardSaid : Prop := Claim7.holds Tryd.pinned (.plain (OpenSpec.ofChange fnGrdPlainSpec)) fnGrdPlainCard

/-- THE TIED CARD OF 'laws.FnGrdFind'. -/
def fnGrdFindCard : Claim7 := { stood := { row := fnGrdFindRow, standIns := [], harness := (true, "04dbd65217bf7e231feacf04f05ee749684103c7cc548250a7ca76a03f600fcc"), looks := false }, kinds := [], alts := [], laidByText := true, laidKinds := [.data, .pinned], laidTests := true, laidLooks := .later }
def FnGrdFindCardSaid : Prop := Claim7.holds Tryd.pinned (.plain (OpenSpec.ofChange fnGrdFindSpec)) fnGrdFindCard

/-- THE TIED CARD OF 'laws.FnGrdBlocks'. -/
def fnGrdBlocksCard : Claim7 := { stood := { row := fnGrdBlocksRow, standIns := [], harness := (true, "04dbd65217bf7e231feacf04f05ee749684103c7cc548250a7ca76a03f600fcc"), looks := false }, kinds := [], alts := [], laidByText := true, laidKinds := [.data, .pinned], laidTests := true, laidLooks := .later }
def FnGrdBlocksCardSaid : Prop := Claim7.holds Tryd.pinned (.plain (OpenSpec.ofChange fnGrdBlocksSpec)) fnGrdBlocksCard

/-- THE TIED CARD OF 'laws.FnGrdFirst'. -/
def fnGrdFirstCard : Claim7 := { stood := { row := fnGrdFirstRow, standIns := [], harness := (true, "04dbd65217bf7e231feacf04f05ee749684103c7cc548250a7ca76a03f600fcc"), looks := false }, kinds := [], alts := [], laidByText := true, laidKinds := [.data, .pinned], laidTests := true, laidLooks := .later }
def FnGrdFirstCardSaid : Prop := Claim7.holds Tryd.pinned (.plain (OpenSpec.ofChange fnGrdFirstSpec)) fnGrdFirstCard

/-- THE SECOND FORM's CARD OF 'laws.FnGrdPlain'. -/
def fnGrdPlainUptoCard : Claim7 := { stood := { row := fnGrdPlainUptoRow, standIns := [], harness := (true, "04dbd65217bf7e231feacf04f05ee749684103c7cc548250a7ca76a03f600fcc"), looks := false }, kinds := [], alts := [], laidByText := true, laidKinds := [.data, .pinned], laidTests := true, laidLooks := .later }
def FnGrdPlainUptoCardSaid : Prop := Claim7.holds Tryd.pinned (.plain (OpenSpec.upto fnGrdPlainSpec)) fnGrdPlainUptoCard

/-- THE SECOND FORM's CARD OF 'laws.FnGrdFind'. -/
def fnGrdFindUptoCard : Claim7 := { stood := { row := fnGrdFindUptoRow, standIns := [], harness := (true, "04dbd65217bf7e231feacf04f05ee749684103c7cc548250a7ca76a03f600fcc"), looks := false }, kinds := [], alts := [], laidByText := true, laidKinds := [.data, .pinned], laidTests := true, laidLooks := .later }
def FnGrdFindUptoCardSaid : Prop := Claim7.holds Tryd.pinned (.plain (OpenSpec.upto fnGrdFindSpec)) fnGrdFindUptoCard

/-- THE SECOND FORM's CARD OF 'laws.FnGrdBlocks'. -/
def fnGrdBlocksUptoCard : Claim7 := { stood := { row := fnGrdBlocksUptoRow, standIns := [], harness := (true, "04dbd65217bf7e231feacf04f05ee749684103c7cc548250a7ca76a03f600fcc"), looks := false }, kinds := [], alts := [], laidByText := true, laidKinds := [.data, .pinned], laidTests := true, laidLooks := .later }
def FnGrdBlocksUptoCardSaid : Prop := Claim7.holds Tryd.pinned (.plain (OpenSpec.upto fnGrdBlocksSpec)) fnGrdBlocksUptoCard

/-- THE SECOND FORM's CARD OF 'laws.FnGrdFirst'. -/
def fnGrdFirstUptoCard : Claim7 := { stood := { row := fnGrdFirstUptoRow, standIns := [], harness := (true, "04dbd65217bf7e231feacf04f05ee749684103c7cc548250a7ca76a03f600fcc"), looks := false }, kinds := [], alts := [], laidByText := true, laidKinds := [.data, .pinned], laidTests := true, laidLooks := .later }
def FnGrdFirstUptoCardSaid : Prop := Claim7.holds Tryd.pinned (.plain (OpenSpec.upto fnGrdFirstSpec)) fnGrdFirstUptoCard
end Rows
end Go.Proofs.YtnalfnoebhmijaaDoor
