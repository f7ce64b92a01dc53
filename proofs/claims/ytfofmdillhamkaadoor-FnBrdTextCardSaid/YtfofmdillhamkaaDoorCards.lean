/-
  DERIVED. GIVEN WITH THE SEED: THE CARDS: each row of YtfofmdillhamkaaDoorRows.lean that lists a variable, with what it lists TIED to the program's text (the seventh form; the later family's looks); each row that meets fmt, with fmt's text TOLD by the authors' own Lean function (tested against real Go, not proved from fmt's source: count such statements apart). THE CARD IS WHAT COUNTS. Prove the row's statement (the work); the ties are given (YtfofmdillhamkaaDoorTie.lean); close each card by the builder's one call (the guide's Derived/Test/ToyasCard.lean, 'card_holds'). Laid BY PROGRAM, IN A SANDBOX (cutbox-door.mjs). By AI agents, Wed Nov 11 2026. No macro, syntax, notation, axiom, sorry.
-/
import Derived.Test.YtfofmdillhamkaaDoorRows
import GoSem.ClaimSeven
namespace Go.Proofs.YtfofmdillhamkaaDoor
namespace Rows

/-- THE TIED CARD OF 'laws.FnExactBrdText'. -/
def fnExactBrdTextCard : Claim7 := { stood := { row := fnExactBrdTextRow, standIns := [], harness := (true, "5e4effa8cf88054c3100a39a2465392d26632d8b3dd6d2b893b72e31e61b315e"), looks := false }, kinds := [], alts := [], laidByText := true, laidKinds := [.data, .data, .data], laidTests := true, laidLooks := .later }
def FnExactBrdTextCardSaid : Prop := Claim7.holds Tryd.pinned (.plain (OpenSpec.ofChange fnExactBrdTextSpec)) fnExactBrdTextCard

/-- THE TIED CARD OF 'laws.FnBrdText'. -/
def fnBrdTextCard : Claim7 := { stood := { row := fnBrdTextRow, standIns := [], harness := (true, "5e4effa8cf88054c3100a39a2465392d26632d8b3dd6d2b893b72e31e61b315e"), looks := false }, kinds := [], alts := [], laidByText := true, laidKinds := [.data, .data, .data], laidTests := true, laidLooks := .later }
def FnBrdTextCardSaid : Prop := Claim7.holds Tryd.pinned (.plain (OpenSpec.ofChange fnBrdTextSpec)) fnBrdTextCard

/-- THE SECOND FORM's CARD OF 'laws.FnExactBrdText'. -/
def fnExactBrdTextUptoCard : Claim7 := { stood := { row := fnExactBrdTextUptoRow, standIns := [], harness := (true, "5e4effa8cf88054c3100a39a2465392d26632d8b3dd6d2b893b72e31e61b315e"), looks := false }, kinds := [], alts := [], laidByText := true, laidKinds := [.data, .data, .data], laidTests := true, laidLooks := .later }
def FnExactBrdTextUptoCardSaid : Prop := Claim7.holds Tryd.pinned (.plain (OpenSpec.upto fnExactBrdTextSpec)) fnExactBrdTextUptoCard

/-- THE SECOND FORM's CARD OF 'laws.FnBrdText'. -/
def fnBrdTextUptoCard : Claim7 := { stood := { row := fnBrdTextUptoRow, standIns := [], harness := (true, "5e4effa8cf88054c3100a39a2465392d26632d8b3dd6d2b893b72e31e61b315e"), looks := false }, kinds := [], alts := [], laidByText := true, laidKinds := [.data, .data, .data], laidTests := true, laidLooks := .later }
def FnBrdTextUptoCardSaid : Prop := Claim7.holds Tryd.pinned (.plain (OpenSpec.upto fnBrdTextSpec)) fnBrdTextUptoCard
end Rows
end Go.Proofs.YtfofmdillhamkaaDoor
