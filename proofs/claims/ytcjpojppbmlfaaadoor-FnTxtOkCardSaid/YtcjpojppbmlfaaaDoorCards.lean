/-
  DERIVED. GIVEN WITH THE SEED: THE CARDS: each row of YtcjpojppbmlfaaaDoorRows.lean that lists a variable, with what it lists TIED to the program's text (the seventh form; the later family's looks); each row that meets fmt, with fmt's text TOLD by the authors' own Lean function (tested against real Go, not proved from fmt's source: count such statements apart). THE CARD IS WHAT COUNTS. Prove the row's statement (the work); the ties are given (YtcjpojppbmlfaaaDoorTie.lean); close each card by the builder's one call (the guide's Derived/Test/ToyasCard.lean, 'card_holds'). Laid BY PROGRAM, IN A SANDBOX (cutbox-door.mjs). By AI agents, Wed Nov 11 2026. No macro, syntax, notation, axiom, sorry.
-/
import Derived.Test.YtcjpojppbmlfaaaDoorRows
import GoSem.ClaimSeven
namespace Go.Proofs.YtcjpojppbmlfaaaDoor
namespace Rows

/-- THE TIED CARD OF 'laws.FnShrSum'. -/
def fnShrSumCard : Claim7 := { stood := { row := fnShrSumRow, standIns := [], harness := (true, "7760035dd159466590ed127a70d18e8727da534d3bac32650ab08b2798def94f"), looks := false }, kinds := [], alts := [], laidByText := true, laidKinds := [.data, .pinned], laidTests := true, laidLooks := .later }
def FnShrSumCardSaid : Prop := Claim7.holds Tryd.pinned (.plain (OpenSpec.ofChange fnShrSumSpec)) fnShrSumCard

/-- THE TIED CARD OF 'laws.FnShrDue'. -/
def fnShrDueCard : Claim7 := { stood := { row := fnShrDueRow, standIns := [], harness := (true, "7760035dd159466590ed127a70d18e8727da534d3bac32650ab08b2798def94f"), looks := false }, kinds := [], alts := [], laidByText := true, laidKinds := [.data, .pinned], laidTests := true, laidLooks := .later }
def FnShrDueCardSaid : Prop := Claim7.holds Tryd.pinned (.plain (OpenSpec.ofChange fnShrDueSpec)) fnShrDueCard

/-- THE TIED CARD OF 'laws.FnShrOrder'. -/
def fnShrOrderCard : Claim7 := { stood := { row := fnShrOrderRow, standIns := [], harness := (true, "7760035dd159466590ed127a70d18e8727da534d3bac32650ab08b2798def94f"), looks := false }, kinds := [], alts := [], laidByText := true, laidKinds := [.data, .pinned], laidTests := true, laidLooks := .later }
def FnShrOrderCardSaid : Prop := Claim7.holds Tryd.pinned (.plain (OpenSpec.ofChange fnShrOrderSpec)) fnShrOrderCard

/-- THE TIED CARD OF 'laws.FnShrTimes'. -/
def fnShrTimesCard : Claim7 := { stood := { row := fnShrTimesRow, standIns := [], harness := (true, "7760035dd159466590ed127a70d18e8727da534d3bac32650ab08b2798def94f"), looks := false }, kinds := [], alts := [], laidByText := true, laidKinds := [.data, .pinned], laidTests := true, laidLooks := .later }
def FnShrTimesCardSaid : Prop := Claim7.holds Tryd.pinned (.plain (OpenSpec.ofChange fnShrTimesSpec)) fnShrTimesCard

/-- THE TIED CARD OF 'laws.FnExactTxtOk'. -/
def fnExactTxtOkCard : Claim7 := { stood := { row := fnExactTxtOkRow, standIns := [], harness := (true, "7760035dd159466590ed127a70d18e8727da534d3bac32650ab08b2798def94f"), looks := false }, kinds := [], alts := [], laidByText := true, laidKinds := [.data, .pinned], laidTests := true, laidLooks := .later }
def FnExactTxtOkCardSaid : Prop := Claim7.holds Tryd.pinned (.plain (OpenSpec.ofChange fnExactTxtOkSpec)) fnExactTxtOkCard

/-- THE TIED CARD OF 'laws.FnExactTxtWish'. -/
def fnExactTxtWishCard : Claim7 := { stood := { row := fnExactTxtWishRow, standIns := [], harness := (true, "7760035dd159466590ed127a70d18e8727da534d3bac32650ab08b2798def94f"), looks := false }, kinds := [], alts := [], laidByText := true, laidKinds := [.data, .pinned], laidTests := true, laidLooks := .later }
def FnExactTxtWishCardSaid : Prop := Claim7.holds Tryd.pinned (.plain (OpenSpec.ofChange fnExactTxtWishSpec)) fnExactTxtWishCard

/-- THE TIED CARD OF 'laws.FnExactTxtCount'. -/
def fnExactTxtCountCard : Claim7 := { stood := { row := fnExactTxtCountRow, standIns := [], harness := (true, "7760035dd159466590ed127a70d18e8727da534d3bac32650ab08b2798def94f"), looks := false }, kinds := [], alts := [], laidByText := true, laidKinds := [.data, .pinned], laidTests := true, laidLooks := .later }
def FnExactTxtCountCardSaid : Prop := Claim7.holds Tryd.pinned (.plain (OpenSpec.ofChange fnExactTxtCountSpec)) fnExactTxtCountCard

/-- THE TIED CARD OF 'laws.FnTxtOk'. -/
def fnTxtOkCard : Claim7 := { stood := { row := fnTxtOkRow, standIns := [], harness := (true, "7760035dd159466590ed127a70d18e8727da534d3bac32650ab08b2798def94f"), looks := false }, kinds := [], alts := [], laidByText := true, laidKinds := [.data, .pinned], laidTests := true, laidLooks := .later }
def FnTxtOkCardSaid : Prop := Claim7.holds Tryd.pinned (.plain (OpenSpec.ofChange fnTxtOkSpec)) fnTxtOkCard

/-- THE TIED CARD OF 'laws.FnExactTxtLeast'. -/
def fnExactTxtLeastCard : Claim7 := { stood := { row := fnExactTxtLeastRow, standIns := [], harness := (true, "7760035dd159466590ed127a70d18e8727da534d3bac32650ab08b2798def94f"), looks := false }, kinds := [], alts := [], laidByText := true, laidKinds := [.data, .pinned], laidTests := true, laidLooks := .later }
def FnExactTxtLeastCardSaid : Prop := Claim7.holds Tryd.pinned (.plain (OpenSpec.ofChange fnExactTxtLeastSpec)) fnExactTxtLeastCard

/-- THE TIED CARD OF 'laws.FnExactTxtWords'. -/
def fnExactTxtWordsCard : Claim7 := { stood := { row := fnExactTxtWordsRow, standIns := [], harness := (true, "7760035dd159466590ed127a70d18e8727da534d3bac32650ab08b2798def94f"), looks := false }, kinds := [], alts := [], laidByText := true, laidKinds := [.data, .pinned], laidTests := true, laidLooks := .later }
def FnExactTxtWordsCardSaid : Prop := Claim7.holds Tryd.pinned (.plain (OpenSpec.ofChange fnExactTxtWordsSpec)) fnExactTxtWordsCard

/-- THE TIED CARD OF 'laws.FnExactTxtLines'. -/
def fnExactTxtLinesCard : Claim7 := { stood := { row := fnExactTxtLinesRow, standIns := [], harness := (true, "7760035dd159466590ed127a70d18e8727da534d3bac32650ab08b2798def94f"), looks := false }, kinds := [], alts := [], laidByText := true, laidKinds := [.data, .pinned], laidTests := true, laidLooks := .later }
def FnExactTxtLinesCardSaid : Prop := Claim7.holds Tryd.pinned (.plain (OpenSpec.ofChange fnExactTxtLinesSpec)) fnExactTxtLinesCard

/-- THE SECOND FORM's CARD OF 'laws.FnShrSum'. -/
def fnShrSumUptoCard : Claim7 := { stood := { row := fnShrSumUptoRow, standIns := [], harness := (true, "7760035dd159466590ed127a70d18e8727da534d3bac32650ab08b2798def94f"), looks := false }, kinds := [], alts := [], laidByText := true, laidKinds := [.data, .pinned], laidTests := true, laidLooks := .later }
def FnShrSumUptoCardSaid : Prop := Claim7.holds Tryd.pinned (.plain (OpenSpec.upto fnShrSumSpec)) fnShrSumUptoCard

/-- THE SECOND FORM's CARD OF 'laws.FnShrDue'. -/
def fnShrDueUptoCard : Claim7 := { stood := { row := fnShrDueUptoRow, standIns := [], harness := (true, "7760035dd159466590ed127a70d18e8727da534d3bac32650ab08b2798def94f"), looks := false }, kinds := [], alts := [], laidByText := true, laidKinds := [.data, .pinned], laidTests := true, laidLooks := .later }
def FnShrDueUptoCardSaid : Prop := Claim7.holds Tryd.pinned (.plain (OpenSpec.upto fnShrDueSpec)) fnShrDueUptoCard

/-- THE SECOND FORM's CARD OF 'laws.FnShrOrder'. -/
def fnShrOrderUptoCard : Claim7 := { stood := { row := fnShrOrderUptoRow, standIns := [], harness := (true, "7760035dd159466590ed127a70d18e8727da534d3bac32650ab08b2798def94f"), looks := false }, kinds := [], alts := [], laidByText := true, laidKinds := [.data, .pinned], laidTests := true, laidLooks := .later }
def FnShrOrderUptoCardSaid : Prop := Claim7.holds Tryd.pinned (.plain (OpenSpec.upto fnShrOrderSpec)) fnShrOrderUptoCard

/-- THE SECOND FORM's CARD OF 'laws.FnShrTimes'. -/
def fnShrTimesUptoCard : Claim7 := { stood := { row := fnShrTimesUptoRow, standIns := [], harness := (true, "7760035dd159466590ed127a70d18e8727da534d3bac32650ab08b2798def94f"), looks := false }, kinds := [], alts := [], laidByText := true, laidKinds := [.data, .pinned], laidTests := true, laidLooks := .later }
def FnShrTimesUptoCardSaid : Prop := Claim7.holds Tryd.pinned (.plain (OpenSpec.upto fnShrTimesSpec)) fnShrTimesUptoCard

/-- THE SECOND FORM's CARD OF 'laws.FnExactTxtOk'. -/
def fnExactTxtOkUptoCard : Claim7 := { stood := { row := fnExactTxtOkUptoRow, standIns := [], harness := (true, "7760035dd159466590ed127a70d18e8727da534d3bac32650ab08b2798def94f"), looks := false }, kinds := [], alts := [], laidByText := true, laidKinds := [.data, .pinned], laidTests := true, laidLooks := .later }
def FnExactTxtOkUptoCardSaid : Prop := Claim7.holds Tryd.pinned (.plain (OpenSpec.upto fnExactTxtOkSpec)) fnExactTxtOkUptoCard

/-- THE SECOND FORM's CARD OF 'laws.FnExactTxtWish'. -/
def fnExactTxtWishUptoCard : Claim7 := { stood := { row := fnExactTxtWishUptoRow, standIns := [], harness := (true, "7760035dd159466590ed127a70d18e8727da534d3bac32650ab08b2798def94f"), looks := false }, kinds := [], alts := [], laidByText := true, laidKinds := [.data, .pinned], laidTests := true, laidLooks := .later }
def FnExactTxtWishUptoCardSaid : Prop := Claim7.holds Tryd.pinned (.plain (OpenSpec.upto fnExactTxtWishSpec)) fnExactTxtWishUptoCard

/-- THE SECOND FORM's CARD OF 'laws.FnExactTxtCount'. -/
def fnExactTxtCountUptoCard : Claim7 := { stood := { row := fnExactTxtCountUptoRow, standIns := [], harness := (true, "7760035dd159466590ed127a70d18e8727da534d3bac32650ab08b2798def94f"), looks := false }, kinds := [], alts := [], laidByText := true, laidKinds := [.data, .pinned], laidTests := true, laidLooks := .later }
def FnExactTxtCountUptoCardSaid : Prop := Claim7.holds Tryd.pinned (.plain (OpenSpec.upto fnExactTxtCountSpec)) fnExactTxtCountUptoCard

/-- THE SECOND FORM's CARD OF 'laws.FnTxtOk'. -/
def fnTxtOkUptoCard : Claim7 := { stood := { row := fnTxtOkUptoRow, standIns := [], harness := (true, "7760035dd159466590ed127a70d18e8727da534d3bac32650ab08b2798def94f"), looks := false }, kinds := [], alts := [], laidByText := true, laidKinds := [.data, .pinned], laidTests := true, laidLooks := .later }
def FnTxtOkUptoCardSaid : Prop := Claim7.holds Tryd.pinned (.plain (OpenSpec.upto fnTxtOkSpec)) fnTxtOkUptoCard

/-- THE SECOND FORM's CARD OF 'laws.FnExactTxtLeast'. -/
def fnExactTxtLeastUptoCard : Claim7 := { stood := { row := fnExactTxtLeastUptoRow, standIns := [], harness := (true, "7760035dd159466590ed127a70d18e8727da534d3bac32650ab08b2798def94f"), looks := false }, kinds := [], alts := [], laidByText := true, laidKinds := [.data, .pinned], laidTests := true, laidLooks := .later }
def FnExactTxtLeastUptoCardSaid : Prop := Claim7.holds Tryd.pinned (.plain (OpenSpec.upto fnExactTxtLeastSpec)) fnExactTxtLeastUptoCard

/-- THE SECOND FORM's CARD OF 'laws.FnExactTxtWords'. -/
def fnExactTxtWordsUptoCard : Claim7 := { stood := { row := fnExactTxtWordsUptoRow, standIns := [], harness := (true, "7760035dd159466590ed127a70d18e8727da534d3bac32650ab08b2798def94f"), looks := false }, kinds := [], alts := [], laidByText := true, laidKinds := [.data, .pinned], laidTests := true, laidLooks := .later }
def FnExactTxtWordsUptoCardSaid : Prop := Claim7.holds Tryd.pinned (.plain (OpenSpec.upto fnExactTxtWordsSpec)) fnExactTxtWordsUptoCard

/-- THE SECOND FORM's CARD OF 'laws.FnExactTxtLines'. -/
def fnExactTxtLinesUptoCard : Claim7 := { stood := { row := fnExactTxtLinesUptoRow, standIns := [], harness := (true, "7760035dd159466590ed127a70d18e8727da534d3bac32650ab08b2798def94f"), looks := false }, kinds := [], alts := [], laidByText := true, laidKinds := [.data, .pinned], laidTests := true, laidLooks := .later }
def FnExactTxtLinesUptoCardSaid : Prop := Claim7.holds Tryd.pinned (.plain (OpenSpec.upto fnExactTxtLinesSpec)) fnExactTxtLinesUptoCard
end Rows
end Go.Proofs.YtcjpojppbmlfaaaDoor
