/-
  NARROWER THAN 'FOR EVERY INPUT', by the rows' own cells (each row's printed sentence says how): FnShrSum: laid · FnShrDue: laid · FnShrOrder: laid · FnShrTimes: laid · FnExactTxtOk: laid · FnExactTxtWish: laid · FnExactTxtCount: laid · FnTxtOk: laid · FnExactTxtLeast: laid · FnExactTxtWords: laid · FnExactTxtLines: laid.
  DERIVED. THE GIVEN ROWS OF THIS SEAT. 11 by the template 'for every input the law returns true; each argument reads behind the call as it read before'; 0 by the template 'total and deterministic' (their statements: YtcjpojppbmlfaaaDoorTotals.lean).
  GIVEN WITH THE SEED: the statements are not yours to turn. If you find one false, say at which input.
  Laid BY PROGRAM, IN A SANDBOX (cutbox-rows.mjs): the forced cells as the released guide's own fill.sh prints them over the translation c46fa4b2e4fb15f5… (all of the seat's roots in one cut). By AI agents, Wed Nov 11 2026. No macro, syntax, notation, axiom, sorry.
-/
import Derived.Test.YtcjpojppbmlfaaaDoorChecked
import GoSem.PinnedTables
import GoSem.Claim
import GoSem.ClaimJoined
import GoSem.ClaimMapViews
import Derived.JoinedTies
import Derived.KernelRfl
namespace Go.Proofs.YtcjpojppbmlfaaaDoor
/- THE CELL 'sum', in the pinned program and in every row, IS THE sha256 OF THE DUMP (.gsa) THAT YtcjpojppbmlfaaaDoorProg.lean LOADS. Nothing in Lean hashes anything: it is a label: what it is worth is what the hold of that sum in a sandbox is worth. -/
noncomputable def Tryd.pinned : Pinned := { name := "ytcjpojppbmlfaaadoor", sum := "c46fa4b2e4fb15f5db10f39467201c68cb13035dbd9ae5fccfe3717079554703", checked := Tryd.checked }
namespace Rows
def none {H : Type} : Left H := { results := [], args := [] }

/- WHAT THE LISTED PACKAGE-LEVEL VARIABLES READ AS WHEN THE CALL BEGINS. Each datum BY PROGRAM (the guide's laid-datum.mjs) off the statement by which the dump's own 'gosem.cut.vars' lays the variable. In a bare row this is a premise. The card (YtcjpojppbmlfaaaDoorCards.lean) ties it to the program's text. -/
def laid_unicode_utf8_acceptRanges {H : Type} : DataW H := .agg [.agg [.lit (.int .u8 128), .lit (.int .u8 191)], .agg [.lit (.int .u8 160), .lit (.int .u8 191)], .agg [.lit (.int .u8 128), .lit (.int .u8 159)], .agg [.lit (.int .u8 144), .lit (.int .u8 191)], .agg [.lit (.int .u8 128), .lit (.int .u8 143)], .agg [.lit (.int .u8 0), .lit (.int .u8 0)], .agg [.lit (.int .u8 0), .lit (.int .u8 0)], .agg [.lit (.int .u8 0), .lit (.int .u8 0)], .agg [.lit (.int .u8 0), .lit (.int .u8 0)], .agg [.lit (.int .u8 0), .lit (.int .u8 0)], .agg [.lit (.int .u8 0), .lit (.int .u8 0)], .agg [.lit (.int .u8 0), .lit (.int .u8 0)], .agg [.lit (.int .u8 0), .lit (.int .u8 0)], .agg [.lit (.int .u8 0), .lit (.int .u8 0)], .agg [.lit (.int .u8 0), .lit (.int .u8 0)], .agg [.lit (.int .u8 0), .lit (.int .u8 0)]]
/-- One of Go's own tables, pinned by name: the form's constant. -/
def laid_unicode_utf8_first : DataW Unit := Go.Pinned.utf8First

/-- 'laws.FnShrSum': WHATEVER THE INPUT: true; the input reads as it did. -/
def fnShrSumSpec : ChangeSpec := { name := "fnShrSum", fn := fun _ => fun
  | [d] => { results := [.lit (.bool true)], args := [d] }
  | _ => none }
def fnShrSumRow : OpenClaim := { program := "ytcjpojppbmlfaaadoor", sum := "c46fa4b2e4fb15f5db10f39467201c68cb13035dbd9ae5fccfe3717079554703", func := "loop.example/panework/laws.FnShrSum", spec := "fnShrSum", inPlace := ["internal/bytealg.CountString", "internal/bytealg.IndexByteString", "internal/bytealg.IndexString"], unfollowed := true, recurses := true, named := ["unicode/utf8.first", "unicode/utf8.acceptRanges", "internal/bytealg.MaxLen"], apart := false, laid := [("unicode/utf8.acceptRanges", laid_unicode_utf8_acceptRanges), ("unicode/utf8.first", laid_unicode_utf8_first)] }
def FnShrSumSaid : Prop := fnShrSumRow.holds Tryd.pinned (OpenSpec.ofChange fnShrSumSpec)

/-- ITS FALSE NEIGHBOUR: 'it returns false'. Refute it at one input. -/
def fnShrSumWrong : ChangeSpec := { name := "fnShrSum", fn := fun _ => fun
  | [d] => { results := [.lit (.bool false)], args := [d] }
  | _ => none }
def FnShrSumWrongFalsely : Prop := fnShrSumRow.holds Tryd.pinned (OpenSpec.ofChange fnShrSumWrong)

/-- 'laws.FnShrDue': WHATEVER THE INPUT: true; the input reads as it did. -/
def fnShrDueSpec : ChangeSpec := { name := "fnShrDue", fn := fun _ => fun
  | [d] => { results := [.lit (.bool true)], args := [d] }
  | _ => none }
def fnShrDueRow : OpenClaim := { program := "ytcjpojppbmlfaaadoor", sum := "c46fa4b2e4fb15f5db10f39467201c68cb13035dbd9ae5fccfe3717079554703", func := "loop.example/panework/laws.FnShrDue", spec := "fnShrDue", inPlace := ["internal/bytealg.CountString", "internal/bytealg.IndexByteString", "internal/bytealg.IndexString"], unfollowed := true, recurses := true, named := ["unicode/utf8.first", "unicode/utf8.acceptRanges", "internal/bytealg.MaxLen"], apart := false, laid := [("unicode/utf8.acceptRanges", laid_unicode_utf8_acceptRanges), ("unicode/utf8.first", laid_unicode_utf8_first)] }
def FnShrDueSaid : Prop := fnShrDueRow.holds Tryd.pinned (OpenSpec.ofChange fnShrDueSpec)

/-- ITS FALSE NEIGHBOUR: 'it returns false'. Refute it at one input. -/
def fnShrDueWrong : ChangeSpec := { name := "fnShrDue", fn := fun _ => fun
  | [d] => { results := [.lit (.bool false)], args := [d] }
  | _ => none }
def FnShrDueWrongFalsely : Prop := fnShrDueRow.holds Tryd.pinned (OpenSpec.ofChange fnShrDueWrong)

/-- 'laws.FnShrOrder': WHATEVER THE INPUT: true; the input reads as it did. -/
def fnShrOrderSpec : ChangeSpec := { name := "fnShrOrder", fn := fun _ => fun
  | [d] => { results := [.lit (.bool true)], args := [d] }
  | _ => none }
def fnShrOrderRow : OpenClaim := { program := "ytcjpojppbmlfaaadoor", sum := "c46fa4b2e4fb15f5db10f39467201c68cb13035dbd9ae5fccfe3717079554703", func := "loop.example/panework/laws.FnShrOrder", spec := "fnShrOrder", inPlace := ["internal/bytealg.CountString", "internal/bytealg.IndexByteString", "internal/bytealg.IndexString"], unfollowed := true, recurses := true, named := ["unicode/utf8.first", "unicode/utf8.acceptRanges", "internal/bytealg.MaxLen"], apart := false, laid := [("unicode/utf8.acceptRanges", laid_unicode_utf8_acceptRanges), ("unicode/utf8.first", laid_unicode_utf8_first)] }
def FnShrOrderSaid : Prop := fnShrOrderRow.holds Tryd.pinned (OpenSpec.ofChange fnShrOrderSpec)

/-- ITS FALSE NEIGHBOUR: 'it returns false'. Refute it at one input. -/
def fnShrOrderWrong : ChangeSpec := { name := "fnShrOrder", fn := fun _ => fun
  | [d] => { results := [.lit (.bool false)], args := [d] }
  | _ => none }
def FnShrOrderWrongFalsely : Prop := fnShrOrderRow.holds Tryd.pinned (OpenSpec.ofChange fnShrOrderWrong)

/-- 'laws.FnShrTimes': WHATEVER THE INPUT: true; the input reads as it did. -/
def fnShrTimesSpec : ChangeSpec := { name := "fnShrTimes", fn := fun _ => fun
  | [d] => { results := [.lit (.bool true)], args := [d] }
  | _ => none }
def fnShrTimesRow : OpenClaim := { program := "ytcjpojppbmlfaaadoor", sum := "c46fa4b2e4fb15f5db10f39467201c68cb13035dbd9ae5fccfe3717079554703", func := "loop.example/panework/laws.FnShrTimes", spec := "fnShrTimes", inPlace := ["internal/bytealg.CountString", "internal/bytealg.IndexByteString", "internal/bytealg.IndexString"], unfollowed := true, recurses := true, named := ["unicode/utf8.first", "unicode/utf8.acceptRanges", "internal/bytealg.MaxLen"], apart := false, laid := [("unicode/utf8.acceptRanges", laid_unicode_utf8_acceptRanges), ("unicode/utf8.first", laid_unicode_utf8_first)] }
def FnShrTimesSaid : Prop := fnShrTimesRow.holds Tryd.pinned (OpenSpec.ofChange fnShrTimesSpec)

/-- ITS FALSE NEIGHBOUR: 'it returns false'. Refute it at one input. -/
def fnShrTimesWrong : ChangeSpec := { name := "fnShrTimes", fn := fun _ => fun
  | [d] => { results := [.lit (.bool false)], args := [d] }
  | _ => none }
def FnShrTimesWrongFalsely : Prop := fnShrTimesRow.holds Tryd.pinned (OpenSpec.ofChange fnShrTimesWrong)

/-- 'laws.FnExactTxtOk': WHATEVER THE INPUT: true; the input reads as it did. -/
def fnExactTxtOkSpec : ChangeSpec := { name := "fnExactTxtOk", fn := fun _ => fun
  | [d] => { results := [.lit (.bool true)], args := [d] }
  | _ => none }
def fnExactTxtOkRow : OpenClaim := { program := "ytcjpojppbmlfaaadoor", sum := "c46fa4b2e4fb15f5db10f39467201c68cb13035dbd9ae5fccfe3717079554703", func := "loop.example/panework/laws.FnExactTxtOk", spec := "fnExactTxtOk", inPlace := ["internal/bytealg.CountString", "internal/bytealg.IndexByteString", "internal/bytealg.IndexString"], named := ["unicode/utf8.first", "unicode/utf8.acceptRanges", "internal/bytealg.MaxLen"], apart := false, laid := [("unicode/utf8.acceptRanges", laid_unicode_utf8_acceptRanges), ("unicode/utf8.first", laid_unicode_utf8_first)] }
def FnExactTxtOkSaid : Prop := fnExactTxtOkRow.holds Tryd.pinned (OpenSpec.ofChange fnExactTxtOkSpec)

/-- ITS FALSE NEIGHBOUR: 'it returns false'. Refute it at one input. -/
def fnExactTxtOkWrong : ChangeSpec := { name := "fnExactTxtOk", fn := fun _ => fun
  | [d] => { results := [.lit (.bool false)], args := [d] }
  | _ => none }
def FnExactTxtOkWrongFalsely : Prop := fnExactTxtOkRow.holds Tryd.pinned (OpenSpec.ofChange fnExactTxtOkWrong)

/-- 'laws.FnExactTxtWish': WHATEVER THE INPUT: true; the input reads as it did. -/
def fnExactTxtWishSpec : ChangeSpec := { name := "fnExactTxtWish", fn := fun _ => fun
  | [d] => { results := [.lit (.bool true)], args := [d] }
  | _ => none }
def fnExactTxtWishRow : OpenClaim := { program := "ytcjpojppbmlfaaadoor", sum := "c46fa4b2e4fb15f5db10f39467201c68cb13035dbd9ae5fccfe3717079554703", func := "loop.example/panework/laws.FnExactTxtWish", spec := "fnExactTxtWish", inPlace := ["internal/bytealg.CountString", "internal/bytealg.IndexByteString", "internal/bytealg.IndexString"], named := ["unicode/utf8.first", "unicode/utf8.acceptRanges", "internal/bytealg.MaxLen"], apart := false, laid := [("unicode/utf8.acceptRanges", laid_unicode_utf8_acceptRanges), ("unicode/utf8.first", laid_unicode_utf8_first)] }
def FnExactTxtWishSaid : Prop := fnExactTxtWishRow.holds Tryd.pinned (OpenSpec.ofChange fnExactTxtWishSpec)

/-- ITS FALSE NEIGHBOUR: 'it returns false'. Refute it at one input. -/
def fnExactTxtWishWrong : ChangeSpec := { name := "fnExactTxtWish", fn := fun _ => fun
  | [d] => { results := [.lit (.bool false)], args := [d] }
  | _ => none }
def FnExactTxtWishWrongFalsely : Prop := fnExactTxtWishRow.holds Tryd.pinned (OpenSpec.ofChange fnExactTxtWishWrong)

/-- 'laws.FnExactTxtCount': WHATEVER THE INPUT: true; the input reads as it did. -/
def fnExactTxtCountSpec : ChangeSpec := { name := "fnExactTxtCount", fn := fun _ => fun
  | [d] => { results := [.lit (.bool true)], args := [d] }
  | _ => none }
def fnExactTxtCountRow : OpenClaim := { program := "ytcjpojppbmlfaaadoor", sum := "c46fa4b2e4fb15f5db10f39467201c68cb13035dbd9ae5fccfe3717079554703", func := "loop.example/panework/laws.FnExactTxtCount", spec := "fnExactTxtCount", inPlace := ["internal/bytealg.CountString", "internal/bytealg.IndexByteString", "internal/bytealg.IndexString"], named := ["unicode/utf8.first", "unicode/utf8.acceptRanges", "internal/bytealg.MaxLen"], apart := false, laid := [("unicode/utf8.acceptRanges", laid_unicode_utf8_acceptRanges), ("unicode/utf8.first", laid_unicode_utf8_first)] }
def FnExactTxtCountSaid : Prop := fnExactTxtCountRow.holds Tryd.pinned (OpenSpec.ofChange fnExactTxtCountSpec)

/-- ITS FALSE NEIGHBOUR: 'it returns false'. Refute it at one input. -/
def fnExactTxtCountWrong : ChangeSpec := { name := "fnExactTxtCount", fn := fun _ => fun
  | [d] => { results := [.lit (.bool false)], args := [d] }
  | _ => none }
def FnExactTxtCountWrongFalsely : Prop := fnExactTxtCountRow.holds Tryd.pinned (OpenSpec.ofChange fnExactTxtCountWrong)

/-- 'laws.FnTxtOk': WHATEVER THE INPUT: true; the input reads as it did. -/
def fnTxtOkSpec : ChangeSpec := { name := "fnTxtOk", fn := fun _ => fun
  | [d] => { results := [.lit (.bool true)], args := [d] }
  | _ => none }
def fnTxtOkRow : OpenClaim := { program := "ytcjpojppbmlfaaadoor", sum := "c46fa4b2e4fb15f5db10f39467201c68cb13035dbd9ae5fccfe3717079554703", func := "loop.example/panework/laws.FnTxtOk", spec := "fnTxtOk", inPlace := ["internal/bytealg.CountString", "internal/bytealg.IndexByteString", "internal/bytealg.IndexString"], named := ["unicode/utf8.first", "unicode/utf8.acceptRanges", "internal/bytealg.MaxLen"], apart := false, laid := [("unicode/utf8.acceptRanges", laid_unicode_utf8_acceptRanges), ("unicode/utf8.first", laid_unicode_utf8_first)] }
def FnTxtOkSaid : Prop := fnTxtOkRow.holds Tryd.pinned (OpenSpec.ofChange fnTxtOkSpec)

/-- ITS FALSE NEIGHBOUR: 'it returns false'. Refute it at one input. -/
def fnTxtOkWrong : ChangeSpec := { name := "fnTxtOk", fn := fun _ => fun
  | [d] => { results := [.lit (.bool false)], args := [d] }
  | _ => none }
def FnTxtOkWrongFalsely : Prop := fnTxtOkRow.holds Tryd.pinned (OpenSpec.ofChange fnTxtOkWrong)

/-- 'laws.FnExactTxtLeast': WHATEVER THE INPUT: true; the input reads as it did. -/
def fnExactTxtLeastSpec : ChangeSpec := { name := "fnExactTxtLeast", fn := fun _ => fun
  | [d] => { results := [.lit (.bool true)], args := [d] }
  | _ => none }
def fnExactTxtLeastRow : OpenClaim := { program := "ytcjpojppbmlfaaadoor", sum := "c46fa4b2e4fb15f5db10f39467201c68cb13035dbd9ae5fccfe3717079554703", func := "loop.example/panework/laws.FnExactTxtLeast", spec := "fnExactTxtLeast", inPlace := ["internal/bytealg.CountString", "internal/bytealg.IndexByteString", "internal/bytealg.IndexString"], named := ["unicode/utf8.first", "unicode/utf8.acceptRanges", "internal/bytealg.MaxLen"], apart := false, laid := [("unicode/utf8.acceptRanges", laid_unicode_utf8_acceptRanges), ("unicode/utf8.first", laid_unicode_utf8_first)] }
def FnExactTxtLeastSaid : Prop := fnExactTxtLeastRow.holds Tryd.pinned (OpenSpec.ofChange fnExactTxtLeastSpec)

/-- ITS FALSE NEIGHBOUR: 'it returns false'. Refute it at one input. -/
def fnExactTxtLeastWrong : ChangeSpec := { name := "fnExactTxtLeast", fn := fun _ => fun
  | [d] => { results := [.lit (.bool false)], args := [d] }
  | _ => none }
def FnExactTxtLeastWrongFalsely : Prop := fnExactTxtLeastRow.holds Tryd.pinned (OpenSpec.ofChange fnExactTxtLeastWrong)

/-- 'laws.FnExactTxtWords': WHATEVER THE INPUT: true; the input reads as it did. -/
def fnExactTxtWordsSpec : ChangeSpec := { name := "fnExactTxtWords", fn := fun _ => fun
  | [d] => { results := [.lit (.bool true)], args := [d] }
  | _ => none }
def fnExactTxtWordsRow : OpenClaim := { program := "ytcjpojppbmlfaaadoor", sum := "c46fa4b2e4fb15f5db10f39467201c68cb13035dbd9ae5fccfe3717079554703", func := "loop.example/panework/laws.FnExactTxtWords", spec := "fnExactTxtWords", inPlace := ["internal/bytealg.CountString", "internal/bytealg.IndexByteString", "internal/bytealg.IndexString"], named := ["unicode/utf8.first", "unicode/utf8.acceptRanges", "internal/bytealg.MaxLen"], apart := false, laid := [("unicode/utf8.acceptRanges", laid_unicode_utf8_acceptRanges), ("unicode/utf8.first", laid_unicode_utf8_first)] }
def FnExactTxtWordsSaid : Prop := fnExactTxtWordsRow.holds Tryd.pinned (OpenSpec.ofChange fnExactTxtWordsSpec)

/-- ITS FALSE NEIGHBOUR: 'it returns false'. Refute it at one input. -/
def fnExactTxtWordsWrong : ChangeSpec := { name := "fnExactTxtWords", fn := fun _ => fun
  | [d] => { results := [.lit (.bool false)], args := [d] }
  | _ => none }
def FnExactTxtWordsWrongFalsely : Prop := fnExactTxtWordsRow.holds Tryd.pinned (OpenSpec.ofChange fnExactTxtWordsWrong)

/-- 'laws.FnExactTxtLines': WHATEVER THE INPUT: true; the input reads as it did. -/
def fnExactTxtLinesSpec : ChangeSpec := { name := "fnExactTxtLines", fn := fun _ => fun
  | [d1, d2] => { results := [.lit (.bool true)], args := [d1, d2] }
  | _ => none }
def fnExactTxtLinesRow : OpenClaim := { program := "ytcjpojppbmlfaaadoor", sum := "c46fa4b2e4fb15f5db10f39467201c68cb13035dbd9ae5fccfe3717079554703", func := "loop.example/panework/laws.FnExactTxtLines", spec := "fnExactTxtLines", inPlace := ["internal/bytealg.CountString", "internal/bytealg.IndexByteString", "internal/bytealg.IndexString"], named := ["unicode/utf8.first", "unicode/utf8.acceptRanges", "internal/bytealg.MaxLen"], apart := false, laid := [("unicode/utf8.acceptRanges", laid_unicode_utf8_acceptRanges), ("unicode/utf8.first", laid_unicode_utf8_first)] }
def FnExactTxtLinesSaid : Prop := fnExactTxtLinesRow.holds Tryd.pinned (OpenSpec.ofChange fnExactTxtLinesSpec)

/-- ITS FALSE NEIGHBOUR: 'it returns false'. Refute it at one input. -/
def fnExactTxtLinesWrong : ChangeSpec := { name := "fnExactTxtLines", fn := fun _ => fun
  | [d1, d2] => { results := [.lit (.bool false)], args := [d1, d2] }
  | _ => none }
def FnExactTxtLinesWrongFalsely : Prop := fnExactTxtLinesRow.holds Tryd.pinned (OpenSpec.ofChange fnExactTxtLinesWrong)

/- THE SECOND FORM. 'bulk': how many values and letters a reading holds, each counted each time it is reached (what is shared counts as often as it is met; a slice's spare places count too). A statement '..UptoSaid' is the law's where the arguments, and the package variables that the reading takes, are together of bulk at most 1048576: NARROWER than '..Said'. Prove '..Said' where nothing that the law and all that it calls make is longer than what came in: it says more and counts as full. Else prove '..UptoSaid'. A law counts once. -/
mutual
def uptoBulk {H : Type} : DataW H → Nat
  | .lit (.string bytes) => bytes.length + 1
  | .lit _ => 1
  | .nil => 1
  | .ptr d => uptoBulk d + 1
  | .slice elems spare => uptoBulkAll elems + uptoBulkAll spare + 1
  | .agg parts => uptoBulkAll parts + 1
  | .iface _ d => uptoBulk d + 1
  | .map entries => uptoBulkEntries entries + 1
  | .held _ => 1
def uptoBulkAll {H : Type} : List (DataW H) → Nat
  | [] => 0
  | d :: r => uptoBulk d + uptoBulkAll r
def uptoBulkEntries {H : Type} : List (Lit × DataW H) → Nat
  | [] => 0
  | x :: r => uptoBulkEntry x + uptoBulkEntries r
def uptoBulkEntry {H : Type} : Lit × DataW H → Nat
  | (.string bytes, d) => bytes.length + uptoBulk d + 1
  | (_, d) => uptoBulk d + 1
 end
def uptoSmall : (H : Type) → List (DataW H) → Bool := fun _ ds => decide (uptoBulkAll ds ≤ 1048576)
def OpenSpec.upto (s : _root_.Go.ChangeSpec) : _root_.Go.OpenSpec := { _root_.Go.OpenSpec.ofChange s with cond := some uptoSmall }

/-- 'laws.FnShrSum', WHERE WHAT IT READS IS OF BULK AT MOST 1048576: true; the input reads as it did. -/
def fnShrSumUptoRow : OpenClaim := { program := "ytcjpojppbmlfaaadoor", sum := "c46fa4b2e4fb15f5db10f39467201c68cb13035dbd9ae5fccfe3717079554703", func := "loop.example/panework/laws.FnShrSum", spec := "fnShrSum", inPlace := ["internal/bytealg.CountString", "internal/bytealg.IndexByteString", "internal/bytealg.IndexString"], unfollowed := true, recurses := true, named := ["unicode/utf8.first", "unicode/utf8.acceptRanges", "internal/bytealg.MaxLen"], apart := false, laid := [("unicode/utf8.acceptRanges", laid_unicode_utf8_acceptRanges), ("unicode/utf8.first", laid_unicode_utf8_first)], narrowed := true }
def FnShrSumUptoSaid : Prop := fnShrSumUptoRow.holds Tryd.pinned (OpenSpec.upto fnShrSumSpec)

/-- 'laws.FnShrDue', WHERE WHAT IT READS IS OF BULK AT MOST 1048576: true; the input reads as it did. -/
def fnShrDueUptoRow : OpenClaim := { program := "ytcjpojppbmlfaaadoor", sum := "c46fa4b2e4fb15f5db10f39467201c68cb13035dbd9ae5fccfe3717079554703", func := "loop.example/panework/laws.FnShrDue", spec := "fnShrDue", inPlace := ["internal/bytealg.CountString", "internal/bytealg.IndexByteString", "internal/bytealg.IndexString"], unfollowed := true, recurses := true, named := ["unicode/utf8.first", "unicode/utf8.acceptRanges", "internal/bytealg.MaxLen"], apart := false, laid := [("unicode/utf8.acceptRanges", laid_unicode_utf8_acceptRanges), ("unicode/utf8.first", laid_unicode_utf8_first)], narrowed := true }
def FnShrDueUptoSaid : Prop := fnShrDueUptoRow.holds Tryd.pinned (OpenSpec.upto fnShrDueSpec)

/-- 'laws.FnShrOrder', WHERE WHAT IT READS IS OF BULK AT MOST 1048576: true; the input reads as it did. -/
def fnShrOrderUptoRow : OpenClaim := { program := "ytcjpojppbmlfaaadoor", sum := "c46fa4b2e4fb15f5db10f39467201c68cb13035dbd9ae5fccfe3717079554703", func := "loop.example/panework/laws.FnShrOrder", spec := "fnShrOrder", inPlace := ["internal/bytealg.CountString", "internal/bytealg.IndexByteString", "internal/bytealg.IndexString"], unfollowed := true, recurses := true, named := ["unicode/utf8.first", "unicode/utf8.acceptRanges", "internal/bytealg.MaxLen"], apart := false, laid := [("unicode/utf8.acceptRanges", laid_unicode_utf8_acceptRanges), ("unicode/utf8.first", laid_unicode_utf8_first)], narrowed := true }
def FnShrOrderUptoSaid : Prop := fnShrOrderUptoRow.holds Tryd.pinned (OpenSpec.upto fnShrOrderSpec)

/-- 'laws.FnShrTimes', WHERE WHAT IT READS IS OF BULK AT MOST 1048576: true; the input reads as it did. -/
def fnShrTimesUptoRow : OpenClaim := { program := "ytcjpojppbmlfaaadoor", sum := "c46fa4b2e4fb15f5db10f39467201c68cb13035dbd9ae5fccfe3717079554703", func := "loop.example/panework/laws.FnShrTimes", spec := "fnShrTimes", inPlace := ["internal/bytealg.CountString", "internal/bytealg.IndexByteString", "internal/bytealg.IndexString"], unfollowed := true, recurses := true, named := ["unicode/utf8.first", "unicode/utf8.acceptRanges", "internal/bytealg.MaxLen"], apart := false, laid := [("unicode/utf8.acceptRanges", laid_unicode_utf8_acceptRanges), ("unicode/utf8.first", laid_unicode_utf8_first)], narrowed := true }
def FnShrTimesUptoSaid : Prop := fnShrTimesUptoRow.holds Tryd.pinned (OpenSpec.upto fnShrTimesSpec)

/-- 'laws.FnExactTxtOk', WHERE WHAT IT READS IS OF BULK AT MOST 1048576: true; the input reads as it did. -/
def fnExactTxtOkUptoRow : OpenClaim := { program := "ytcjpojppbmlfaaadoor", sum := "c46fa4b2e4fb15f5db10f39467201c68cb13035dbd9ae5fccfe3717079554703", func := "loop.example/panework/laws.FnExactTxtOk", spec := "fnExactTxtOk", inPlace := ["internal/bytealg.CountString", "internal/bytealg.IndexByteString", "internal/bytealg.IndexString"], named := ["unicode/utf8.first", "unicode/utf8.acceptRanges", "internal/bytealg.MaxLen"], apart := false, laid := [("unicode/utf8.acceptRanges", laid_unicode_utf8_acceptRanges), ("unicode/utf8.first", laid_unicode_utf8_first)], narrowed := true }
def FnExactTxtOkUptoSaid : Prop := fnExactTxtOkUptoRow.holds Tryd.pinned (OpenSpec.upto fnExactTxtOkSpec)

/-- 'laws.FnExactTxtWish', WHERE WHAT IT READS IS OF BULK AT MOST 1048576: true; the input reads as it did. -/
def fnExactTxtWishUptoRow : OpenClaim := { program := "ytcjpojppbmlfaaadoor", sum := "c46fa4b2e4fb15f5db10f39467201c68cb13035dbd9ae5fccfe3717079554703", func := "loop.example/panework/laws.FnExactTxtWish", spec := "fnExactTxtWish", inPlace := ["internal/bytealg.CountString", "internal/bytealg.IndexByteString", "internal/bytealg.IndexString"], named := ["unicode/utf8.first", "unicode/utf8.acceptRanges", "internal/bytealg.MaxLen"], apart := false, laid := [("unicode/utf8.acceptRanges", laid_unicode_utf8_acceptRanges), ("unicode/utf8.first", laid_unicode_utf8_first)], narrowed := true }
def FnExactTxtWishUptoSaid : Prop := fnExactTxtWishUptoRow.holds Tryd.pinned (OpenSpec.upto fnExactTxtWishSpec)

/-- 'laws.FnExactTxtCount', WHERE WHAT IT READS IS OF BULK AT MOST 1048576: true; the input reads as it did. -/
def fnExactTxtCountUptoRow : OpenClaim := { program := "ytcjpojppbmlfaaadoor", sum := "c46fa4b2e4fb15f5db10f39467201c68cb13035dbd9ae5fccfe3717079554703", func := "loop.example/panework/laws.FnExactTxtCount", spec := "fnExactTxtCount", inPlace := ["internal/bytealg.CountString", "internal/bytealg.IndexByteString", "internal/bytealg.IndexString"], named := ["unicode/utf8.first", "unicode/utf8.acceptRanges", "internal/bytealg.MaxLen"], apart := false, laid := [("unicode/utf8.acceptRanges", laid_unicode_utf8_acceptRanges), ("unicode/utf8.first", laid_unicode_utf8_first)], narrowed := true }
def FnExactTxtCountUptoSaid : Prop := fnExactTxtCountUptoRow.holds Tryd.pinned (OpenSpec.upto fnExactTxtCountSpec)

/-- 'laws.FnTxtOk', WHERE WHAT IT READS IS OF BULK AT MOST 1048576: true; the input reads as it did. -/
def fnTxtOkUptoRow : OpenClaim := { program := "ytcjpojppbmlfaaadoor", sum := "c46fa4b2e4fb15f5db10f39467201c68cb13035dbd9ae5fccfe3717079554703", func := "loop.example/panework/laws.FnTxtOk", spec := "fnTxtOk", inPlace := ["internal/bytealg.CountString", "internal/bytealg.IndexByteString", "internal/bytealg.IndexString"], named := ["unicode/utf8.first", "unicode/utf8.acceptRanges", "internal/bytealg.MaxLen"], apart := false, laid := [("unicode/utf8.acceptRanges", laid_unicode_utf8_acceptRanges), ("unicode/utf8.first", laid_unicode_utf8_first)], narrowed := true }
def FnTxtOkUptoSaid : Prop := fnTxtOkUptoRow.holds Tryd.pinned (OpenSpec.upto fnTxtOkSpec)

/-- 'laws.FnExactTxtLeast', WHERE WHAT IT READS IS OF BULK AT MOST 1048576: true; the input reads as it did. -/
def fnExactTxtLeastUptoRow : OpenClaim := { program := "ytcjpojppbmlfaaadoor", sum := "c46fa4b2e4fb15f5db10f39467201c68cb13035dbd9ae5fccfe3717079554703", func := "loop.example/panework/laws.FnExactTxtLeast", spec := "fnExactTxtLeast", inPlace := ["internal/bytealg.CountString", "internal/bytealg.IndexByteString", "internal/bytealg.IndexString"], named := ["unicode/utf8.first", "unicode/utf8.acceptRanges", "internal/bytealg.MaxLen"], apart := false, laid := [("unicode/utf8.acceptRanges", laid_unicode_utf8_acceptRanges), ("unicode/utf8.first", laid_unicode_utf8_first)], narrowed := true }
def FnExactTxtLeastUptoSaid : Prop := fnExactTxtLeastUptoRow.holds Tryd.pinned (OpenSpec.upto fnExactTxtLeastSpec)

/-- 'laws.FnExactTxtWords', WHERE WHAT IT READS IS OF BULK AT MOST 1048576: true; the input reads as it did. -/
def fnExactTxtWordsUptoRow : OpenClaim := { program := "ytcjpojppbmlfaaadoor", sum := "c46fa4b2e4fb15f5db10f39467201c68cb13035dbd9ae5fccfe3717079554703", func := "loop.example/panework/laws.FnExactTxtWords", spec := "fnExactTxtWords", inPlace := ["internal/bytealg.CountString", "internal/bytealg.IndexByteString", "internal/bytealg.IndexString"], named := ["unicode/utf8.first", "unicode/utf8.acceptRanges", "internal/bytealg.MaxLen"], apart := false, laid := [("unicode/utf8.acceptRanges", laid_unicode_utf8_acceptRanges), ("unicode/utf8.first", laid_unicode_utf8_first)], narrowed := true }
def FnExactTxtWordsUptoSaid : Prop := fnExactTxtWordsUptoRow.holds Tryd.pinned (OpenSpec.upto fnExactTxtWordsSpec)

/-- 'laws.FnExactTxtLines', WHERE WHAT IT READS IS OF BULK AT MOST 1048576: true; the input reads as it did. -/
def fnExactTxtLinesUptoRow : OpenClaim := { program := "ytcjpojppbmlfaaadoor", sum := "c46fa4b2e4fb15f5db10f39467201c68cb13035dbd9ae5fccfe3717079554703", func := "loop.example/panework/laws.FnExactTxtLines", spec := "fnExactTxtLines", inPlace := ["internal/bytealg.CountString", "internal/bytealg.IndexByteString", "internal/bytealg.IndexString"], named := ["unicode/utf8.first", "unicode/utf8.acceptRanges", "internal/bytealg.MaxLen"], apart := false, laid := [("unicode/utf8.acceptRanges", laid_unicode_utf8_acceptRanges), ("unicode/utf8.first", laid_unicode_utf8_first)], narrowed := true }
def FnExactTxtLinesUptoSaid : Prop := fnExactTxtLinesUptoRow.holds Tryd.pinned (OpenSpec.upto fnExactTxtLinesSpec)

end Rows
end Go.Proofs.YtcjpojppbmlfaaaDoor
