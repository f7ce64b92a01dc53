/-
  NARROWER THAN 'FOR EVERY INPUT', by the rows' own cells (each row's printed sentence says how): FnTxtLeast: laid · FnTxtGreedy: laid · FnTxtMore: laid · FnTxtWider: laid · FnTxtWords: laid · FnTxtLines: laid · FnCellOk: laid · FnExactCellOk: laid.
  DERIVED. THE GIVEN ROWS OF THIS SEAT. 8 by the template 'for every input the law returns true; each argument reads behind the call as it read before'; 0 by the template 'total and deterministic' (their statements: YtldmepofbkcmnaaDoorTotals.lean).
  GIVEN WITH THE SEED: the statements are not yours to turn. If you find one false, say at which input.
  Laid BY PROGRAM, IN A SANDBOX (cutbox-rows.mjs): the forced cells as the released guide's own fill.sh prints them over the translation 0d8c4bed4b272b43… (all of the seat's roots in one cut). By AI agents, Wed Nov 11 2026. No macro, syntax, notation, axiom, sorry.
-/
import Derived.Test.YtldmepofbkcmnaaDoorChecked
import GoSem.PinnedTables
import GoSem.Claim
import GoSem.ClaimJoined
import GoSem.ClaimMapViews
import Derived.JoinedTies
import Derived.KernelRfl
namespace Go.Proofs.YtldmepofbkcmnaaDoor
/- THE CELL 'sum', in the pinned program and in every row, IS THE sha256 OF THE DUMP (.gsa) THAT YtldmepofbkcmnaaDoorProg.lean LOADS. Nothing in Lean hashes anything: it is a label: what it is worth is what the hold of that sum in a sandbox is worth. -/
noncomputable def Tryd.pinned : Pinned := { name := "ytldmepofbkcmnaadoor", sum := "0d8c4bed4b272b43c01e7a5c164a71a455db126682434d07985438fe619e1043", checked := Tryd.checked }
namespace Rows
def none {H : Type} : Left H := { results := [], args := [] }

/- WHAT THE LISTED PACKAGE-LEVEL VARIABLES READ AS WHEN THE CALL BEGINS. Each datum BY PROGRAM (the guide's laid-datum.mjs) off the statement by which the dump's own 'gosem.cut.vars' lays the variable. In a bare row this is a premise. The card (YtldmepofbkcmnaaDoorCards.lean) ties it to the program's text. -/
def laid_unicode_utf8_acceptRanges {H : Type} : DataW H := .agg [.agg [.lit (.int .u8 128), .lit (.int .u8 191)], .agg [.lit (.int .u8 160), .lit (.int .u8 191)], .agg [.lit (.int .u8 128), .lit (.int .u8 159)], .agg [.lit (.int .u8 144), .lit (.int .u8 191)], .agg [.lit (.int .u8 128), .lit (.int .u8 143)], .agg [.lit (.int .u8 0), .lit (.int .u8 0)], .agg [.lit (.int .u8 0), .lit (.int .u8 0)], .agg [.lit (.int .u8 0), .lit (.int .u8 0)], .agg [.lit (.int .u8 0), .lit (.int .u8 0)], .agg [.lit (.int .u8 0), .lit (.int .u8 0)], .agg [.lit (.int .u8 0), .lit (.int .u8 0)], .agg [.lit (.int .u8 0), .lit (.int .u8 0)], .agg [.lit (.int .u8 0), .lit (.int .u8 0)], .agg [.lit (.int .u8 0), .lit (.int .u8 0)], .agg [.lit (.int .u8 0), .lit (.int .u8 0)], .agg [.lit (.int .u8 0), .lit (.int .u8 0)]]
/-- One of Go's own tables, pinned by name: the form's constant. -/
def laid_unicode_utf8_first : DataW Unit := Go.Pinned.utf8First

/-- 'laws.FnTxtLeast': WHATEVER THE INPUT: true; the input reads as it did. -/
def fnTxtLeastSpec : ChangeSpec := { name := "fnTxtLeast", fn := fun _ => fun
  | [d] => { results := [.lit (.bool true)], args := [d] }
  | _ => none }
def fnTxtLeastRow : OpenClaim := { program := "ytldmepofbkcmnaadoor", sum := "0d8c4bed4b272b43c01e7a5c164a71a455db126682434d07985438fe619e1043", func := "loop.example/panework/laws.FnTxtLeast", spec := "fnTxtLeast", inPlace := ["internal/bytealg.CountString", "internal/bytealg.IndexByteString", "internal/bytealg.IndexString"], named := ["unicode/utf8.first", "unicode/utf8.acceptRanges", "internal/bytealg.MaxLen"], apart := false, laid := [("unicode/utf8.acceptRanges", laid_unicode_utf8_acceptRanges), ("unicode/utf8.first", laid_unicode_utf8_first)] }
def FnTxtLeastSaid : Prop := fnTxtLeastRow.holds Tryd.pinned (OpenSpec.ofChange fnTxtLeastSpec)

/-- ITS FALSE NEIGHBOUR: 'it returns false'. Refute it at one input. -/
def fnTxtLeastWrong : ChangeSpec := { name := "fnTxtLeast", fn := fun _ => fun
  | [d] => { results := [.lit (.bool false)], args := [d] }
  | _ => none }
def FnTxtLeastWrongFalsely : Prop := fnTxtLeastRow.holds Tryd.pinned (OpenSpec.ofChange fnTxtLeastWrong)

/-- 'laws.FnTxtGreedy': WHATEVER THE INPUT: true; the input reads as it did. -/
def fnTxtGreedySpec : ChangeSpec := { name := "fnTxtGreedy", fn := fun _ => fun
  | [d] => { results := [.lit (.bool true)], args := [d] }
  | _ => none }
def fnTxtGreedyRow : OpenClaim := { program := "ytldmepofbkcmnaadoor", sum := "0d8c4bed4b272b43c01e7a5c164a71a455db126682434d07985438fe619e1043", func := "loop.example/panework/laws.FnTxtGreedy", spec := "fnTxtGreedy", inPlace := ["internal/bytealg.CountString", "internal/bytealg.IndexByteString", "internal/bytealg.IndexString"], named := ["unicode/utf8.first", "unicode/utf8.acceptRanges", "internal/bytealg.MaxLen"], apart := false, laid := [("unicode/utf8.acceptRanges", laid_unicode_utf8_acceptRanges), ("unicode/utf8.first", laid_unicode_utf8_first)] }
def FnTxtGreedySaid : Prop := fnTxtGreedyRow.holds Tryd.pinned (OpenSpec.ofChange fnTxtGreedySpec)

/-- ITS FALSE NEIGHBOUR: 'it returns false'. Refute it at one input. -/
def fnTxtGreedyWrong : ChangeSpec := { name := "fnTxtGreedy", fn := fun _ => fun
  | [d] => { results := [.lit (.bool false)], args := [d] }
  | _ => none }
def FnTxtGreedyWrongFalsely : Prop := fnTxtGreedyRow.holds Tryd.pinned (OpenSpec.ofChange fnTxtGreedyWrong)

/-- 'laws.FnTxtMore': WHATEVER THE INPUT: true; the input reads as it did. -/
def fnTxtMoreSpec : ChangeSpec := { name := "fnTxtMore", fn := fun _ => fun
  | [d] => { results := [.lit (.bool true)], args := [d] }
  | _ => none }
def fnTxtMoreRow : OpenClaim := { program := "ytldmepofbkcmnaadoor", sum := "0d8c4bed4b272b43c01e7a5c164a71a455db126682434d07985438fe619e1043", func := "loop.example/panework/laws.FnTxtMore", spec := "fnTxtMore", inPlace := ["internal/bytealg.CountString", "internal/bytealg.IndexByteString", "internal/bytealg.IndexString"], named := ["unicode/utf8.first", "unicode/utf8.acceptRanges", "internal/bytealg.MaxLen"], apart := false, laid := [("unicode/utf8.acceptRanges", laid_unicode_utf8_acceptRanges), ("unicode/utf8.first", laid_unicode_utf8_first)] }
def FnTxtMoreSaid : Prop := fnTxtMoreRow.holds Tryd.pinned (OpenSpec.ofChange fnTxtMoreSpec)

/-- ITS FALSE NEIGHBOUR: 'it returns false'. Refute it at one input. -/
def fnTxtMoreWrong : ChangeSpec := { name := "fnTxtMore", fn := fun _ => fun
  | [d] => { results := [.lit (.bool false)], args := [d] }
  | _ => none }
def FnTxtMoreWrongFalsely : Prop := fnTxtMoreRow.holds Tryd.pinned (OpenSpec.ofChange fnTxtMoreWrong)

/-- 'laws.FnTxtWider': WHATEVER THE INPUT: true; the input reads as it did. -/
def fnTxtWiderSpec : ChangeSpec := { name := "fnTxtWider", fn := fun _ => fun
  | [d] => { results := [.lit (.bool true)], args := [d] }
  | _ => none }
def fnTxtWiderRow : OpenClaim := { program := "ytldmepofbkcmnaadoor", sum := "0d8c4bed4b272b43c01e7a5c164a71a455db126682434d07985438fe619e1043", func := "loop.example/panework/laws.FnTxtWider", spec := "fnTxtWider", inPlace := ["internal/bytealg.CountString", "internal/bytealg.IndexByteString", "internal/bytealg.IndexString"], named := ["unicode/utf8.first", "unicode/utf8.acceptRanges", "internal/bytealg.MaxLen"], apart := false, laid := [("unicode/utf8.acceptRanges", laid_unicode_utf8_acceptRanges), ("unicode/utf8.first", laid_unicode_utf8_first)] }
def FnTxtWiderSaid : Prop := fnTxtWiderRow.holds Tryd.pinned (OpenSpec.ofChange fnTxtWiderSpec)

/-- ITS FALSE NEIGHBOUR: 'it returns false'. Refute it at one input. -/
def fnTxtWiderWrong : ChangeSpec := { name := "fnTxtWider", fn := fun _ => fun
  | [d] => { results := [.lit (.bool false)], args := [d] }
  | _ => none }
def FnTxtWiderWrongFalsely : Prop := fnTxtWiderRow.holds Tryd.pinned (OpenSpec.ofChange fnTxtWiderWrong)

/-- 'laws.FnTxtWords': WHATEVER THE INPUT: true; the input reads as it did. -/
def fnTxtWordsSpec : ChangeSpec := { name := "fnTxtWords", fn := fun _ => fun
  | [d] => { results := [.lit (.bool true)], args := [d] }
  | _ => none }
def fnTxtWordsRow : OpenClaim := { program := "ytldmepofbkcmnaadoor", sum := "0d8c4bed4b272b43c01e7a5c164a71a455db126682434d07985438fe619e1043", func := "loop.example/panework/laws.FnTxtWords", spec := "fnTxtWords", inPlace := ["internal/bytealg.CountString", "internal/bytealg.IndexByteString", "internal/bytealg.IndexString", "internal/abi.NoEscape", "internal/bytealg.MakeNoZero"], named := ["unicode/utf8.first", "unicode/utf8.acceptRanges", "internal/bytealg.MaxLen"], apart := false, laid := [("unicode/utf8.acceptRanges", laid_unicode_utf8_acceptRanges), ("unicode/utf8.first", laid_unicode_utf8_first)] }
def FnTxtWordsSaid : Prop := fnTxtWordsRow.holds Tryd.pinned (OpenSpec.ofChange fnTxtWordsSpec)

/-- ITS FALSE NEIGHBOUR: 'it returns false'. Refute it at one input. -/
def fnTxtWordsWrong : ChangeSpec := { name := "fnTxtWords", fn := fun _ => fun
  | [d] => { results := [.lit (.bool false)], args := [d] }
  | _ => none }
def FnTxtWordsWrongFalsely : Prop := fnTxtWordsRow.holds Tryd.pinned (OpenSpec.ofChange fnTxtWordsWrong)

/-- 'laws.FnTxtLines': WHATEVER THE INPUT: true; the input reads as it did. -/
def fnTxtLinesSpec : ChangeSpec := { name := "fnTxtLines", fn := fun _ => fun
  | [d] => { results := [.lit (.bool true)], args := [d] }
  | _ => none }
def fnTxtLinesRow : OpenClaim := { program := "ytldmepofbkcmnaadoor", sum := "0d8c4bed4b272b43c01e7a5c164a71a455db126682434d07985438fe619e1043", func := "loop.example/panework/laws.FnTxtLines", spec := "fnTxtLines", inPlace := ["internal/bytealg.CountString", "internal/bytealg.IndexByteString", "internal/bytealg.IndexString", "internal/abi.NoEscape", "internal/bytealg.MakeNoZero"], named := ["unicode/utf8.first", "unicode/utf8.acceptRanges", "internal/bytealg.MaxLen"], apart := false, laid := [("unicode/utf8.acceptRanges", laid_unicode_utf8_acceptRanges), ("unicode/utf8.first", laid_unicode_utf8_first)] }
def FnTxtLinesSaid : Prop := fnTxtLinesRow.holds Tryd.pinned (OpenSpec.ofChange fnTxtLinesSpec)

/-- ITS FALSE NEIGHBOUR: 'it returns false'. Refute it at one input. -/
def fnTxtLinesWrong : ChangeSpec := { name := "fnTxtLines", fn := fun _ => fun
  | [d] => { results := [.lit (.bool false)], args := [d] }
  | _ => none }
def FnTxtLinesWrongFalsely : Prop := fnTxtLinesRow.holds Tryd.pinned (OpenSpec.ofChange fnTxtLinesWrong)

/-- 'laws.FnCellOk': WHATEVER THE INPUT: true; the input reads as it did. -/
def fnCellOkSpec : ChangeSpec := { name := "fnCellOk", fn := fun _ => fun
  | [d] => { results := [.lit (.bool true)], args := [d] }
  | _ => none }
def fnCellOkRow : OpenClaim := { program := "ytldmepofbkcmnaadoor", sum := "0d8c4bed4b272b43c01e7a5c164a71a455db126682434d07985438fe619e1043", func := "loop.example/panework/laws.FnCellOk", spec := "fnCellOk", inPlace := ["internal/bytealg.CountString", "internal/bytealg.IndexByteString", "internal/bytealg.IndexString"], named := ["unicode/utf8.first", "unicode/utf8.acceptRanges", "internal/bytealg.MaxLen"], apart := false, laid := [("unicode/utf8.acceptRanges", laid_unicode_utf8_acceptRanges), ("unicode/utf8.first", laid_unicode_utf8_first)] }
def FnCellOkSaid : Prop := fnCellOkRow.holds Tryd.pinned (OpenSpec.ofChange fnCellOkSpec)

/-- ITS FALSE NEIGHBOUR: 'it returns false'. Refute it at one input. -/
def fnCellOkWrong : ChangeSpec := { name := "fnCellOk", fn := fun _ => fun
  | [d] => { results := [.lit (.bool false)], args := [d] }
  | _ => none }
def FnCellOkWrongFalsely : Prop := fnCellOkRow.holds Tryd.pinned (OpenSpec.ofChange fnCellOkWrong)

/-- 'laws.FnExactCellOk': WHATEVER THE INPUT: true; the input reads as it did. -/
def fnExactCellOkSpec : ChangeSpec := { name := "fnExactCellOk", fn := fun _ => fun
  | [d] => { results := [.lit (.bool true)], args := [d] }
  | _ => none }
def fnExactCellOkRow : OpenClaim := { program := "ytldmepofbkcmnaadoor", sum := "0d8c4bed4b272b43c01e7a5c164a71a455db126682434d07985438fe619e1043", func := "loop.example/panework/laws.FnExactCellOk", spec := "fnExactCellOk", inPlace := ["internal/bytealg.CountString", "internal/bytealg.IndexByteString", "internal/bytealg.IndexString"], named := ["unicode/utf8.first", "unicode/utf8.acceptRanges", "internal/bytealg.MaxLen"], apart := false, laid := [("unicode/utf8.acceptRanges", laid_unicode_utf8_acceptRanges), ("unicode/utf8.first", laid_unicode_utf8_first)] }
def FnExactCellOkSaid : Prop := fnExactCellOkRow.holds Tryd.pinned (OpenSpec.ofChange fnExactCellOkSpec)

/-- ITS FALSE NEIGHBOUR: 'it returns false'. Refute it at one input. -/
def fnExactCellOkWrong : ChangeSpec := { name := "fnExactCellOk", fn := fun _ => fun
  | [d] => { results := [.lit (.bool false)], args := [d] }
  | _ => none }
def FnExactCellOkWrongFalsely : Prop := fnExactCellOkRow.holds Tryd.pinned (OpenSpec.ofChange fnExactCellOkWrong)

/- THE SECOND FORM. 'bulk': how many values and letters a reading holds, each counted each time it is reached (what is shared counts as often as it is met; a slice's spare places count too). A statement '..UptoSaid' is the law's where the arguments, and the package variables that the reading takes, are together of bulk at most 1048576: NARROWER than '..Said'. Prove '..Said' where nothing that the law and all that it calls make is longer than what came in: it says more and counts as full. Else prove '..UptoSaid'. A law counts once. -/
mutual
def uptoBulk {H : Type} : DataW H → Nat
  | .lit (.string bytes) => bytes.length + 1
  | .lit _ => 1
  | .nil => 1
  | .ptr d => uptoBulk d + 1
  | .slice elems spare => uptoBulkAll elems + uptoBulkAll spare + 1
  | .agg parts => uptoBulkAll parts + 1
  | .iface _ d => uptoBulk d + 1
  | .map entries => uptoBulkEntries entries + 1
  | .held _ => 1
def uptoBulkAll {H : Type} : List (DataW H) → Nat
  | [] => 0
  | d :: r => uptoBulk d + uptoBulkAll r
def uptoBulkEntries {H : Type} : List (Lit × DataW H) → Nat
  | [] => 0
  | x :: r => uptoBulkEntry x + uptoBulkEntries r
def uptoBulkEntry {H : Type} : Lit × DataW H → Nat
  | (.string bytes, d) => bytes.length + uptoBulk d + 1
  | (_, d) => uptoBulk d + 1
 end
def uptoSmall : (H : Type) → List (DataW H) → Bool := fun _ ds => decide (uptoBulkAll ds ≤ 1048576)
def OpenSpec.upto (s : _root_.Go.ChangeSpec) : _root_.Go.OpenSpec := { _root_.Go.OpenSpec.ofChange s with cond := some uptoSmall }

/-- 'laws.FnTxtLeast', WHERE WHAT IT READS IS OF BULK AT MOST 1048576: true; the input reads as it did. -/
def fnTxtLeastUptoRow : OpenClaim := { program := "ytldmepofbkcmnaadoor", sum := "0d8c4bed4b272b43c01e7a5c164a71a455db126682434d07985438fe619e1043", func := "loop.example/panework/laws.FnTxtLeast", spec := "fnTxtLeast", inPlace := ["internal/bytealg.CountString", "internal/bytealg.IndexByteString", "internal/bytealg.IndexString"], named := ["unicode/utf8.first", "unicode/utf8.acceptRanges", "internal/bytealg.MaxLen"], apart := false, laid := [("unicode/utf8.acceptRanges", laid_unicode_utf8_acceptRanges), ("unicode/utf8.first", laid_unicode_utf8_first)], narrowed := true }
def FnTxtLeastUptoSaid : Prop := fnTxtLeastUptoRow.holds Tryd.pinned (OpenSpec.upto fnTxtLeastSpec)

/-- 'laws.FnTxtGreedy', WHERE WHAT IT READS IS OF BULK AT MOST 1048576: true; the input reads as it did. -/
def fnTxtGreedyUptoRow : OpenClaim := { program := "ytldmepofbkcmnaadoor", sum := "0d8c4bed4b272b43c01e7a5c164a71a455db126682434d07985438fe619e1043", func := "loop.example/panework/laws.FnTxtGreedy", spec := "fnTxtGreedy", inPlace := ["internal/bytealg.CountString", "internal/bytealg.IndexByteString", "internal/bytealg.IndexString"], named := ["unicode/utf8.first", "unicode/utf8.acceptRanges", "internal/bytealg.MaxLen"], apart := false, laid := [("unicode/utf8.acceptRanges", laid_unicode_utf8_acceptRanges), ("unicode/utf8.first", laid_unicode_utf8_first)], narrowed := true }
def FnTxtGreedyUptoSaid : Prop := fnTxtGreedyUptoRow.holds Tryd.pinned (OpenSpec.upto fnTxtGreedySpec)

/-- 'laws.FnTxtMore', WHERE WHAT IT READS IS OF BULK AT MOST 1048576: true; the input reads as it did. -/
def fnTxtMoreUptoRow : OpenClaim := { program := "ytldmepofbkcmnaadoor", sum := "0d8c4bed4b272b43c01e7a5c164a71a455db126682434d07985438fe619e1043", func := "loop.example/panework/laws.FnTxtMore", spec := "fnTxtMore", inPlace := ["internal/bytealg.CountString", "internal/bytealg.IndexByteString", "internal/bytealg.IndexString"], named := ["unicode/utf8.first", "unicode/utf8.acceptRanges", "internal/bytealg.MaxLen"], apart := false, laid := [("unicode/utf8.acceptRanges", laid_unicode_utf8_acceptRanges), ("unicode/utf8.first", laid_unicode_utf8_first)], narrowed := true }
def FnTxtMoreUptoSaid : Prop := fnTxtMoreUptoRow.holds Tryd.pinned (OpenSpec.upto fnTxtMoreSpec)

/-- 'laws.FnTxtWider', WHERE WHAT IT READS IS OF BULK AT MOST 1048576: true; the input reads as it did. -/
def fnTxtWiderUptoRow : OpenClaim := { program := "ytldmepofbkcmnaadoor", sum := "0d8c4bed4b272b43c01e7a5c164a71a455db126682434d07985438fe619e1043", func := "loop.example/panework/laws.FnTxtWider", spec := "fnTxtWider", inPlace := ["internal/bytealg.CountString", "internal/bytealg.IndexByteString", "internal/bytealg.IndexString"], named := ["unicode/utf8.first", "unicode/utf8.acceptRanges", "internal/bytealg.MaxLen"], apart := false, laid := [("unicode/utf8.acceptRanges", laid_unicode_utf8_acceptRanges), ("unicode/utf8.first", laid_unicode_utf8_first)], narrowed := true }
def FnTxtWiderUptoSaid : Prop := fnTxtWiderUptoRow.holds Tryd.pinned (OpenSpec.upto fnTxtWiderSpec)

/-- 'laws.FnTxtWords', WHERE WHAT IT READS IS OF BULK AT MOST 1048576: true; the input reads as it did. -/
def fnTxtWordsUptoRow : OpenClaim := { program := "ytldmepofbkcmnaadoor", sum := "0d8c4bed4b272b43c01e7a5c164a71a455db126682434d07985438fe619e1043", func := "loop.example/panework/laws.FnTxtWords", spec := "fnTxtWords", inPlace := ["internal/bytealg.CountString", "internal/bytealg.IndexByteString", "internal/bytealg.IndexString", "internal/abi.NoEscape", "internal/bytealg.MakeNoZero"], named := ["unicode/utf8.first", "unicode/utf8.acceptRanges", "internal/bytealg.MaxLen"], apart := false, laid := [("unicode/utf8.acceptRanges", laid_unicode_utf8_acceptRanges), ("unicode/utf8.first", laid_unicode_utf8_first)], narrowed := true }
def FnTxtWordsUptoSaid : Prop := fnTxtWordsUptoRow.holds Tryd.pinned (OpenSpec.upto fnTxtWordsSpec)

/-- 'laws.FnTxtLines', WHERE WHAT IT READS IS OF BULK AT MOST 1048576: true; the input reads as it did. -/
def fnTxtLinesUptoRow : OpenClaim := { program := "ytldmepofbkcmnaadoor", sum := "0d8c4bed4b272b43c01e7a5c164a71a455db126682434d07985438fe619e1043", func := "loop.example/panework/laws.FnTxtLines", spec := "fnTxtLines", inPlace := ["internal/bytealg.CountString", "internal/bytealg.IndexByteString", "internal/bytealg.IndexString", "internal/abi.NoEscape", "internal/bytealg.MakeNoZero"], named := ["unicode/utf8.first", "unicode/utf8.acceptRanges", "internal/bytealg.MaxLen"], apart := false, laid := [("unicode/utf8.acceptRanges", laid_unicode_utf8_acceptRanges), ("unicode/utf8.first", laid_unicode_utf8_first)], narrowed := true }
def FnTxtLinesUptoSaid : Prop := fnTxtLinesUptoRow.holds Tryd.pinned (OpenSpec.upto fnTxtLinesSpec)

/-- 'laws.FnCellOk', WHERE WHAT IT READS IS OF BULK AT MOST 1048576: true; the input reads as it did. -/
def fnCellOkUptoRow : OpenClaim := { program := "ytldmepofbkcmnaadoor", sum := "0d8c4bed4b272b43c01e7a5c164a71a455db126682434d07985438fe619e1043", func := "loop.example/panework/laws.FnCellOk", spec := "fnCellOk", inPlace := ["internal/bytealg.CountString", "internal/bytealg.IndexByteString", "internal/bytealg.IndexString"], named := ["unicode/utf8.first", "unicode/utf8.acceptRanges", "internal/bytealg.MaxLen"], apart := false, laid := [("unicode/utf8.acceptRanges", laid_unicode_utf8_acceptRanges), ("unicode/utf8.first", laid_unicode_utf8_first)], narrowed := true }
def FnCellOkUptoSaid : Prop := fnCellOkUptoRow.holds Tryd.pinned (OpenSpec.upto fnCellOkSpec)

/-- 'laws.FnExactCellOk', WHERE WHAT IT READS IS OF BULK AT MOST 1048576: true; the input reads as it did. -/
def fnExactCellOkUptoRow : OpenClaim := { program := "ytldmepofbkcmnaadoor", sum := "0d8c4bed4b272b43c01e7a5c164a71a455db126682434d07985438fe619e1043", func := "loop.example/panework/laws.FnExactCellOk", spec := "fnExactCellOk", inPlace := ["internal/bytealg.CountString", "internal/bytealg.IndexByteString", "internal/bytealg.IndexString"], named := ["unicode/utf8.first", "unicode/utf8.acceptRanges", "internal/bytealg.MaxLen"], apart := false, laid := [("unicode/utf8.acceptRanges", laid_unicode_utf8_acceptRanges), ("unicode/utf8.first", laid_unicode_utf8_first)], narrowed := true }
def FnExactCellOkUptoSaid : Prop := fnExactCellOkUptoRow.holds Tryd.pinned (OpenSpec.upto fnExactCellOkSpec)

end Rows
end Go.Proofs.YtldmepofbkcmnaaDoor
