/-
  No cell of these rows narrows 'for every input' (looked for: loops, veiled, ifaces, maps, wideKeys, modest, calm, conditions, laid).
  DERIVED. THE GIVEN ROWS OF THIS SEAT. 8 by the template 'for every input the law returns true; each argument reads behind the call as it read before'; 0 by the template 'total and deterministic' (their statements: YtfofmdillhamkaaTotals.lean).
  GIVEN WITH THE SEED: the statements are not yours to turn. If you find one false, say at which input.
  Laid BY PROGRAM, IN A SANDBOX (cutbox-rows.mjs): the forced cells as the released guide's own fill.sh prints them over the translation b221d5fa7fd18ced… (all of the seat's roots in one cut). By AI agents, Wed Nov 11 2026. No macro, syntax, notation, axiom, sorry.
-/
import Derived.Test.YtfofmdillhamkaaChecked
import GoSem.Claim
import GoSem.ClaimJoined
import GoSem.ClaimMapViews
import Derived.JoinedTies
import Derived.KernelRfl
namespace Go.Proofs.Ytfofmdillhamkaa
/- THE CELL 'sum', in the pinned program and in every row, IS THE sha256 OF THE DUMP (.gsa) THAT YtfofmdillhamkaaProg.lean LOADS. Nothing in Lean hashes anything: it is a label: what it is worth is what the hold of that sum in a sandbox is worth. -/
noncomputable def Try.pinned : Pinned := { name := "ytfofmdillhamkaa", sum := "b221d5fa7fd18ced0d7c8ec81e8dac644b716d7527412c8afcfe2b4ecb12ea51", checked := Try.checked }
namespace Rows
def none {H : Type} : Left H := { results := [], args := [] }

/-- 'laws.FnExactConstants': WHATEVER THE INPUT: true; the input reads as it did. -/
def fnExactConstantsSpec : ChangeSpec := { name := "fnExactConstants", fn := fun _ => fun
  | [] => { results := [.lit (.bool true)], args := [] }
  | _ => none }
def fnExactConstantsRow : OpenClaim := { program := "ytfofmdillhamkaa", sum := "b221d5fa7fd18ced0d7c8ec81e8dac644b716d7527412c8afcfe2b4ecb12ea51", func := "loop.example/panework/laws.FnExactConstants", spec := "fnExactConstants", apart := false }
def FnExactConstantsSaid : Prop := fnExactConstantsRow.holds Try.pinned (OpenSpec.ofChange fnExactConstantsSpec)

/-- ITS FALSE NEIGHBOUR: 'it returns false'. Refute it at one input. -/
def fnExactConstantsWrong : ChangeSpec := { name := "fnExactConstants", fn := fun _ => fun
  | [] => { results := [.lit (.bool false)], args := [] }
  | _ => none }
def FnExactConstantsWrongFalsely : Prop := fnExactConstantsRow.holds Try.pinned (OpenSpec.ofChange fnExactConstantsWrong)

/-- 'laws.FnExactBrdOk': WHATEVER THE INPUT: true; the input reads as it did. -/
def fnExactBrdOkSpec : ChangeSpec := { name := "fnExactBrdOk", fn := fun _ => fun
  | [d] => { results := [.lit (.bool true)], args := [d] }
  | _ => none }
def fnExactBrdOkRow : OpenClaim := { program := "ytfofmdillhamkaa", sum := "b221d5fa7fd18ced0d7c8ec81e8dac644b716d7527412c8afcfe2b4ecb12ea51", func := "loop.example/panework/laws.FnExactBrdOk", spec := "fnExactBrdOk", apart := false }
def FnExactBrdOkSaid : Prop := fnExactBrdOkRow.holds Try.pinned (OpenSpec.ofChange fnExactBrdOkSpec)

/-- ITS FALSE NEIGHBOUR: 'it returns false'. Refute it at one input. -/
def fnExactBrdOkWrong : ChangeSpec := { name := "fnExactBrdOk", fn := fun _ => fun
  | [d] => { results := [.lit (.bool false)], args := [d] }
  | _ => none }
def FnExactBrdOkWrongFalsely : Prop := fnExactBrdOkRow.holds Try.pinned (OpenSpec.ofChange fnExactBrdOkWrong)

/-- 'laws.FnBrdOk': WHATEVER THE INPUT: true; the input reads as it did. -/
def fnBrdOkSpec : ChangeSpec := { name := "fnBrdOk", fn := fun _ => fun
  | [d] => { results := [.lit (.bool true)], args := [d] }
  | _ => none }
def fnBrdOkRow : OpenClaim := { program := "ytfofmdillhamkaa", sum := "b221d5fa7fd18ced0d7c8ec81e8dac644b716d7527412c8afcfe2b4ecb12ea51", func := "loop.example/panework/laws.FnBrdOk", spec := "fnBrdOk", apart := false }
def FnBrdOkSaid : Prop := fnBrdOkRow.holds Try.pinned (OpenSpec.ofChange fnBrdOkSpec)

/-- ITS FALSE NEIGHBOUR: 'it returns false'. Refute it at one input. -/
def fnBrdOkWrong : ChangeSpec := { name := "fnBrdOk", fn := fun _ => fun
  | [d] => { results := [.lit (.bool false)], args := [d] }
  | _ => none }
def FnBrdOkWrongFalsely : Prop := fnBrdOkRow.holds Try.pinned (OpenSpec.ofChange fnBrdOkWrong)

/-- 'laws.FnExactBrdRead': WHATEVER THE INPUT: true; the input reads as it did. -/
def fnExactBrdReadSpec : ChangeSpec := { name := "fnExactBrdRead", fn := fun _ => fun
  | [d] => { results := [.lit (.bool true)], args := [d] }
  | _ => none }
def fnExactBrdReadRow : OpenClaim := { program := "ytfofmdillhamkaa", sum := "b221d5fa7fd18ced0d7c8ec81e8dac644b716d7527412c8afcfe2b4ecb12ea51", func := "loop.example/panework/laws.FnExactBrdRead", spec := "fnExactBrdRead", apart := false }
def FnExactBrdReadSaid : Prop := fnExactBrdReadRow.holds Try.pinned (OpenSpec.ofChange fnExactBrdReadSpec)

/-- ITS FALSE NEIGHBOUR: 'it returns false'. Refute it at one input. -/
def fnExactBrdReadWrong : ChangeSpec := { name := "fnExactBrdRead", fn := fun _ => fun
  | [d] => { results := [.lit (.bool false)], args := [d] }
  | _ => none }
def FnExactBrdReadWrongFalsely : Prop := fnExactBrdReadRow.holds Try.pinned (OpenSpec.ofChange fnExactBrdReadWrong)

/-- 'laws.FnExactShrOk': WHATEVER THE INPUT: true; the input reads as it did. -/
def fnExactShrOkSpec : ChangeSpec := { name := "fnExactShrOk", fn := fun _ => fun
  | [d1, d2] => { results := [.lit (.bool true)], args := [d1, d2] }
  | _ => none }
def fnExactShrOkRow : OpenClaim := { program := "ytfofmdillhamkaa", sum := "b221d5fa7fd18ced0d7c8ec81e8dac644b716d7527412c8afcfe2b4ecb12ea51", func := "loop.example/panework/laws.FnExactShrOk", spec := "fnExactShrOk", unfollowed := true, recurses := true, apart := false }
def FnExactShrOkSaid : Prop := fnExactShrOkRow.holds Try.pinned (OpenSpec.ofChange fnExactShrOkSpec)

/-- ITS FALSE NEIGHBOUR: 'it returns false'. Refute it at one input. -/
def fnExactShrOkWrong : ChangeSpec := { name := "fnExactShrOk", fn := fun _ => fun
  | [d1, d2] => { results := [.lit (.bool false)], args := [d1, d2] }
  | _ => none }
def FnExactShrOkWrongFalsely : Prop := fnExactShrOkRow.holds Try.pinned (OpenSpec.ofChange fnExactShrOkWrong)

/-- 'laws.FnExactShrDue': WHATEVER THE INPUT: true; the input reads as it did. -/
def fnExactShrDueSpec : ChangeSpec := { name := "fnExactShrDue", fn := fun _ => fun
  | [d1, d2, d3] => { results := [.lit (.bool true)], args := [d1, d2, d3] }
  | _ => none }
def fnExactShrDueRow : OpenClaim := { program := "ytfofmdillhamkaa", sum := "b221d5fa7fd18ced0d7c8ec81e8dac644b716d7527412c8afcfe2b4ecb12ea51", func := "loop.example/panework/laws.FnExactShrDue", spec := "fnExactShrDue", unfollowed := true, recurses := true, apart := false }
def FnExactShrDueSaid : Prop := fnExactShrDueRow.holds Try.pinned (OpenSpec.ofChange fnExactShrDueSpec)

/-- ITS FALSE NEIGHBOUR: 'it returns false'. Refute it at one input. -/
def fnExactShrDueWrong : ChangeSpec := { name := "fnExactShrDue", fn := fun _ => fun
  | [d1, d2, d3] => { results := [.lit (.bool false)], args := [d1, d2, d3] }
  | _ => none }
def FnExactShrDueWrongFalsely : Prop := fnExactShrDueRow.holds Try.pinned (OpenSpec.ofChange fnExactShrDueWrong)

/-- 'laws.FnExactShrShare': WHATEVER THE INPUT: true; the input reads as it did. -/
def fnExactShrShareSpec : ChangeSpec := { name := "fnExactShrShare", fn := fun _ => fun
  | [d1, d2] => { results := [.lit (.bool true)], args := [d1, d2] }
  | _ => none }
def fnExactShrShareRow : OpenClaim := { program := "ytfofmdillhamkaa", sum := "b221d5fa7fd18ced0d7c8ec81e8dac644b716d7527412c8afcfe2b4ecb12ea51", func := "loop.example/panework/laws.FnExactShrShare", spec := "fnExactShrShare", unfollowed := true, recurses := true, apart := false }
def FnExactShrShareSaid : Prop := fnExactShrShareRow.holds Try.pinned (OpenSpec.ofChange fnExactShrShareSpec)

/-- ITS FALSE NEIGHBOUR: 'it returns false'. Refute it at one input. -/
def fnExactShrShareWrong : ChangeSpec := { name := "fnExactShrShare", fn := fun _ => fun
  | [d1, d2] => { results := [.lit (.bool false)], args := [d1, d2] }
  | _ => none }
def FnExactShrShareWrongFalsely : Prop := fnExactShrShareRow.holds Try.pinned (OpenSpec.ofChange fnExactShrShareWrong)

/-- 'laws.FnExactShrUpTo': WHATEVER THE INPUT: true; the input reads as it did. -/
def fnExactShrUpToSpec : ChangeSpec := { name := "fnExactShrUpTo", fn := fun _ => fun
  | [d1, d2] => { results := [.lit (.bool true)], args := [d1, d2] }
  | _ => none }
def fnExactShrUpToRow : OpenClaim := { program := "ytfofmdillhamkaa", sum := "b221d5fa7fd18ced0d7c8ec81e8dac644b716d7527412c8afcfe2b4ecb12ea51", func := "loop.example/panework/laws.FnExactShrUpTo", spec := "fnExactShrUpTo", unfollowed := true, recurses := true, apart := false }
def FnExactShrUpToSaid : Prop := fnExactShrUpToRow.holds Try.pinned (OpenSpec.ofChange fnExactShrUpToSpec)

/-- ITS FALSE NEIGHBOUR: 'it returns false'. Refute it at one input. -/
def fnExactShrUpToWrong : ChangeSpec := { name := "fnExactShrUpTo", fn := fun _ => fun
  | [d1, d2] => { results := [.lit (.bool false)], args := [d1, d2] }
  | _ => none }
def FnExactShrUpToWrongFalsely : Prop := fnExactShrUpToRow.holds Try.pinned (OpenSpec.ofChange fnExactShrUpToWrong)

/- THE SECOND FORM. 'bulk': how many values and letters a reading holds, each counted each time it is reached (what is shared counts as often as it is met; a slice's spare places count too). A statement '..UptoSaid' is the law's where the arguments, and the package variables that the reading takes, are together of bulk at most 1048576: NARROWER than '..Said'. Prove '..Said' where nothing that the law and all that it calls make is longer than what came in: it says more and counts as full. Else prove '..UptoSaid'. A law counts once. -/
mutual
def uptoBulk {H : Type} : DataW H → Nat
  | .lit (.string bytes) => bytes.length + 1
  | .lit _ => 1
  | .nil => 1
  | .ptr d => uptoBulk d + 1
  | .slice elems spare => uptoBulkAll elems + uptoBulkAll spare + 1
  | .agg parts => uptoBulkAll parts + 1
  | .iface _ d => uptoBulk d + 1
  | .map entries => uptoBulkEntries entries + 1
  | .held _ => 1
def uptoBulkAll {H : Type} : List (DataW H) → Nat
  | [] => 0
  | d :: r => uptoBulk d + uptoBulkAll r
def uptoBulkEntries {H : Type} : List (Lit × DataW H) → Nat
  | [] => 0
  | x :: r => uptoBulkEntry x + uptoBulkEntries r
def uptoBulkEntry {H : Type} : Lit × DataW H → Nat
  | (.string bytes, d) => bytes.length + uptoBulk d + 1
  | (_, d) => uptoBulk d + 1
 end
def uptoSmall : (H : Type) → List (DataW H) → Bool := fun _ ds => decide (uptoBulkAll ds ≤ 1048576)
def OpenSpec.upto (s : _root_.Go.ChangeSpec) : _root_.Go.OpenSpec := { _root_.Go.OpenSpec.ofChange s with cond := some uptoSmall }

/-- 'laws.FnExactConstants', WHERE WHAT IT READS IS OF BULK AT MOST 1048576: true; the input reads as it did. -/
def fnExactConstantsUptoRow : OpenClaim := { program := "ytfofmdillhamkaa", sum := "b221d5fa7fd18ced0d7c8ec81e8dac644b716d7527412c8afcfe2b4ecb12ea51", func := "loop.example/panework/laws.FnExactConstants", spec := "fnExactConstants", apart := false, narrowed := true }
def FnExactConstantsUptoSaid : Prop := fnExactConstantsUptoRow.holds Try.pinned (OpenSpec.upto fnExactConstantsSpec)

/-- 'laws.FnExactBrdOk', WHERE WHAT IT READS IS OF BULK AT MOST 1048576: true; the input reads as it did. -/
def fnExactBrdOkUptoRow : OpenClaim := { program := "ytfofmdillhamkaa", sum := "b221d5fa7fd18ced0d7c8ec81e8dac644b716d7527412c8afcfe2b4ecb12ea51", func := "loop.example/panework/laws.FnExactBrdOk", spec := "fnExactBrdOk", apart := false, narrowed := true }
def FnExactBrdOkUptoSaid : Prop := fnExactBrdOkUptoRow.holds Try.pinned (OpenSpec.upto fnExactBrdOkSpec)

/-- 'laws.FnBrdOk', WHERE WHAT IT READS IS OF BULK AT MOST 1048576: true; the input reads as it did. -/
def fnBrdOkUptoRow : OpenClaim := { program := "ytfofmdillhamkaa", sum := "b221d5fa7fd18ced0d7c8ec81e8dac644b716d7527412c8afcfe2b4ecb12ea51", func := "loop.example/panework/laws.FnBrdOk", spec := "fnBrdOk", apart := false, narrowed := true }
def FnBrdOkUptoSaid : Prop := fnBrdOkUptoRow.holds Try.pinned (OpenSpec.upto fnBrdOkSpec)

/-- 'laws.FnExactBrdRead', WHERE WHAT IT READS IS OF BULK AT MOST 1048576: true; the input reads as it did. -/
def fnExactBrdReadUptoRow : OpenClaim := { program := "ytfofmdillhamkaa", sum := "b221d5fa7fd18ced0d7c8ec81e8dac644b716d7527412c8afcfe2b4ecb12ea51", func := "loop.example/panework/laws.FnExactBrdRead", spec := "fnExactBrdRead", apart := false, narrowed := true }
def FnExactBrdReadUptoSaid : Prop := fnExactBrdReadUptoRow.holds Try.pinned (OpenSpec.upto fnExactBrdReadSpec)

/-- 'laws.FnExactShrOk', WHERE WHAT IT READS IS OF BULK AT MOST 1048576: true; the input reads as it did. -/
def fnExactShrOkUptoRow : OpenClaim := { program := "ytfofmdillhamkaa", sum := "b221d5fa7fd18ced0d7c8ec81e8dac644b716d7527412c8afcfe2b4ecb12ea51", func := "loop.example/panework/laws.FnExactShrOk", spec := "fnExactShrOk", unfollowed := true, recurses := true, apart := false, narrowed := true }
def FnExactShrOkUptoSaid : Prop := fnExactShrOkUptoRow.holds Try.pinned (OpenSpec.upto fnExactShrOkSpec)

/-- 'laws.FnExactShrDue', WHERE WHAT IT READS IS OF BULK AT MOST 1048576: true; the input reads as it did. -/
def fnExactShrDueUptoRow : OpenClaim := { program := "ytfofmdillhamkaa", sum := "b221d5fa7fd18ced0d7c8ec81e8dac644b716d7527412c8afcfe2b4ecb12ea51", func := "loop.example/panework/laws.FnExactShrDue", spec := "fnExactShrDue", unfollowed := true, recurses := true, apart := false, narrowed := true }
def FnExactShrDueUptoSaid : Prop := fnExactShrDueUptoRow.holds Try.pinned (OpenSpec.upto fnExactShrDueSpec)

/-- 'laws.FnExactShrShare', WHERE WHAT IT READS IS OF BULK AT MOST 1048576: true; the input reads as it did. -/
def fnExactShrShareUptoRow : OpenClaim := { program := "ytfofmdillhamkaa", sum := "b221d5fa7fd18ced0d7c8ec81e8dac644b716d7527412c8afcfe2b4ecb12ea51", func := "loop.example/panework/laws.FnExactShrShare", spec := "fnExactShrShare", unfollowed := true, recurses := true, apart := false, narrowed := true }
def FnExactShrShareUptoSaid : Prop := fnExactShrShareUptoRow.holds Try.pinned (OpenSpec.upto fnExactShrShareSpec)

/-- 'laws.FnExactShrUpTo', WHERE WHAT IT READS IS OF BULK AT MOST 1048576: true; the input reads as it did. -/
def fnExactShrUpToUptoRow : OpenClaim := { program := "ytfofmdillhamkaa", sum := "b221d5fa7fd18ced0d7c8ec81e8dac644b716d7527412c8afcfe2b4ecb12ea51", func := "loop.example/panework/laws.FnExactShrUpTo", spec := "fnExactShrUpTo", unfollowed := true, recurses := true, apart := false, narrowed := true }
def FnExactShrUpToUptoSaid : Prop := fnExactShrUpToUptoRow.holds Try.pinned (OpenSpec.upto fnExactShrUpToSpec)

end Rows
end Go.Proofs.Ytfofmdillhamkaa
