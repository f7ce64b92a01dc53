/-
  No cell of these rows narrows 'for every input' (looked for: loops, veiled, ifaces, maps, wideKeys, modest, calm, conditions, laid).
  DERIVED. THE GIVEN ROWS OF THIS SEAT. 5 by the template 'for every input the law returns true; each argument reads behind the call as it read before'; 0 by the template 'total and deterministic' (their statements: YtemcdfkmpikegaaTotals.lean).
  GIVEN WITH THE SEED: the statements are not yours to turn. If you find one false, say at which input.
  Laid BY PROGRAM, IN A SANDBOX (cutbox-rows.mjs): the forced cells as the released guide's own fill.sh prints them over the translation 1cdebc55fcb97c2d… (all of the seat's roots in one cut). By AI agents, Wed Nov 11 2026. No macro, syntax, notation, axiom, sorry.
-/
import Derived.Test.YtemcdfkmpikegaaChecked
import GoSem.Claim
import GoSem.ClaimJoined
import GoSem.ClaimMapViews
import Derived.JoinedTies
import Derived.KernelRfl
namespace Go.Proofs.Ytemcdfkmpikegaa
/- THE CELL 'sum', in the pinned program and in every row, IS THE sha256 OF THE DUMP (.gsa) THAT YtemcdfkmpikegaaProg.lean LOADS. Nothing in Lean hashes anything: it is a label: what it is worth is what the hold of that sum in a sandbox is worth. -/
noncomputable def Try.pinned : Pinned := { name := "ytemcdfkmpikegaa", sum := "1cdebc55fcb97c2dd5805616b8401dba9564cee22af6ccd2f6c7933a20e19038", checked := Try.checked }
namespace Rows
def none {H : Type} : Left H := { results := [], args := [] }

/-- 'laws.FnExactTblCells': WHATEVER THE INPUT: true; the input reads as it did. -/
def fnExactTblCellsSpec : ChangeSpec := { name := "fnExactTblCells", fn := fun _ => fun
  | [d] => { results := [.lit (.bool true)], args := [d] }
  | _ => none }
def fnExactTblCellsRow : OpenClaim := { program := "ytemcdfkmpikegaa", sum := "1cdebc55fcb97c2dd5805616b8401dba9564cee22af6ccd2f6c7933a20e19038", func := "loop.example/panework/laws.FnExactTblCells", spec := "fnExactTblCells", apart := false }
def FnExactTblCellsSaid : Prop := fnExactTblCellsRow.holds Try.pinned (OpenSpec.ofChange fnExactTblCellsSpec)

/-- ITS FALSE NEIGHBOUR: 'it returns false'. Refute it at one input. -/
def fnExactTblCellsWrong : ChangeSpec := { name := "fnExactTblCells", fn := fun _ => fun
  | [d] => { results := [.lit (.bool false)], args := [d] }
  | _ => none }
def FnExactTblCellsWrongFalsely : Prop := fnExactTblCellsRow.holds Try.pinned (OpenSpec.ofChange fnExactTblCellsWrong)

/-- 'laws.FnExactGrdFind': WHATEVER THE INPUT: true; the input reads as it did. -/
def fnExactGrdFindSpec : ChangeSpec := { name := "fnExactGrdFind", fn := fun _ => fun
  | [d1, d2, d3] => { results := [.lit (.bool true)], args := [d1, d2, d3] }
  | _ => none }
def fnExactGrdFindRow : OpenClaim := { program := "ytemcdfkmpikegaa", sum := "1cdebc55fcb97c2dd5805616b8401dba9564cee22af6ccd2f6c7933a20e19038", func := "loop.example/panework/laws.FnExactGrdFind", spec := "fnExactGrdFind", unfollowed := true, recurses := true, apart := false }
def FnExactGrdFindSaid : Prop := fnExactGrdFindRow.holds Try.pinned (OpenSpec.ofChange fnExactGrdFindSpec)

/-- ITS FALSE NEIGHBOUR: 'it returns false'. Refute it at one input. -/
def fnExactGrdFindWrong : ChangeSpec := { name := "fnExactGrdFind", fn := fun _ => fun
  | [d1, d2, d3] => { results := [.lit (.bool false)], args := [d1, d2, d3] }
  | _ => none }
def FnExactGrdFindWrongFalsely : Prop := fnExactGrdFindRow.holds Try.pinned (OpenSpec.ofChange fnExactGrdFindWrong)

/-- 'laws.FnExactGrdOk': WHATEVER THE INPUT: true; the input reads as it did. -/
def fnExactGrdOkSpec : ChangeSpec := { name := "fnExactGrdOk", fn := fun _ => fun
  | [d] => { results := [.lit (.bool true)], args := [d] }
  | _ => none }
def fnExactGrdOkRow : OpenClaim := { program := "ytemcdfkmpikegaa", sum := "1cdebc55fcb97c2dd5805616b8401dba9564cee22af6ccd2f6c7933a20e19038", func := "loop.example/panework/laws.FnExactGrdOk", spec := "fnExactGrdOk", unfollowed := true, recurses := true, apart := false }
def FnExactGrdOkSaid : Prop := fnExactGrdOkRow.holds Try.pinned (OpenSpec.ofChange fnExactGrdOkSpec)

/-- ITS FALSE NEIGHBOUR: 'it returns false'. Refute it at one input. -/
def fnExactGrdOkWrong : ChangeSpec := { name := "fnExactGrdOk", fn := fun _ => fun
  | [d] => { results := [.lit (.bool false)], args := [d] }
  | _ => none }
def FnExactGrdOkWrongFalsely : Prop := fnExactGrdOkRow.holds Try.pinned (OpenSpec.ofChange fnExactGrdOkWrong)

/-- 'laws.FnExactGrdEmpty': WHATEVER THE INPUT: true; the input reads as it did. -/
def fnExactGrdEmptySpec : ChangeSpec := { name := "fnExactGrdEmpty", fn := fun _ => fun
  | [d] => { results := [.lit (.bool true)], args := [d] }
  | _ => none }
def fnExactGrdEmptyRow : OpenClaim := { program := "ytemcdfkmpikegaa", sum := "1cdebc55fcb97c2dd5805616b8401dba9564cee22af6ccd2f6c7933a20e19038", func := "loop.example/panework/laws.FnExactGrdEmpty", spec := "fnExactGrdEmpty", unfollowed := true, recurses := true, apart := false }
def FnExactGrdEmptySaid : Prop := fnExactGrdEmptyRow.holds Try.pinned (OpenSpec.ofChange fnExactGrdEmptySpec)

/-- ITS FALSE NEIGHBOUR: 'it returns false'. Refute it at one input. -/
def fnExactGrdEmptyWrong : ChangeSpec := { name := "fnExactGrdEmpty", fn := fun _ => fun
  | [d] => { results := [.lit (.bool false)], args := [d] }
  | _ => none }
def FnExactGrdEmptyWrongFalsely : Prop := fnExactGrdEmptyRow.holds Try.pinned (OpenSpec.ofChange fnExactGrdEmptyWrong)

/-- 'laws.FnExactGrdBlocks': WHATEVER THE INPUT: true; the input reads as it did. -/
def fnExactGrdBlocksSpec : ChangeSpec := { name := "fnExactGrdBlocks", fn := fun _ => fun
  | [d] => { results := [.lit (.bool true)], args := [d] }
  | _ => none }
def fnExactGrdBlocksRow : OpenClaim := { program := "ytemcdfkmpikegaa", sum := "1cdebc55fcb97c2dd5805616b8401dba9564cee22af6ccd2f6c7933a20e19038", func := "loop.example/panework/laws.FnExactGrdBlocks", spec := "fnExactGrdBlocks", unfollowed := true, recurses := true, apart := false }
def FnExactGrdBlocksSaid : Prop := fnExactGrdBlocksRow.holds Try.pinned (OpenSpec.ofChange fnExactGrdBlocksSpec)

/-- ITS FALSE NEIGHBOUR: 'it returns false'. Refute it at one input. -/
def fnExactGrdBlocksWrong : ChangeSpec := { name := "fnExactGrdBlocks", fn := fun _ => fun
  | [d] => { results := [.lit (.bool false)], args := [d] }
  | _ => none }
def FnExactGrdBlocksWrongFalsely : Prop := fnExactGrdBlocksRow.holds Try.pinned (OpenSpec.ofChange fnExactGrdBlocksWrong)

/- THE SECOND FORM. 'bulk': how many values and letters a reading holds, each counted each time it is reached (what is shared counts as often as it is met; a slice's spare places count too). A statement '..UptoSaid' is the law's where the arguments, and the package variables that the reading takes, are together of bulk at most 1048576: NARROWER than '..Said'. Prove '..Said' where nothing that the law and all that it calls make is longer than what came in: it says more and counts as full. Else prove '..UptoSaid'. A law counts once. -/
mutual
def uptoBulk {H : Type} : DataW H → Nat
  | .lit (.string bytes) => bytes.length + 1
  | .lit _ => 1
  | .nil => 1
  | .ptr d => uptoBulk d + 1
  | .slice elems spare => uptoBulkAll elems + uptoBulkAll spare + 1
  | .agg parts => uptoBulkAll parts + 1
  | .iface _ d => uptoBulk d + 1
  | .map entries => uptoBulkEntries entries + 1
  | .held _ => 1
def uptoBulkAll {H : Type} : List (DataW H) → Nat
  | [] => 0
  | d :: r => uptoBulk d + uptoBulkAll r
def uptoBulkEntries {H : Type} : List (Lit × DataW H) → Nat
  | [] => 0
  | x :: r => uptoBulkEntry x + uptoBulkEntries r
def uptoBulkEntry {H : Type} : Lit × DataW H → Nat
  | (.string bytes, d) => bytes.length + uptoBulk d + 1
  | (_, d) => uptoBulk d + 1
 end
def uptoSmall : (H : Type) → List (DataW H) → Bool := fun _ ds => decide (uptoBulkAll ds ≤ 1048576)
def OpenSpec.upto (s : _root_.Go.ChangeSpec) : _root_.Go.OpenSpec := { _root_.Go.OpenSpec.ofChange s with cond := some uptoSmall }

/-- 'laws.FnExactTblCells', WHERE WHAT IT READS IS OF BULK AT MOST 1048576: true; the input reads as it did. -/
def fnExactTblCellsUptoRow : OpenClaim := { program := "ytemcdfkmpikegaa", sum := "1cdebc55fcb97c2dd5805616b8401dba9564cee22af6ccd2f6c7933a20e19038", func := "loop.example/panework/laws.FnExactTblCells", spec := "fnExactTblCells", apart := false, narrowed := true }
def FnExactTblCellsUptoSaid : Prop := fnExactTblCellsUptoRow.holds Try.pinned (OpenSpec.upto fnExactTblCellsSpec)

/-- 'laws.FnExactGrdFind', WHERE WHAT IT READS IS OF BULK AT MOST 1048576: true; the input reads as it did. -/
def fnExactGrdFindUptoRow : OpenClaim := { program := "ytemcdfkmpikegaa", sum := "1cdebc55fcb97c2dd5805616b8401dba9564cee22af6ccd2f6c7933a20e19038", func := "loop.example/panework/laws.FnExactGrdFind", spec := "fnExactGrdFind", unfollowed := true, recurses := true, apart := false, narrowed := true }
def FnExactGrdFindUptoSaid : Prop := fnExactGrdFindUptoRow.holds Try.pinned (OpenSpec.upto fnExactGrdFindSpec)

/-- 'laws.FnExactGrdOk', WHERE WHAT IT READS IS OF BULK AT MOST 1048576: true; the input reads as it did. -/
def fnExactGrdOkUptoRow : OpenClaim := { program := "ytemcdfkmpikegaa", sum := "1cdebc55fcb97c2dd5805616b8401dba9564cee22af6ccd2f6c7933a20e19038", func := "loop.example/panework/laws.FnExactGrdOk", spec := "fnExactGrdOk", unfollowed := true, recurses := true, apart := false, narrowed := true }
def FnExactGrdOkUptoSaid : Prop := fnExactGrdOkUptoRow.holds Try.pinned (OpenSpec.upto fnExactGrdOkSpec)

/-- 'laws.FnExactGrdEmpty', WHERE WHAT IT READS IS OF BULK AT MOST 1048576: true; the input reads as it did. -/
def fnExactGrdEmptyUptoRow : OpenClaim := { program := "ytemcdfkmpikegaa", sum := "1cdebc55fcb97c2dd5805616b8401dba9564cee22af6ccd2f6c7933a20e19038", func := "loop.example/panework/laws.FnExactGrdEmpty", spec := "fnExactGrdEmpty", unfollowed := true, recurses := true, apart := false, narrowed := true }
def FnExactGrdEmptyUptoSaid : Prop := fnExactGrdEmptyUptoRow.holds Try.pinned (OpenSpec.upto fnExactGrdEmptySpec)

/-- 'laws.FnExactGrdBlocks', WHERE WHAT IT READS IS OF BULK AT MOST 1048576: true; the input reads as it did. -/
def fnExactGrdBlocksUptoRow : OpenClaim := { program := "ytemcdfkmpikegaa", sum := "1cdebc55fcb97c2dd5805616b8401dba9564cee22af6ccd2f6c7933a20e19038", func := "loop.example/panework/laws.FnExactGrdBlocks", spec := "fnExactGrdBlocks", unfollowed := true, recurses := true, apart := false, narrowed := true }
def FnExactGrdBlocksUptoSaid : Prop := fnExactGrdBlocksUptoRow.holds Try.pinned (OpenSpec.upto fnExactGrdBlocksSpec)

end Rows
end Go.Proofs.Ytemcdfkmpikegaa
