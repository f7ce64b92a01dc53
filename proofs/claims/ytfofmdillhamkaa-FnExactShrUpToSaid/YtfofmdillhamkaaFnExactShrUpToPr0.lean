/- A part of what the claim of 'FnExactShrUpTo' leans on. -/
import Derived.Test.YtfofmdillhamkaaProg
import Derived.Below
import Derived.Deep.Draws
import Derived.Deep.AppendLies
import Derived.Maps.AppendAt
import Derived.OwnWalk
import Derived.Laws.BytesArg
import Derived.Laws.MakeOwn
import Derived.Laws.OwnMore
import Derived.Deep.OwnRows
import Derived.Tactics
import Derived.Lib.ConvBytes
import Derived.Laws.Slices
import Derived.WalkKit
import Derived.KernelRfl
import Derived.RowKit3
import Derived.Deep.LoopGhost
import Derived.Deep.QuietTactic
import Derived.BigQuiet
import Derived.WideLaws
import Derived.Deep.DeepCutAuto
import Derived.Deep.CutBlock
import Derived.Deep.RegionHeld3
import Derived.Laws.Rows
import Derived.Lib.AppendStr
import Derived.ArgAppend
import Derived.Laws.IdiomCopy
import Derived.OrdersHeld
import Derived.Laws.BitsLemmas
import Derived.RowKit
import Derived.Test.YtfofmdillhamkaaFnExactShrUpToG
import Derived.Test.YtfofmdillhamkaaFnExactShrUpToWWords
import Derived.Test.YtfofmdillhamkaaFnExactShrUpToWLast
import Derived.Test.YtfofmdillhamkaaFnExactShrUpToWTab
import Derived.Test.YtfofmdillhamkaaFnExactShrUpToWApart
import Derived.Test.YtfofmdillhamkaaFnExactShrUpToWFoot
import Derived.Test.YtfofmdillhamkaaFnExactShrUpToWKept
import Derived.Test.YtfofmdillhamkaaFnExactShrUpToWShare
import Derived.Test.YtfofmdillhamkaaFnExactShrUpToWN
import Derived.Test.YtfofmdillhamkaaFnExactShrUpToWAt
import Derived.Laws.StructEq
import Derived.Test.YtfofmdillhamkaaFnExactShrUpToWRepsOne
import Derived.Test.YtfofmdillhamkaaFnExactShrUpToWInv
import Derived.Test.YtfofmdillhamkaaFnExactShrUpToWGuard
import Derived.Test.YtfofmdillhamkaaFnExactShrUpToWMore
namespace Go.Proofs.Ytfofmdillhamkaa.Pr
open Go.RowKit Go.Proofs.YtfofmdillhamkaaW.PrintWords Go.Proofs.YtfofmdillhamkaaW.PrintLast Go.Proofs.YtfofmdillhamkaaW.PrintMore
attribute [local go_sem] max2_int min2_int max_two min_two max_three min_three max_four min_four
set_option linter.unusedVariables false
set_option linter.unusedSimpArgs false
def errW : Option Int → Value
  | none => .nilIface
  | some c => .iface 0 (.int .i64 c)
theorem errW_none : errW none = .nilIface := rfl
theorem errW_some (c : Int) : errW (some c) = .iface 0 (.int .i64 c) := rfl
theorem info3 : (Try.prog.info? 3).map (fun i => (i.zero, i.size, i.bytes)) = some (some (.int .i64 0), 1, 8) := by kernel_rfl
theorem info4 : (Try.prog.info? 4).map (fun i => (i.zero, i.size, i.bytes)) = some (some (.bool false), 1, 1) := by kernel_rfl
end Go.Proofs.Ytfofmdillhamkaa.Pr
