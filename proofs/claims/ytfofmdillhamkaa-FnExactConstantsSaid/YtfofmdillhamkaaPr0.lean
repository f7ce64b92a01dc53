-- Printed by a turned print (wip/tool/pr.py) out of the translation; Lean checks it.
import Derived.Test.YtfofmdillhamkaaProg
import Derived.Below
import Derived.Deep.Draws
import Derived.Deep.AppendLies
import Derived.Maps.AppendAt
import Derived.OwnWalk
import Derived.Laws.BytesArg
import Derived.Laws.MakeOwn
import Derived.Laws.OwnMore
import Derived.Deep.OwnRows
import Derived.Tactics
import Derived.Lib.ConvBytes
import Derived.Laws.Slices
import Derived.WalkKit
import Derived.KernelRfl
import Derived.RowKit3
import Derived.Deep.LoopGhost
import Derived.Deep.QuietTactic
import Derived.BigQuiet
import Derived.WideLaws
import Derived.Deep.DeepCutAuto
import Derived.Deep.CutBlock
import Derived.Deep.RegionHeld3
import Derived.Laws.Rows
import Derived.Lib.AppendStr
import Derived.ArgAppend
import Derived.Laws.IdiomCopy
import Derived.OrdersHeld
import Derived.Laws.BitsLemmas
import Derived.RowKit
import Derived.Test.YtfofmdillhamkaaWWords
import Derived.Test.YtfofmdillhamkaaWLast
import Derived.Test.YtfofmdillhamkaaWTab
import Derived.Test.YtfofmdillhamkaaWFour
import Derived.Test.YtfofmdillhamkaaWQPut
import Derived.Test.YtfofmdillhamkaaWApart
import Derived.Test.YtfofmdillhamkaaWArr
import Derived.Test.YtfofmdillhamkaaWZeros
import Derived.Test.YtfofmdillhamkaaWFoot
import Derived.Test.YtfofmdillhamkaaWKept
import Derived.Test.YtfofmdillhamkaaWShare
import Derived.Test.YtfofmdillhamkaaWN
import Derived.Test.YtfofmdillhamkaaWFootNe
import Derived.Test.YtfofmdillhamkaaWAt
import Derived.Test.YtfofmdillhamkaaWEqStruct
import Derived.Test.YtfofmdillhamkaaWRepsOne
import Derived.Test.YtfofmdillhamkaaWInv
import Derived.Test.YtfofmdillhamkaaWInvWords
import Derived.Test.YtfofmdillhamkaaWGuard
import Derived.Test.YtfofmdillhamkaaWNEv
import Derived.Test.YtfofmdillhamkaaWMore
namespace Go.Proofs.Ytfofmdillhamkaa.Pr
open Go.RowKit Go.Proofs.YtfofmdillhamkaaW.PrintWords Go.Proofs.YtfofmdillhamkaaW.PrintLast Go.Proofs.YtfofmdillhamkaaW.PrintMore
attribute [local go_sem] max2_int min2_int max_two min_two max_three min_three max_four min_four   -- for this text's walks alone
set_option linter.unusedVariables false
set_option linter.unusedSimpArgs false



def errW : Option Int → Value
  | none => .nilIface
  | some c => .iface 0 (.int .i64 c)
theorem errW_none : errW none = .nilIface := rfl
theorem errW_some (c : Int) : errW (some c) = .iface 0 (.int .i64 c) := rfl

theorem info3 : (Try.prog.info? 3).map (fun i => (i.zero, i.size, i.bytes)) = some (some (.int .i64 0), 1, 8) := by kernel_rfl
theorem info4 : (Try.prog.info? 4).map (fun i => (i.zero, i.size, i.bytes)) = some (some (.bool false), 1, 1) := by kernel_rfl
theorem info5 : (Try.prog.info? 5).map (fun i => (i.zero, i.size, i.bytes)) = some (some (.int .u8 0), 1, 1) := by kernel_rfl
-- the values' own types

end Go.Proofs.Ytfofmdillhamkaa.Pr
