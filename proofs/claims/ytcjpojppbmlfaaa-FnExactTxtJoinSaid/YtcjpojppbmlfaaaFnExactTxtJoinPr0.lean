/- A part of what the claim of 'FnExactTxtJoin' leans on. -/
import Derived.Test.YtcjpojppbmlfaaaProg
import Derived.Below
import Derived.Deep.Draws
import Derived.Deep.AppendLies
import Derived.Maps.AppendAt
import Derived.OwnWalk
import Derived.Laws.BytesArg
import Derived.Laws.MakeOwn
import Derived.Laws.OwnMore
import Derived.Deep.OwnRows
import Derived.Tactics
import Derived.Lib.ConvBytes
import Derived.Laws.Slices
import Derived.WalkKit
import Derived.KernelRfl
import Derived.RowKit3
import Derived.Deep.LoopGhost
import Derived.Deep.QuietTactic
import Derived.BigQuiet
import Derived.WideLaws
import Derived.Deep.DeepCutAuto
import Derived.Deep.CutBlock
import Derived.Deep.RegionHeld3
import Derived.Laws.Rows
import Derived.Lib.AppendStr
import Derived.ArgAppend
import Derived.Laws.IdiomCopy
import Derived.OrdersHeld
import Derived.Laws.BitsLemmas
import Derived.RowKit
import Derived.Test.YtcjpojppbmlfaaaFnExactTxtJoinWWords
import Derived.Test.YtcjpojppbmlfaaaFnExactTxtJoinWLast
import Derived.Test.YtcjpojppbmlfaaaFnExactTxtJoinWMore
import Derived.Lib.SliceRun
import Derived.Test.YtcjpojppbmlfaaaFnExactTxtJoinWApart
import Derived.Test.YtcjpojppbmlfaaaFnExactTxtJoinWFoot
import Derived.Test.YtcjpojppbmlfaaaFnExactTxtJoinWKept
import Derived.Test.YtcjpojppbmlfaaaFnExactTxtJoinWShare
import Derived.Test.YtcjpojppbmlfaaaFnExactTxtJoinWN
import Derived.Laws.StructEq
import Derived.Test.YtcjpojppbmlfaaaFnExactTxtJoinWRepsOne
namespace Go.Proofs.Ytcjpojppbmlfaaa.Pr
open Go.RowKit Go.Proofs.YtcjpojppbmlfaaaW.PrintWords Go.Proofs.YtcjpojppbmlfaaaW.PrintLast Go.Proofs.YtcjpojppbmlfaaaW.PrintMore
attribute [local go_sem] max2_int min2_int max_two min_two max_three min_three max_four min_four
set_option linter.unusedVariables false
set_option linter.unusedSimpArgs false
def errW : Option Int → Value
  | none => .nilIface
  | some c => .iface 0 (.int .i64 c)
theorem errW_none : errW none = .nilIface := rfl
theorem errW_some (c : Int) : errW (some c) = .iface 0 (.int .i64 c) := rfl
theorem info9 : (Try.prog.info? 9).map (fun i => (i.zero, i.size, i.bytes)) = some (some (.string ⟨#[]⟩), 1, 16) := by kernel_rfl
end Go.Proofs.Ytcjpojppbmlfaaa.Pr
