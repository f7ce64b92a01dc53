/- A part of what the claim of 'FnExactBrdText' leans on. -/
import Derived.Test.YtfofmdillhamkaaDoorProg
import Derived.Below
import Derived.Deep.Draws
import Derived.Deep.AppendLies
import Derived.Maps.AppendAt
import Derived.OwnWalk
import Derived.Laws.BytesArg
import Derived.Laws.MakeOwn
import Derived.Laws.OwnMore
import Derived.Deep.OwnRows
import Derived.Tactics
import Derived.Lib.ConvBytes
import Derived.Laws.Slices
import Derived.WalkKit
import Derived.KernelRfl
import Derived.RowKit3
import Derived.Deep.LoopGhost
import Derived.Deep.QuietTactic
import Derived.BigQuiet
import Derived.WideLaws
import Derived.Deep.DeepCutAuto
import Derived.Deep.CutBlock
import Derived.Deep.RegionHeld3
import Derived.Laws.Rows
import Derived.Lib.AppendStr
import Derived.ArgAppend
import Derived.Laws.IdiomCopy
import Derived.OrdersHeld
import Derived.Laws.BitsLemmas
import Derived.RowKit
import Derived.Test.YtfofmdillhamkaaDoorFnExactBrdTextWWords
import Derived.Test.YtfofmdillhamkaaDoorFnExactBrdTextWLast
import Derived.Test.YtfofmdillhamkaaDoorFnExactBrdTextWMore
import Derived.Lib.SliceRun
import Derived.Test.YtfofmdillhamkaaDoorFnExactBrdTextWTab
import Derived.Test.YtfofmdillhamkaaDoorFnExactBrdTextWApart
import Derived.Test.YtfofmdillhamkaaDoorFnExactBrdTextWFoot
import Derived.Test.YtfofmdillhamkaaDoorFnExactBrdTextWKept
import Derived.Test.YtfofmdillhamkaaDoorFnExactBrdTextWShare
import Derived.Test.YtfofmdillhamkaaDoorFnExactBrdTextWN
import Derived.Laws.StructEq
import Derived.Test.YtfofmdillhamkaaDoorFnExactBrdTextWRepsOne
namespace Go.Proofs.YtfofmdillhamkaaDoor.Pr
open Go.RowKit Go.Proofs.YtfofmdillhamkaaDoorW.PrintWords Go.Proofs.YtfofmdillhamkaaDoorW.PrintLast Go.Proofs.YtfofmdillhamkaaDoorW.PrintMore
attribute [local go_sem] max2_int min2_int max_two min_two max_three min_three max_four min_four
set_option linter.unusedVariables false
set_option linter.unusedSimpArgs false
def errW : Option Int → Value
  | none => .nilIface
  | some c => .iface 0 (.int .i64 c)
theorem errW_none : errW none = .nilIface := rfl
theorem errW_some (c : Int) : errW (some c) = .iface 0 (.int .i64 c) := rfl
structure S23 where
  f0 : Int
  f1 : Int
def k23 : Kd S23 := Kd.iso (Kd.pair (Kd.int .i64) (Kd.int .i64)) (fun x : S23 => (x.f0, x.f1))
theorem k23_open {w : World} {x : S23} {cs : List Value} (h : k23.K w x cs) : cs = [.int .i64 x.f0, .int .i64 x.f1] := by
  obtain ⟨_, _, rfl, rfl, rfl⟩ := h
  exact rfl
end Go.Proofs.YtfofmdillhamkaaDoor.Pr
