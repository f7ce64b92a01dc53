/- A part of what the claim of 'FnExactCellOk' leans on. -/
import Derived.Test.YtldmepofbkcmnaaDoorProg
import Derived.Below
import Derived.Deep.Draws
import Derived.Deep.AppendLies
import Derived.Maps.AppendAt
import Derived.OwnWalk
import Derived.Laws.BytesArg
import Derived.Laws.MakeOwn
import Derived.Laws.OwnMore
import Derived.Deep.OwnRows
import Derived.Tactics
import Derived.Lib.ConvBytes
import Derived.Laws.Slices
import Derived.WalkKit
import Derived.KernelRfl
import Derived.RowKit3
import Derived.Deep.LoopGhost
import Derived.Deep.QuietTactic
import Derived.BigQuiet
import Derived.WideLaws
import Derived.Deep.DeepCutAuto
import Derived.Deep.CutBlock
import Derived.Deep.RegionHeld3
import Derived.Laws.Rows
import Derived.Lib.AppendStr
import Derived.ArgAppend
import Derived.Laws.IdiomCopy
import Derived.OrdersHeld
import Derived.Laws.BitsLemmas
import Derived.RowKit
import Derived.Test.YtldmepofbkcmnaaDoorFnExactCellOkWWords
import Derived.Test.YtldmepofbkcmnaaDoorFnExactCellOkWLast
import Derived.Test.YtldmepofbkcmnaaDoorFnExactCellOkWMore
import Derived.Lib.SliceRun
import Derived.Test.YtldmepofbkcmnaaDoorFnExactCellOkWApart
import Derived.Test.YtldmepofbkcmnaaDoorFnExactCellOkWFoot
import Derived.Test.YtldmepofbkcmnaaDoorFnExactCellOkWKept
import Derived.Test.YtldmepofbkcmnaaDoorFnExactCellOkWShare
import Derived.Test.YtldmepofbkcmnaaDoorFnExactCellOkWN
import Derived.Laws.StructEq
import Derived.Test.YtldmepofbkcmnaaDoorFnExactCellOkWRepsOne
namespace Go.Proofs.YtldmepofbkcmnaaDoor.Pr
open Go.RowKit Go.Proofs.YtldmepofbkcmnaaDoorW.PrintWords Go.Proofs.YtldmepofbkcmnaaDoorW.PrintLast Go.Proofs.YtldmepofbkcmnaaDoorW.PrintMore
attribute [local go_sem] max2_int min2_int max_two min_two max_three min_three max_four min_four
set_option linter.unusedVariables false
set_option linter.unusedSimpArgs false
def errW : Option Int → Value
  | none => .nilIface
  | some c => .iface 0 (.int .i64 c)
theorem errW_none : errW none = .nilIface := rfl
theorem errW_some (c : Int) : errW (some c) = .iface 0 (.int .i64 c) := rfl
structure S42 where
  f0 : Int
  f1 : Int
def k42 : Kd S42 := Kd.iso (Kd.pair (Kd.int .i64) (Kd.int .i64)) (fun x : S42 => (x.f0, x.f1))
theorem k42_open {w : World} {x : S42} {cs : List Value} (h : k42.K w x cs) : cs = [.int .i64 x.f0, .int .i64 x.f1] := by
  obtain ⟨_, _, rfl, rfl, rfl⟩ := h
  exact rfl
structure S44 where
  f0 : ByteArray
  f1 : Int
  f2 : Int
  f3 : S42
  f4 : S42
  f5 : S42
  f6 : S42
def k44 : Kd S44 := Kd.iso (Kd.pair Kd.string (Kd.pair (Kd.int .i64) (Kd.pair (Kd.int .i64) (Kd.pair k42 (Kd.pair k42 (Kd.pair k42 k42)))))) (fun x : S44 => (x.f0, x.f1, x.f2, x.f3, x.f4, x.f5, x.f6))
theorem k44_open {w : World} {x : S44} {cs : List Value} (h : k44.K w x cs) : cs = [.string x.f0, .int .i64 x.f1, .int .i64 x.f2, .int .i64 x.f3.f0, .int .i64 x.f3.f1, .int .i64 x.f4.f0, .int .i64 x.f4.f1, .int .i64 x.f5.f0, .int .i64 x.f5.f1, .int .i64 x.f6.f0, .int .i64 x.f6.f1] := by
  obtain ⟨_, _, rfl, rfl, ⟨_, _, rfl, rfl, ⟨_, _, rfl, rfl, ⟨_, _, rfl, s3, ⟨_, _, rfl, s5, ⟨_, _, rfl, s7, s9⟩⟩⟩⟩⟩⟩ := h
  obtain rfl := k42_open s3
  obtain rfl := k42_open s5
  obtain rfl := k42_open s7
  obtain rfl := k42_open s9
  exact rfl
end Go.Proofs.YtldmepofbkcmnaaDoor.Pr
