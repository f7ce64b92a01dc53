/- A part of what the claim of 'FnExactCellOk' leans on. -/
import Derived.Test.YtldmepofbkcmnaaDoorFnExactCellOkPr0
import Derived.Test.YtldmepofbkcmnaaDoorFnExactCellOkPr30
import Derived.Test.YtldmepofbkcmnaaDoorFnExactCellOkPr31
import Derived.Test.YtldmepofbkcmnaaDoorFnExactCellOkPr41
import Derived.Test.YtldmepofbkcmnaaDoorFnExactCellOkPr45
import Derived.Test.YtldmepofbkcmnaaDoorFnExactCellOkQTxt
import Derived.Test.YtldmepofbkcmnaaDoorFnExactCellOkQBrd
set_option linter.unusedVariables false
set_option linter.unusedSimpArgs false
namespace Go.Proofs.YtldmepofbkcmnaaDoor.Pure
open Go.RowKit Go.Proofs.YtldmepofbkcmnaaDoor.Pr Go.Proofs.YtldmepofbkcmnaaDoorW.PrintWords Go.Proofs.YtldmepofbkcmnaaDoorW.PrintLast Go.Proofs.YtldmepofbkcmnaaDoorW.PrintMore
def tinV (lo hi n : Int) : Bool := decide (lo ≤ n) && decide (n ≤ hi)
theorem tinVI (a b c : Int) : impl_in.f a b c = some (tinV b c a) := in_eq a b c
theorem tinVS (a b c : Int) : spec_l1In.f a b c = some (tinV b c a) := l1In_eq a b c
def cellOkV (s : ByteArray) (c r a1 a2 b1 b2 d1 d2 e1 e2 : Int) : Bool := txtOk s && (tinV 1 4 c && (tinV 1 4 r && (brdOk a1 a2 && (brdOk b1 b2 && (brdOk d1 d2 && brdOk e1 e2)))))
theorem implCellV (s : ByteArray) (c r a1 a2 b1 b2 d1 d2 e1 e2 : Int) (h : s.size < 4294967281) : Ev (fun k => impl_CellOk.f k s c r a1 a2 b1 b2 d1 d2 e1 e2) (cellOkV s c r a1 a2 b1 b2 d1 d2 e1 e2) := by
  unfold impl_CellOk.f cellOkV
  refine (implTxtOk s h).bind ?_
  cases txtOk s with
  | false => exact evElse (by simp) (evNow rfl)
  | true =>
  refine evIf rfl (evBindC (tinVI c 1 4) ?_)
  cases tinV 1 4 c with
  | false => exact evElse (by simp) (evNow rfl)
  | true =>
  refine evIf rfl (evBindC (tinVI r 1 4) ?_)
  cases tinV 1 4 r with
  | false => exact evElse (by simp) (evNow rfl)
  | true =>
  refine evIf rfl (evBindC (impl_brdOk a1 a2) ?_)
  cases brdOk a1 a2 with
  | false => exact evElse (by simp) (evNow rfl)
  | true =>
  refine evIf rfl (evBindC (impl_brdOk b1 b2) ?_)
  cases brdOk b1 b2 with
  | false => exact evElse (by simp) (evNow rfl)
  | true =>
  refine evIf rfl (evBindC (impl_brdOk d1 d2) ?_)
  cases brdOk d1 d2 with
  | false => exact evElse (by simp) (evNow rfl)
  | true => exact evIf rfl (evBindC (impl_brdOk e1 e2) (evNow rfl))
theorem specCellV (s : ByteArray) (c r a1 a2 b1 b2 d1 d2 e1 e2 : Int) (h : s.size < 4294967281) : Ev (fun k => spec_CellOk.f k s c r a1 a2 b1 b2 d1 d2 e1 e2) (cellOkV s c r a1 a2 b1 b2 d1 d2 e1 e2) := by
  unfold spec_CellOk.f cellOkV
  refine (specTxtOk s (by omega)).bind ?_
  cases txtOk s with
  | false => exact evElse (by simp) (evNow rfl)
  | true =>
  refine evIf rfl (evBindC (tinVS c 1 4) ?_)
  cases tinV 1 4 c with
  | false => exact evElse (by simp) (evNow rfl)
  | true =>
  refine evIf rfl (evBindC (tinVS r 1 4) ?_)
  cases tinV 1 4 r with
  | false => exact evElse (by simp) (evNow rfl)
  | true =>
  refine evIf rfl ((spec_brdOk a1 a2).bind ?_)
  cases brdOk a1 a2 with
  | false => exact evElse (by simp) (evNow rfl)
  | true =>
  refine evIf rfl ((spec_brdOk b1 b2).bind ?_)
  cases brdOk b1 b2 with
  | false => exact evElse (by simp) (evNow rfl)
  | true =>
  refine evIf rfl ((spec_brdOk d1 d2).bind ?_)
  cases brdOk d1 d2 with
  | false => exact evElse (by simp) (evNow rfl)
  | true => exact evIf rfl ((spec_brdOk e1 e2).bind (evNow rfl))
end Go.Proofs.YtldmepofbkcmnaaDoor.Pure
