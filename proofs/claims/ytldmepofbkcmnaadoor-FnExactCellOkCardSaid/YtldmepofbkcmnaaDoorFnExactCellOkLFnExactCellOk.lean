/- A part of what the claim of 'FnExactCellOk' leans on. -/
import Derived.Test.YtldmepofbkcmnaaDoorFnExactCellOkPr0
import Derived.Test.YtldmepofbkcmnaaDoorFnExactCellOkPr10
import Derived.Test.YtldmepofbkcmnaaDoorFnExactCellOkPr32
import Derived.Test.YtldmepofbkcmnaaDoorFnExactCellOkPr33
import Derived.Test.YtldmepofbkcmnaaDoorFnExactCellOkQCellV
import Derived.Test.YtldmepofbkcmnaaDoorFnExactCellOkQTy
set_option linter.unusedVariables false
set_option linter.unusedSimpArgs false
namespace Go.Proofs.YtldmepofbkcmnaaDoor.Pure
open Go.RowKit Go.Proofs.YtldmepofbkcmnaaDoor.Pr Go.Proofs.YtldmepofbkcmnaaDoorW.PrintWords Go.Proofs.YtldmepofbkcmnaaDoorW.PrintLast Go.Proofs.YtldmepofbkcmnaaDoorW.PrintMore
theorem FnExactCellOk (y : S44) (h : wf44 y) : ∃ k, laws_FnExactCellOk.f k y.f0 y.f1 y.f2 y.f3.f0 y.f3.f1 y.f4.f0 y.f4.f1 y.f5.f0 y.f5.f1 y.f6.f0 y.f6.f1 = some true := by
  apply Run.get
  have hs : y.f0.size ≤ maxLen := h.1
  unfold maxLen at hs
  have e : wrap64 (1048576 - (y.f0.size : Int)) = 1048576 - (y.f0.size : Int) := w64 (by omega) (by omega)
  have sz : laws_szTblCell.f y.f0 y.f1 y.f2 y.f3.f0 y.f3.f1 y.f4.f0 y.f4.f1 y.f5.f0 y.f5.f1 y.f6.f0 y.f6.f1 1048576 = some (if 1048576 - (y.f0.size : Int) < 0 then -1 else 1048576 - (y.f0.size : Int)) := by
    unfold laws_szTblCell.f
    rw [e]
    split <;> rfl
  clear e
  have tc : laws_toTblCell.f y.f0 y.f1 y.f2 y.f3.f0 y.f3.f1 y.f4.f0 y.f4.f1 y.f5.f0 y.f5.f1 y.f6.f0 y.f6.f1 = some (y.f0, y.f1, y.f2, y.f3.f0, y.f3.f1, y.f4.f0, y.f4.f1, y.f5.f0, y.f5.f1, y.f6.f0, y.f6.f1) := rfl
  unfold laws_FnExactCellOk.f
  refine Run.constBind sz (Run.ite (fun _ => Run.ret rfl) fun hn => ?_)
  have hb : y.f0.size < 4294967281 := by split at hn <;> omega
  refine Run.constBind tc ?_
  refine Run.evBind (specCellV y.f0 y.f1 y.f2 y.f3.f0 y.f3.f1 y.f4.f0 y.f4.f1 y.f5.f0 y.f5.f1 y.f6.f0 y.f6.f1 hb) ?_
  refine Run.constBind tc ?_
  refine Run.evBind (implCellV y.f0 y.f1 y.f2 y.f3.f0 y.f3.f1 y.f4.f0 y.f4.f1 y.f5.f0 y.f5.f1 y.f6.f0 y.f6.f1 hb) ?_
  exact Run.neg (by simp) (Run.ret rfl)
end Go.Proofs.YtldmepofbkcmnaaDoor.Pure
