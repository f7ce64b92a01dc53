/- A part of what the claim of 'FnExactTxtLeast' leans on. -/
import Derived.Test.YtcjpojppbmlfaaaDoorFnExactTxtLeastPr0
import Derived.Test.YtcjpojppbmlfaaaDoorFnExactTxtLeastPr11
import Derived.Test.YtcjpojppbmlfaaaDoorFnExactTxtLeastQTxt3
set_option linter.unusedVariables false
set_option linter.unusedSimpArgs false
namespace Go.Proofs.YtcjpojppbmlfaaaDoor.Pure
open Go.RowKit Go.Proofs.YtcjpojppbmlfaaaDoor.Pr Go.Proofs.YtcjpojppbmlfaaaDoorW.PrintWords Go.Proofs.YtcjpojppbmlfaaaDoorW.PrintLast Go.Proofs.YtcjpojppbmlfaaaDoorW.PrintMore
theorem FnExactTxtLeast (s : ByteArray) (h : s.size ≤ maxLen) : ∃ k, laws_FnExactTxtLeast.f k s = some true := by
  apply Run.get
  unfold laws_FnExactTxtLeast.f
  refine Run.ite (fun _ => Run.ret rfl) fun hb => ?_
  refine Run.evBind (specLeast s (by omega)) (Run.evBind (implLeast s (by omega)) (Run.pos rfl (Run.ret rfl)))
end Go.Proofs.YtcjpojppbmlfaaaDoor.Pure
