/- A part of what the claim of 'FnExactTxtWish' leans on. -/
import Derived.Test.YtcjpojppbmlfaaaDoorFnExactTxtWishPr0
import Derived.Test.YtcjpojppbmlfaaaDoorFnExactTxtWishPr8
import Derived.Test.YtcjpojppbmlfaaaDoorFnExactTxtWishQTxt2
set_option linter.unusedVariables false
set_option linter.unusedSimpArgs false
namespace Go.Proofs.YtcjpojppbmlfaaaDoor.Pure
open Go.RowKit Go.Proofs.YtcjpojppbmlfaaaDoor.Pr Go.Proofs.YtcjpojppbmlfaaaDoorW.PrintWords Go.Proofs.YtcjpojppbmlfaaaDoorW.PrintLast Go.Proofs.YtcjpojppbmlfaaaDoorW.PrintMore
theorem FnExactTxtWish (s : ByteArray) (h : s.size ≤ maxLen) : ∃ k, laws_FnExactTxtWish.f k s = some true := by
  apply Run.get
  unfold laws_FnExactTxtWish.f
  refine Run.ite (fun _ => Run.ret rfl) fun hb => ?_
  refine Run.evBind (specWish s (by omega)) (Run.evBind (implWish s (by omega)) (Run.pos rfl (Run.ret rfl)))
end Go.Proofs.YtcjpojppbmlfaaaDoor.Pure
