/- A part of what the claim of 'FnExactTxtWish' leans on. -/
import Derived.Test.YtcjpojppbmlfaaaDoorFnExactTxtWishPr0
import Derived.Test.YtcjpojppbmlfaaaDoorFnExactTxtWishPr27
import Derived.Test.YtcjpojppbmlfaaaDoorFnExactTxtWishPr28
import Derived.Test.YtcjpojppbmlfaaaDoorFnExactTxtWishPr34
import Derived.Test.YtcjpojppbmlfaaaDoorFnExactTxtWishPr35
import Derived.Test.YtcjpojppbmlfaaaDoorFnExactTxtWishPr55
import Derived.Test.YtcjpojppbmlfaaaDoorFnExactTxtWishPr59
import Derived.Test.YtcjpojppbmlfaaaDoorFnExactTxtWishQTxt
set_option linter.unusedVariables false
set_option linter.unusedSimpArgs false
namespace Go.Proofs.YtcjpojppbmlfaaaDoor.Pure
open Go.RowKit Go.Proofs.YtcjpojppbmlfaaaDoor.Pr Go.Proofs.YtcjpojppbmlfaaaDoorW.PrintWords Go.Proofs.YtcjpojppbmlfaaaDoorW.PrintLast Go.Proofs.YtcjpojppbmlfaaaDoorW.PrintMore
def wishOf (s : ByteArray) : Int := if txtOk s = true then (s.size : Int) else 0
theorem specWish (s : ByteArray) (h : s.size ≤ 9223372036854775807) : Ev (fun k => spec_TxtWish.f k s) (wishOf s) := by
  unfold spec_TxtWish.f wishOf
  refine (specTxtOk s h).bind ?_
  cases ho : txtOk s with
  | false => exact evElse (by simp) (evNow rfl)
  | true => exact evIf rfl (evNow rfl)
theorem implWish (s : ByteArray) (h : s.size < 4294967281) : Ev (fun k => impl_TxtWish.f k s) (wishOf s) := by
  unfold impl_TxtWish.f wishOf
  refine (implTxtOk s h).bind ?_
  cases ho : txtOk s with
  | false => exact evElse (by simp) (evNow rfl)
  | true => exact evIf rfl (evNow rfl)
end Go.Proofs.YtcjpojppbmlfaaaDoor.Pure
