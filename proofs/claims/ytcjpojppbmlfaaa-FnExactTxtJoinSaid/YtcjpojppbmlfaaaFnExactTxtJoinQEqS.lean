/- A part of what the claim of 'FnExactTxtJoin' leans on. -/
import Derived.Test.YtcjpojppbmlfaaaFnExactTxtJoinPr0
import Derived.Test.YtcjpojppbmlfaaaFnExactTxtJoinPr8
import Derived.Test.YtcjpojppbmlfaaaFnExactTxtJoinQBl
set_option linter.unusedVariables false
set_option linter.unusedSimpArgs false
namespace Go.Proofs.Ytcjpojppbmlfaaa.Pure
open Go.RowKit Go.Proofs.Ytcjpojppbmlfaaa.Pr Go.Proofs.YtcjpojppbmlfaaaW.PrintWords Go.Proofs.YtcjpojppbmlfaaaW.PrintLast Go.Proofs.YtcjpojppbmlfaaaW.PrintMore
theorem eqStrs (l : List ByteArray) (h : l.length ≤ 9223372036854775807) : Ev (fun k => laws_eqStringS.f k l l) true := by
  unfold laws_eqStringS.f
  refine evIf rfl ?_
  refine allLoop0 l.length h (fun k i => laws_eqStringS.l0 k l l i) (fun _ _ => some true) ?_ ?_ (fun _ _ => evNow rfl)
  · intro k i hi
    show laws_eqStringS.l0 (k + 1) l l i = _
    rw [laws_eqStringS.l0, if_pos (by omega), if_pos (by omega), if_pos (by omega), if_pos rfl]; rfl
  · intro k
    show laws_eqStringS.l0 (k + 1) l l l.length = _
    rw [laws_eqStringS.l0, if_neg (by omega)]
end Go.Proofs.Ytcjpojppbmlfaaa.Pure
