/- A part of what the claim of 'FnExactTxtCount' leans on. -/
import Derived.Test.YtcjpojppbmlfaaaDoorFnExactTxtCountPr0
import Derived.Test.YtcjpojppbmlfaaaDoorFnExactTxtCountPr29
import Derived.Test.YtcjpojppbmlfaaaDoorFnExactTxtCountPr30
import Derived.Test.YtcjpojppbmlfaaaDoorFnExactTxtCountPr9
import Derived.Test.YtcjpojppbmlfaaaDoorFnExactTxtCountQTxt2
set_option linter.unusedVariables false
set_option linter.unusedSimpArgs false
namespace Go.Proofs.YtcjpojppbmlfaaaDoor.Pure
open Go.RowKit Go.Proofs.YtcjpojppbmlfaaaDoor.Pr Go.Proofs.YtcjpojppbmlfaaaDoorW.PrintWords Go.Proofs.YtcjpojppbmlfaaaDoorW.PrintLast Go.Proofs.YtcjpojppbmlfaaaDoorW.PrintMore
theorem FnExactTxtCount (s : ByteArray) (h : s.size ≤ maxLen) : ∃ k, laws_FnExactTxtCount.f k s = some true := by
  apply Run.get
  unfold laws_FnExactTxtCount.f
  refine Run.ite (fun _ => Run.ret rfl) fun hb => ?_
  refine Run.evBind (show Ev (fun k => spec_TxtCount.f k s) (((wordsOf s).length : Nat) : Int) from (specWords s (by omega)).bind (evNow rfl)) (Run.evBind (show Ev (fun k => impl_TxtCount.f k s) (((wordsOf s).length : Nat) : Int) from (implWords s (by omega)).bind (evNow rfl)) (Run.pos rfl (Run.ret rfl)))
end Go.Proofs.YtcjpojppbmlfaaaDoor.Pure
