/- A part of what the claim of 'FnExactBrdOk' leans on. -/
import Derived.Test.YtfofmdillhamkaaFnExactBrdOkPr0
import Derived.Test.YtfofmdillhamkaaFnExactBrdOkPr1
import Derived.Test.YtfofmdillhamkaaFnExactBrdOkPr2
import Derived.Test.YtfofmdillhamkaaFnExactBrdOkQBrd
import Derived.Test.YtfofmdillhamkaaFnExactBrdOkQTy
set_option linter.unusedVariables false
set_option linter.unusedSimpArgs false
namespace Go.Proofs.Ytfofmdillhamkaa.Pure
open Go.RowKit Go.Proofs.Ytfofmdillhamkaa.Pr Go.Proofs.YtfofmdillhamkaaW.PrintWords Go.Proofs.YtfofmdillhamkaaW.PrintLast Go.Proofs.YtfofmdillhamkaaW.PrintMore
theorem FnExactBrdOk (y : S24) (h : wf24 y) : ∃ k, laws_FnExactBrdOk.f k y.f0 y.f1 = some true := by
  apply Run.get
  unfold laws_FnExactBrdOk.f laws_toBrdLine.f
  refine Run.some (Run.evBind (spec_brdOk _ _) (Run.some (Run.constBind (impl_brdOk _ _) ?_)))
  exact Run.neg (by simp) (Run.ret rfl)
end Go.Proofs.Ytfofmdillhamkaa.Pure
