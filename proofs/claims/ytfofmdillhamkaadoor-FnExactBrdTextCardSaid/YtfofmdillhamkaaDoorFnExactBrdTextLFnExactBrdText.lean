/- A part of what the claim of 'FnExactBrdText' leans on. -/
import Derived.Test.YtfofmdillhamkaaDoorFnExactBrdTextPr0
import Derived.Test.YtfofmdillhamkaaDoorFnExactBrdTextPr3
import Derived.Test.YtfofmdillhamkaaDoorFnExactBrdTextPr6
import Derived.Test.YtfofmdillhamkaaDoorFnExactBrdTextQBrdText
import Derived.Test.YtfofmdillhamkaaDoorFnExactBrdTextQTy
set_option linter.unusedVariables false
set_option linter.unusedSimpArgs false
namespace Go.Proofs.YtfofmdillhamkaaDoor.Pure
open Go.RowKit Go.Proofs.YtfofmdillhamkaaDoor.Pr Go.Proofs.YtfofmdillhamkaaDoorW.PrintWords Go.Proofs.YtfofmdillhamkaaDoorW.PrintLast Go.Proofs.YtfofmdillhamkaaDoorW.PrintMore
theorem FnExactBrdText (y : S23) (h : wf23 y) : ∃ k, laws_FnExactBrdText.f k y.f0 y.f1 = some true := by
  apply Run.get
  unfold laws_FnExactBrdText.f laws_toBrdLine.f
  exact Run.some (Run.evBind (specText _ _) (Run.some (Run.constBind (implText _ _) (Run.pos rfl (Run.ret rfl)))))
end Go.Proofs.YtfofmdillhamkaaDoor.Pure
