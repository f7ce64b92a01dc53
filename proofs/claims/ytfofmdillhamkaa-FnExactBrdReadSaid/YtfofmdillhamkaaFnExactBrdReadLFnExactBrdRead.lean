/- A part of what the claim of 'FnExactBrdRead' leans on. -/
import Derived.Test.YtfofmdillhamkaaFnExactBrdReadPr0
import Derived.Test.YtfofmdillhamkaaFnExactBrdReadPr8
import Derived.Test.YtfofmdillhamkaaFnExactBrdReadPr9
import Derived.Test.YtfofmdillhamkaaFnExactBrdReadQBrdRead
set_option linter.unusedVariables false
set_option linter.unusedSimpArgs false
namespace Go.Proofs.Ytfofmdillhamkaa.Pure
open Go.RowKit Go.Proofs.Ytfofmdillhamkaa.Pr Go.Proofs.YtfofmdillhamkaaW.PrintWords Go.Proofs.YtfofmdillhamkaaW.PrintLast Go.Proofs.YtfofmdillhamkaaW.PrintMore
theorem FnExactBrdRead (s : ByteArray) (hs : s.size ≤ maxLen) : ∃ k, laws_FnExactBrdRead.f k s = some true := by
  apply Run.get
  unfold laws_FnExactBrdRead.f
  refine Run.ite (fun _ => Run.ret rfl) fun hbig => Run.evBind (spec_brdRead s) (Run.constBind (impl_brdRead s) ?_)
  refine Run.constBind (a := true) (by simp [laws_eqBrdLine.f]) (Run.pos rfl (Run.neg (by simp) (Run.ret rfl)))
end Go.Proofs.Ytfofmdillhamkaa.Pure
