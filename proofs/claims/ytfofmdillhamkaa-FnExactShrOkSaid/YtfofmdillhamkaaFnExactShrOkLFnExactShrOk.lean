/- A part of what the claim of 'FnExactShrOk' leans on. -/
import Derived.Test.YtfofmdillhamkaaFnExactShrOkPr0
import Derived.Test.YtfofmdillhamkaaFnExactShrOkPr20
import Derived.Test.YtfofmdillhamkaaFnExactShrOkPr7
import Derived.Test.YtfofmdillhamkaaFnExactShrOkQShr
set_option linter.unusedVariables false
set_option linter.unusedSimpArgs false
namespace Go.Proofs.Ytfofmdillhamkaa.Pure
open Go.RowKit Go.Proofs.Ytfofmdillhamkaa.Pr Go.Proofs.YtfofmdillhamkaaW.PrintWords Go.Proofs.YtfofmdillhamkaaW.PrintLast Go.Proofs.YtfofmdillhamkaaW.PrintMore
theorem FnExactShrOk (t : Int) (l : List Int) (ht : (Lit.int .i64 t).wf = true) (hl : l.length ≤ 9223372036854775807 ∧ ∀ x ∈ l, (Lit.int .i64 x).wf = true) : ∃ k, laws_FnExactShrOk.f k t l = some true := by
  apply Run.get
  unfold laws_FnExactShrOk.f
  refine Run.ite (fun _ => Run.ret rfl) fun hb => ?_
  have ti := toInts l (by omega)
  refine Run.evBind ti (Run.evBind (spec_shrOk t l hl.1) (Run.evBind ti (Run.constBind (show impl_ShrOk.f t l = some (shrOk t l) from rfl) (Run.neg (by simp) (Run.evBind ti (Run.evBind (eqInts l hl.1) (Run.pos rfl (Run.ret rfl))))))))
end Go.Proofs.Ytfofmdillhamkaa.Pure
