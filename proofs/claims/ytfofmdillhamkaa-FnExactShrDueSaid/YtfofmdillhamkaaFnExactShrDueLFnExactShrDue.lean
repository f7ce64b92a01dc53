/- A part of what the claim of 'FnExactShrDue' leans on. -/
import Derived.Test.YtfofmdillhamkaaFnExactShrDuePr0
import Derived.Test.YtfofmdillhamkaaFnExactShrDuePr8
import Derived.Test.YtfofmdillhamkaaFnExactShrDueQShr
set_option linter.unusedVariables false
set_option linter.unusedSimpArgs false
namespace Go.Proofs.Ytfofmdillhamkaa.Pure
open Go.RowKit Go.Proofs.Ytfofmdillhamkaa.Pr Go.Proofs.YtfofmdillhamkaaW.PrintWords Go.Proofs.YtfofmdillhamkaaW.PrintLast Go.Proofs.YtfofmdillhamkaaW.PrintMore
theorem FnExactShrDue (t : Int) (l : List Int) (x : Int) (ht : (Lit.int .i64 t).wf = true) (hl : l.length ≤ 9223372036854775807 ∧ ∀ x ∈ l, (Lit.int .i64 x).wf = true) (hx : (Lit.int .i64 x).wf = true) : ∃ k, laws_FnExactShrDue.f k t l x = some true := by
  apply Run.get
  unfold laws_FnExactShrDue.f
  refine Run.ite (fun _ => Run.ret rfl) fun hb => ?_
  have ti := toInts l (by omega)
  refine Run.evBind ti (Run.evBind (spec_shrDue t l x hl.1) (Run.evBind ti (Run.evBind (impl_shrDue t l x hl.1) (Run.pos rfl (Run.evBind ti (Run.evBind (eqInts l hl.1) (Run.pos rfl (Run.ret rfl))))))))
end Go.Proofs.Ytfofmdillhamkaa.Pure
