/- A part of what the claim of 'FnExactBrdOk' leans on. -/
import Derived.Test.YtfofmdillhamkaaFnExactBrdOkPr0
import Derived.Test.YtfofmdillhamkaaFnExactBrdOkQOp
set_option linter.unusedVariables false
namespace Go.Proofs.Ytfofmdillhamkaa.Pure
open Go.RowKit Go.Proofs.Ytfofmdillhamkaa.Pr Go.Proofs.YtfofmdillhamkaaW.PrintWords Go.Proofs.YtfofmdillhamkaaW.PrintLast Go.Proofs.YtfofmdillhamkaaW.PrintMore
def wf24 (y : S24) : Prop := (Lit.int .i64 y.f0).wf = true ∧ (Lit.int .i64 y.f1).wf = true
theorem op24 {H : Type} {enc : TypeId × Value → H} {W : World} : Opens enc Try.prog W 24 k24 wf24 :=
  (opens_struct (β := S24) Try.underlying24 (by kernel_rfl) (opensF_cons rfl (by kernel_rfl) (opens_int Try.underlying3) (opensF_last rfl (by kernel_rfl) (opens_int Try.underlying3))) (fun x => (x.f0, x.f1)) (fun p => ⟨p.1, p.2⟩) (fun _ => rfl)).imp fun _ h => h
end Go.Proofs.Ytfofmdillhamkaa.Pure
