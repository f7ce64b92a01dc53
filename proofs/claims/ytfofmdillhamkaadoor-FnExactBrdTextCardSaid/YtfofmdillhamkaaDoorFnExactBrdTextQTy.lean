/- A part of what the claim of 'FnExactBrdText' leans on. -/
import Derived.Test.YtfofmdillhamkaaDoorFnExactBrdTextPr0
import Derived.Test.YtfofmdillhamkaaDoorFnExactBrdTextQOp
set_option linter.unusedVariables false
namespace Go.Proofs.YtfofmdillhamkaaDoor.Pure
open Go.RowKit Go.Proofs.YtfofmdillhamkaaDoor.Pr Go.Proofs.YtfofmdillhamkaaDoorW.PrintWords Go.Proofs.YtfofmdillhamkaaDoorW.PrintLast Go.Proofs.YtfofmdillhamkaaDoorW.PrintMore
def wf23 (y : S23) : Prop := (Lit.int .i64 y.f0).wf = true ∧ (Lit.int .i64 y.f1).wf = true
theorem op23 {H : Type} {enc : TypeId × Value → H} {W : World} : Opens enc Tryd.prog W 23 k23 wf23 :=
  (opens_struct (β := S23) Tryd.underlying23 (by kernel_rfl) (opensF_cons rfl (by kernel_rfl) (opens_int Tryd.underlying3) (opensF_last rfl (by kernel_rfl) (opens_int Tryd.underlying3))) (fun x => (x.f0, x.f1)) (fun p => ⟨p.1, p.2⟩) (fun _ => rfl)).imp fun _ h => h
end Go.Proofs.YtfofmdillhamkaaDoor.Pure
