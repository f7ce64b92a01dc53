/- A part of what the claim of 'FnExactCellOk' leans on. -/
import Derived.Test.YtldmepofbkcmnaaDoorFnExactCellOkPr0
import Derived.Test.YtldmepofbkcmnaaDoorFnExactCellOkQOp
set_option linter.unusedVariables false
namespace Go.Proofs.YtldmepofbkcmnaaDoor.Pure
open Go.RowKit Go.Proofs.YtldmepofbkcmnaaDoor.Pr Go.Proofs.YtldmepofbkcmnaaDoorW.PrintWords Go.Proofs.YtldmepofbkcmnaaDoorW.PrintLast Go.Proofs.YtldmepofbkcmnaaDoorW.PrintMore
def wf42 (y : S42) : Prop := (Lit.int .i64 y.f0).wf = true ∧ (Lit.int .i64 y.f1).wf = true
theorem op42 {H : Type} {enc : TypeId × Value → H} {W : World} : Opens enc Tryd.prog W 42 k42 wf42 :=
  (opens_struct (β := S42) Tryd.underlying42 (by kernel_rfl) (opensF_cons rfl (by kernel_rfl) (opens_int Tryd.underlying3) (opensF_last rfl (by kernel_rfl) (opens_int Tryd.underlying3))) (fun x => (x.f0, x.f1)) (fun p => ⟨p.1, p.2⟩) (fun _ => rfl)).imp fun _ h => h
def wf44 (y : S44) : Prop := y.f0.size ≤ maxLen ∧ (Lit.int .i64 y.f1).wf = true ∧ (Lit.int .i64 y.f2).wf = true ∧ wf42 y.f3 ∧ wf42 y.f4 ∧ wf42 y.f5 ∧ wf42 y.f6
theorem op44 {H : Type} {enc : TypeId × Value → H} {W : World} : Opens enc Tryd.prog W 44 k44 wf44 :=
  (opens_struct (β := S44) Tryd.underlying44 (by kernel_rfl) (opensF_cons rfl (by kernel_rfl) (opens_string Tryd.underlying9) (opensF_cons rfl (by kernel_rfl) (opens_int Tryd.underlying3) (opensF_cons rfl (by kernel_rfl) (opens_int Tryd.underlying3) (opensF_cons rfl (by kernel_rfl) op42 (opensF_cons rfl (by kernel_rfl) op42 (opensF_cons rfl (by kernel_rfl) op42 (opensF_last rfl (by kernel_rfl) op42))))))) (fun x => (x.f0, x.f1, x.f2, x.f3, x.f4, x.f5, x.f6)) (fun p => ⟨p.1, p.2.1, p.2.2.1, p.2.2.2.1, p.2.2.2.2.1, p.2.2.2.2.2.1, p.2.2.2.2.2.2⟩) (fun _ => rfl)).imp fun _ h => h
end Go.Proofs.YtldmepofbkcmnaaDoor.Pure
