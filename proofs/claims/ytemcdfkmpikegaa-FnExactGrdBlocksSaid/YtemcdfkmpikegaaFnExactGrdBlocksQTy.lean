/- A part of what the claim of 'FnExactGrdBlocks' leans on. -/
import Derived.Test.YtemcdfkmpikegaaFnExactGrdBlocksPr0
import Derived.Test.YtemcdfkmpikegaaFnExactGrdBlocksQOp
set_option linter.unusedVariables false
namespace Go.Proofs.Ytemcdfkmpikegaa.Pure
open Go.RowKit Go.Proofs.Ytemcdfkmpikegaa.Pr Go.Proofs.YtemcdfkmpikegaaW.PrintWords Go.Proofs.YtemcdfkmpikegaaW.PrintLast Go.Proofs.YtemcdfkmpikegaaW.PrintMore
def wf86 (y : S86) : Prop := (Lit.int .i64 y.f0).wf = true ∧ (Lit.int .i64 y.f1).wf = true ∧ (Lit.int .i64 y.f2).wf = true ∧ (Lit.int .i64 y.f3).wf = true ∧ (Lit.int .i64 y.f4).wf = true
theorem op86 {H : Type} {enc : TypeId × Value → H} {W : World} : Opens enc Try.prog W 86 k86 wf86 :=
  (opens_struct (β := S86) Try.underlying86 (by kernel_rfl) (opensF_cons rfl (by kernel_rfl) (opens_int Try.underlying3) (opensF_cons rfl (by kernel_rfl) (opens_int Try.underlying3) (opensF_cons rfl (by kernel_rfl) (opens_int Try.underlying3) (opensF_cons rfl (by kernel_rfl) (opens_int Try.underlying3) (opensF_last rfl (by kernel_rfl) (opens_int Try.underlying3)))))) (fun x => (x.f0, x.f1, x.f2, x.f3, x.f4)) (fun p => ⟨p.1, p.2.1, p.2.2.1, p.2.2.2.1, p.2.2.2.2⟩) (fun _ => rfl)).imp fun _ h => h
def wf37 (y : S37) : Prop := (Lit.int .i64 y.f0).wf = true ∧ (Lit.int .i64 y.f1).wf = true ∧ (y.f2.length ≤ 9223372036854775807 ∧ ∀ x ∈ y.f2, wf86 x)
theorem op37 {H : Type} {enc : TypeId × Value → H} {W : World} : Opens enc Try.prog W 37 k37 wf37 :=
  (opens_struct (β := S37) Try.underlying37 (by kernel_rfl) (opensF_cons rfl (by kernel_rfl) (opens_int Try.underlying3) (opensF_cons rfl (by kernel_rfl) (opens_int Try.underlying3) (opensF_last rfl (by kernel_rfl) (opens_slice Try.underlying35 (by kernel_rfl) op86)))) (fun x => (x.f0, x.f1, x.f2)) (fun p => ⟨p.1, p.2.1, p.2.2⟩) (fun _ => rfl)).imp fun _ h => h
end Go.Proofs.Ytemcdfkmpikegaa.Pure
