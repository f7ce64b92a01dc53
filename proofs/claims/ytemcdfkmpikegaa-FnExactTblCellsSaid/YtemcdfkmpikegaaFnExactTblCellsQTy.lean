/- A part of what the claim of 'FnExactTblCells' leans on. -/
import Derived.Test.YtemcdfkmpikegaaFnExactTblCellsPr0
import Derived.Test.YtemcdfkmpikegaaFnExactTblCellsQOp
set_option linter.unusedVariables false
namespace Go.Proofs.Ytemcdfkmpikegaa.Pure
open Go.RowKit Go.Proofs.Ytemcdfkmpikegaa.Pr Go.Proofs.YtemcdfkmpikegaaW.PrintWords Go.Proofs.YtemcdfkmpikegaaW.PrintLast Go.Proofs.YtemcdfkmpikegaaW.PrintMore
def wf81 (y : S81) : Prop := (Lit.int .i64 y.f0).wf = true ∧ (Lit.int .i64 y.f1).wf = true
theorem op81 {H : Type} {enc : TypeId × Value → H} {W : World} : Opens enc Try.prog W 81 k81 wf81 :=
  (opens_struct (β := S81) Try.underlying81 (by kernel_rfl) (opensF_cons rfl (by kernel_rfl) (opens_int Try.underlying3) (opensF_last rfl (by kernel_rfl) (opens_int Try.underlying3))) (fun x => (x.f0, x.f1)) (fun p => ⟨p.1, p.2⟩) (fun _ => rfl)).imp fun _ h => h
def wf93 (y : S93) : Prop := (Lit.int .i64 y.f0).wf = true ∧ (Lit.int .i64 y.f1).wf = true
theorem op93 {H : Type} {enc : TypeId × Value → H} {W : World} : Opens enc Try.prog W 93 k93 wf93 :=
  (opens_struct (β := S93) Try.underlying93 (by kernel_rfl) (opensF_cons rfl (by kernel_rfl) (opens_int Try.underlying3) (opensF_last rfl (by kernel_rfl) (opens_int Try.underlying3))) (fun x => (x.f0, x.f1)) (fun p => ⟨p.1, p.2⟩) (fun _ => rfl)).imp fun _ h => h
def wf95 (y : S95) : Prop := y.f0.size ≤ maxLen ∧ (Lit.int .i64 y.f1).wf = true ∧ (Lit.int .i64 y.f2).wf = true ∧ wf93 y.f3 ∧ wf93 y.f4 ∧ wf93 y.f5 ∧ wf93 y.f6
theorem op95 {H : Type} {enc : TypeId × Value → H} {W : World} : Opens enc Try.prog W 95 k95 wf95 :=
  (opens_struct (β := S95) Try.underlying95 (by kernel_rfl) (opensF_cons rfl (by kernel_rfl) (opens_string Try.underlying9) (opensF_cons rfl (by kernel_rfl) (opens_int Try.underlying3) (opensF_cons rfl (by kernel_rfl) (opens_int Try.underlying3) (opensF_cons rfl (by kernel_rfl) op93 (opensF_cons rfl (by kernel_rfl) op93 (opensF_cons rfl (by kernel_rfl) op93 (opensF_last rfl (by kernel_rfl) op93))))))) (fun x => (x.f0, x.f1, x.f2, x.f3, x.f4, x.f5, x.f6)) (fun p => ⟨p.1, p.2.1, p.2.2.1, p.2.2.2.1, p.2.2.2.2.1, p.2.2.2.2.2.1, p.2.2.2.2.2.2⟩) (fun _ => rfl)).imp fun _ h => h
def wf77 (y : S77) : Prop := (y.f0.length ≤ 9223372036854775807 ∧ ∀ x ∈ y.f0, wf95 x) ∧ True
theorem op77 {H : Type} {enc : TypeId × Value → H} {W : World} : Opens enc Try.prog W 77 k77 wf77 :=
  (opens_struct (β := S77) Try.underlying77 (by kernel_rfl) (opensF_cons rfl (by kernel_rfl) (opens_slice Try.underlying75 (by kernel_rfl) op95) (opensF_last rfl (by kernel_rfl) (opens_bool Try.underlying4))) (fun x => (x.f0, x.f1)) (fun p => ⟨p.1, p.2⟩) (fun _ => rfl)).imp fun _ h => h
def wf25 (y : S25) : Prop := (y.f0.length ≤ 9223372036854775807 ∧ ∀ x ∈ y.f0, wf81 x) ∧ (Lit.int .i64 y.f1).wf = true ∧ (Lit.int .i64 y.f2).wf = true ∧ (y.f3.length ≤ 9223372036854775807 ∧ ∀ x ∈ y.f3, wf77 x) ∧ (Lit.int .i64 y.f4).wf = true
theorem op25 {H : Type} {enc : TypeId × Value → H} {W : World} : Opens enc Try.prog W 25 k25 wf25 :=
  (opens_struct (β := S25) Try.underlying25 (by kernel_rfl) (opensF_cons rfl (by kernel_rfl) (opens_slice Try.underlying22 (by kernel_rfl) op81) (opensF_cons rfl (by kernel_rfl) (opens_int Try.underlying3) (opensF_cons rfl (by kernel_rfl) (opens_int Try.underlying3) (opensF_cons rfl (by kernel_rfl) (opens_slice Try.underlying23 (by kernel_rfl) op77) (opensF_last rfl (by kernel_rfl) (opens_int Try.underlying3)))))) (fun x => (x.f0, x.f1, x.f2, x.f3, x.f4)) (fun p => ⟨p.1, p.2.1, p.2.2.1, p.2.2.2.1, p.2.2.2.2⟩) (fun _ => rfl)).imp fun _ h => h
end Go.Proofs.Ytemcdfkmpikegaa.Pure
