/- A part of what the claim of 'FnExactTblPart' leans on. -/
import Derived.Test.YtemcdfkmpikegaaDoorFnExactTblPartP0
import Derived.Test.YtemcdfkmpikegaaDoorFnExactTblPartQOp
set_option linter.unusedVariables false
namespace Go.Proofs.YtemcdfkmpikegaaDoor.Pure
open Go.RowKit Go.Proofs.YtemcdfkmpikegaaDoor.Pr Go.Proofs.YtemcdfkmpikegaaDoorW.PrintWords Go.Proofs.YtemcdfkmpikegaaDoorW.PrintLast Go.Proofs.YtemcdfkmpikegaaDoorW.PrintMore
def wf68 (y : S68) : Prop := (Lit.int .i64 y.f0).wf = true ∧ (Lit.int .i64 y.f1).wf = true
theorem op68 {H : Type} {enc : TypeId × Value → H} {W : World} : Opens enc Tryd.prog W 68 k68 wf68 :=
  (opens_struct (β := S68) Tryd.underlying68 (by kernel_rfl) (opensF_cons rfl (by kernel_rfl) (opens_int Tryd.underlying3) (opensF_last rfl (by kernel_rfl) (opens_int Tryd.underlying3))) (fun x => (x.f0, x.f1)) (fun p => ⟨p.1, p.2⟩) (fun _ => rfl)).imp fun _ h => h
def wf82 (y : S82) : Prop := (Lit.int .i64 y.f0).wf = true ∧ (Lit.int .i64 y.f1).wf = true
theorem op82 {H : Type} {enc : TypeId × Value → H} {W : World} : Opens enc Tryd.prog W 82 k82 wf82 :=
  (opens_struct (β := S82) Tryd.underlying82 (by kernel_rfl) (opensF_cons rfl (by kernel_rfl) (opens_int Tryd.underlying3) (opensF_last rfl (by kernel_rfl) (opens_int Tryd.underlying3))) (fun x => (x.f0, x.f1)) (fun p => ⟨p.1, p.2⟩) (fun _ => rfl)).imp fun _ h => h
def wf84 (y : S84) : Prop := y.f0.size ≤ maxLen ∧ (Lit.int .i64 y.f1).wf = true ∧ (Lit.int .i64 y.f2).wf = true ∧ wf82 y.f3 ∧ wf82 y.f4 ∧ wf82 y.f5 ∧ wf82 y.f6
theorem op84 {H : Type} {enc : TypeId × Value → H} {W : World} : Opens enc Tryd.prog W 84 k84 wf84 :=
  (opens_struct (β := S84) Tryd.underlying84 (by kernel_rfl) (opensF_cons rfl (by kernel_rfl) (opens_string Tryd.underlying9) (opensF_cons rfl (by kernel_rfl) (opens_int Tryd.underlying3) (opensF_cons rfl (by kernel_rfl) (opens_int Tryd.underlying3) (opensF_cons rfl (by kernel_rfl) op82 (opensF_cons rfl (by kernel_rfl) op82 (opensF_cons rfl (by kernel_rfl) op82 (opensF_last rfl (by kernel_rfl) op82))))))) (fun x => (x.f0, x.f1, x.f2, x.f3, x.f4, x.f5, x.f6)) (fun p => ⟨p.1, p.2.1, p.2.2.1, p.2.2.2.1, p.2.2.2.2.1, p.2.2.2.2.2.1, p.2.2.2.2.2.2⟩) (fun _ => rfl)).imp fun _ h => h
def wf64 (y : S64) : Prop := (y.f0.length ≤ 9223372036854775807 ∧ ∀ x ∈ y.f0, wf84 x) ∧ True
theorem op64 {H : Type} {enc : TypeId × Value → H} {W : World} : Opens enc Tryd.prog W 64 k64 wf64 :=
  (opens_struct (β := S64) Tryd.underlying64 (by kernel_rfl) (opensF_cons rfl (by kernel_rfl) (opens_slice Tryd.underlying62 (by kernel_rfl) op84) (opensF_last rfl (by kernel_rfl) (opens_bool Tryd.underlying4))) (fun x => (x.f0, x.f1)) (fun p => ⟨p.1, p.2⟩) (fun _ => rfl)).imp fun _ h => h
def wf25 (y : S25) : Prop := (y.f0.length ≤ 9223372036854775807 ∧ ∀ x ∈ y.f0, wf68 x) ∧ (Lit.int .i64 y.f1).wf = true ∧ (Lit.int .i64 y.f2).wf = true ∧ (y.f3.length ≤ 9223372036854775807 ∧ ∀ x ∈ y.f3, wf64 x) ∧ (Lit.int .i64 y.f4).wf = true
theorem op25 {H : Type} {enc : TypeId × Value → H} {W : World} : Opens enc Tryd.prog W 25 k25 wf25 :=
  (opens_struct (β := S25) Tryd.underlying25 (by kernel_rfl) (opensF_cons rfl (by kernel_rfl) (opens_slice Tryd.underlying22 (by kernel_rfl) op68) (opensF_cons rfl (by kernel_rfl) (opens_int Tryd.underlying3) (opensF_cons rfl (by kernel_rfl) (opens_int Tryd.underlying3) (opensF_cons rfl (by kernel_rfl) (opens_slice Tryd.underlying23 (by kernel_rfl) op64) (opensF_last rfl (by kernel_rfl) (opens_int Tryd.underlying3)))))) (fun x => (x.f0, x.f1, x.f2, x.f3, x.f4)) (fun p => ⟨p.1, p.2.1, p.2.2.1, p.2.2.2.1, p.2.2.2.2⟩) (fun _ => rfl)).imp fun _ h => h
end Go.Proofs.YtemcdfkmpikegaaDoor.Pure
