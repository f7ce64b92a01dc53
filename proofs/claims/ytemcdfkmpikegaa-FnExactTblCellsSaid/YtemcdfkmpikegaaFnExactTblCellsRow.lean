/- FnExactTblCells: for every input the law returns true, and each argument reads behind the call as it read before. No condition. -/
import Derived.Test.YtemcdfkmpikegaaRows
import Derived.Test.YtemcdfkmpikegaaFnExactTblCellsPr3
import Derived.Test.YtemcdfkmpikegaaFnExactTblCellsQTy
import Derived.Test.YtemcdfkmpikegaaFnExactTblCellsQ0
import Derived.WalkKit
import Derived.ProofKit
import Derived.OpenShut
import Derived.ShutString
import Derived.ChangeOld
import Derived.Below
import Derived.SizedLaws
namespace Go.Proofs.Ytemcdfkmpikegaa.fnExactTblCells
open Go.ChangeShapes Go.WideShapes Go.ChangeAt Go.RowKit Go.Proofs.Ytemcdfkmpikegaa.Pure Go.Proofs.Ytemcdfkmpikegaa.Pr Go.Proofs.YtemcdfkmpikegaaW.PrintWords
open Go.ChangeMaps (open_string shut_string)
set_option linter.unusedVariables false
theorem own : ownKnob Try.prog.godebug = none := by kernel_rfl
theorem laidOut : laidOutB Try.prog = true := by kernel_rfl
set_option maxRecDepth 100000 in
theorem lifted (os : Os) (started : os.Started) (H : Type) (enc : TypeId × Value → H) :
    ReturnsInHanded {} Try.checked os 3 .any (Rows.fnExactTblCellsSpec.pre6 enc Try.prog Try.f3 Rows.fnExactTblCellsRow.domain false) (Rows.fnExactTblCellsSpec.post enc Try.prog Try.f3 false true false false) := by
  refine returnsInHanded_of_change_sized (C := Try.checked) own started (by kernel_rfl) Try.func3
    (ChangeSpec.witness6 (enc := enc) (C := Try.checked) false ⟨#[], #[.agg #[.slice none 0 0, .int .i64 0, .int .i64 0, .slice none 0 0, .int .i64 0]], []⟩ 8 (by kernel_rfl) (by kernel_rfl) (by kernel_rfl) (by kernel_rfl)) ?_
  intro W base args ds gs before hval0 hW hcnd hsz0 _
  have hval : ∀ (j : Nat) t v, Try.f3.params[j]? = some t → args[j]? = some v → Value.okWide Try.prog W .any base t v := hval0
  have hW' := hW
  obtain ⟨p, q, hA0, hV, rfl, hfz, hnd⟩ := hW
  have hA : DataW.TrodAll enc Try.prog W 0 (fun _ => true) true Try.f3.params.toList args.toList ds p := hA0
  rw [Try.params3] at hA hval
  obtain ⟨v0, vs0, d0, ds0, p0, q0, hargs, rfl, rfl, h0, r0⟩ := trodAll_cons hA
  obtain ⟨rfl, rfl, rfl⟩ := trodAll_nil r0
  obtain rfl : args = #[v0] := by cases args; simp_all
  obtain ⟨rfl, rfl⟩ := trodVars_none hV
  have k0 := h0
  have lt0 : ∀ x ∈ p0, x.block < W.heap.size := by obtain ⟨m, hm⟩ := k0; exact DataW.trod_lt m _ _ _ hm
  obtain ⟨cs0, rfl, hz0⟩ := okWide_struct Try.underlying25 (hval 0 25 v0 rfl rfl)
  obtain ⟨fuel0, hf0⟩ := h0
  obtain ⟨y0, hK0, hI0⟩ := op25.out fuel0 _ _ hf0
  obtain ⟨A0_0, c0_0, A0_3, c0_3, e0, l0_0, g0_0, l0_3, g0_3⟩ := k25_open hK0
  obtain rfl : cs0 = #[.slice A0_0 y0.f0.length c0_0, .int .i64 y0.f1, .int .i64 y0.f2, .slice A0_3 y0.f3.length c0_3, .int .i64 y0.f4] := Array.ext' e0
  obtain ⟨k, hk⟩ := Pure.FnExactTblCells y0 hI0
  clear hA0 hval0 hsz0
  refine (Pr.laws_FnExactTblCells.calls k A0_0 c0_0 y0.f0 y0.f1 y0.f2 A0_3 c0_3 y0.f3 y0.f4 true W g0_0 l0_0 g0_3 l0_3 hk).mono fun e W' ⟨he, bel0⟩ => ?_
  have bel : Below W.heap.size W W' := by first | exact bel0 | exact Drawn0.below bel0
  subst he
  exact ⟨_, rfl, _, _, _, [], _, [], hW', trodAll_mk1 (shut_bool Try.underlying4 _), (trodAll_cons_mk (Below.trod laidOut (by kernel_rfl) (of_decide_eq_true (by kernel_rfl)) k0 bel lt0) trodAll_mk0), rfl, bel.frame _, fun h => by cases h⟩
theorem over : Rows.fnExactTblCellsRow.holds Try.pinned (OpenSpec.ofChange Rows.fnExactTblCellsSpec) :=
  OpenClaim.holds_of_wide 3 Try.f3 rfl rfl rfl rfl rfl rfl rfl ⟨rfl, rfl, rfl, rfl, rfl⟩ rfl rfl rfl rfl rfl (by kernel_rfl) Try.func3 (by kernel_rfl)
    (of_decide_eq_true (by kernel_rfl)) (by unfold Func.isWrapper; first | (rw [if_pos (by decide +kernel)]; kernel_rfl) | (rw [if_neg (by decide +kernel)]; exact ⟨rfl, rfl⟩))
    (fun os started H enc _ => lifted os started H enc)
theorem proved : Rows.FnExactTblCellsSaid := over
end Go.Proofs.Ytemcdfkmpikegaa.fnExactTblCells
namespace Go.Proofs.Ytemcdfkmpikegaa
theorem fnExactTblCells_holds : Rows.FnExactTblCellsSaid := fnExactTblCells.proved
end Go.Proofs.Ytemcdfkmpikegaa
