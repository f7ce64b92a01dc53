/- A part of what the claim of 'FnBrdOk' leans on. -/
import Derived.Test.YtfofmdillhamkaaFnBrdOkPr0
import Derived.Test.YtfofmdillhamkaaFnBrdOkPr4
import Derived.Test.YtfofmdillhamkaaFnBrdOkPr5
import Derived.Test.YtfofmdillhamkaaFnBrdOkQBrd
import Derived.Test.YtfofmdillhamkaaFnBrdOkQDrawBrd
set_option linter.unusedVariables false
set_option linter.unusedSimpArgs false
namespace Go.Proofs.Ytfofmdillhamkaa.Pure
open Go.RowKit Go.Proofs.Ytfofmdillhamkaa.Pr Go.Proofs.YtfofmdillhamkaaW.PrintWords Go.Proofs.YtfofmdillhamkaaW.PrintLast Go.Proofs.YtfofmdillhamkaaW.PrintMore
theorem FnBrdOk (l : List Int) (h : l.length ≤ 9223372036854775807 ∧ ∀ x ∈ l, (Lit.int .u8 x).wf = true) : ∃ k, laws_FnBrdOk.f k l = some true := by
  apply Run.get
  unfold laws_FnBrdOk.f
  refine Run.ite (fun _ => Run.ret rfl) fun hbig => ?_
  have e2 : ∀ (x : Bool) (s n : Int), x = brdOk s n → Run (fun k => laws_FnBrdOk.j2 k x s n) (· = true) := by
    rintro x s n rfl
    refine Run.step (fun k => by rw [laws_FnBrdOk.j2]) (Run.constBind (impl_brdOk s n) (Run.pos (beq_self_eq_true _) (Run.constBind (impl_brdOk s n) (Run.evBind (spec_brdOk s n) (Run.pos (beq_self_eq_true _) (Run.constBind (impl_brdOk 0 0) (Run.ret ?_)))))))
    decide
  have e1 : ∀ (x y : Bool) (s n : Int), (x = true ↔ s = 1 ∨ s = 2 ∨ s = 3) → (y = true ↔ s = 0 ∨ s = 4) → Run (fun k => laws_FnBrdOk.j1 k x y s n) (· = true) := by
    intro x y s n hx hy
    refine Run.step (fun k => by rw [laws_FnBrdOk.j1]) ?_
    have last : ¬ (1 ≤ s ∧ s ≤ 3 ∧ 1 ≤ n ∧ n ≤ 3) → Run (fun k => if y = true then laws_FnBrdOk.j2 k (n == 0) s n else laws_FnBrdOk.j2 k false s n) (· = true) := by
      intro hno
      refine Run.ite (fun h => e2 _ _ _ (bool_ext ?_)) (fun h => e2 _ _ _ (bool_ext ?_))
      · rw [brdOk_iff]; have := hy.mp h; simp; omega
      · rw [brdOk_iff]; have : ¬ (s = 0 ∨ s = 4) := fun q => h (hy.mpr q); simp; omega
    refine Run.ite (fun h => ?_) (fun h => last ?_)
    · have := hx.mp h
      refine Run.ite (fun h1 => Run.ite (fun h3 => e2 _ _ _ (bool_ext ?_)) (fun _ => last (by omega))) (fun _ => last (by omega))
      rw [brdOk_iff]; simp; omega
    · have : ¬ (s = 1 ∨ s = 2 ∨ s = 3) := fun q => h (hx.mpr q); omega
  have e0 : ∀ (x : Bool) (s n : Int), (x = true ↔ s = 1 ∨ s = 2 ∨ s = 3) → Run (fun k => laws_FnBrdOk.j0 k x s n) (· = true) := by
    intro x s n hx
    refine Run.step (fun k => by rw [laws_FnBrdOk.j0]) ?_
    exact Run.ite (fun h => e1 _ _ _ _ hx (by simp [h])) (fun h => e1 _ _ _ _ hx (by simp [h]))
  unfold spec_DrawBrdOk.f
  obtain ⟨b, ho, hb⟩ := open_eq l h.2
  refine Run.bind (Q := fun _ => True) (Run.constBind ho (Run.bind (brd_run hb (by simp) (by simp [LIMP]) (by omega)) fun r hr => Run.ret trivial)) fun r _ => ?_
  refine Run.ite (fun h => e0 _ _ _ (by simp [h])) (fun h => Run.ite (fun h2 => e0 _ _ _ (by simp [h2])) (fun h2 => e0 _ _ _ (by rw [beq_iff_eq]; omega)))
end Go.Proofs.Ytfofmdillhamkaa.Pure
