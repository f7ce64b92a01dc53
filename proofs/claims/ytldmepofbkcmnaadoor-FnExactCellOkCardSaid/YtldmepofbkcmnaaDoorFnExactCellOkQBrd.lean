/- A part of what the claim of 'FnExactCellOk' leans on. -/
import Derived.Test.YtldmepofbkcmnaaDoorFnExactCellOkPr0
import Derived.Test.YtldmepofbkcmnaaDoorFnExactCellOkPr29
import Derived.Test.YtldmepofbkcmnaaDoorFnExactCellOkPr44
import Derived.Test.YtldmepofbkcmnaaDoorFnExactCellOkPr46
import Derived.Test.YtldmepofbkcmnaaDoorFnExactCellOkQk
set_option linter.unusedVariables false
set_option linter.unusedSimpArgs false
namespace Go.Proofs.YtldmepofbkcmnaaDoor.Pure
open Go.RowKit Go.Proofs.YtldmepofbkcmnaaDoor.Pr Go.Proofs.YtldmepofbkcmnaaDoorW.PrintWords Go.Proofs.YtldmepofbkcmnaaDoorW.PrintLast Go.Proofs.YtldmepofbkcmnaaDoorW.PrintMore
def brdOk (s n : Int) : Bool := decide ((s = 0 ∨ s = 4) ∧ n = 0 ∨ (1 ≤ s ∧ s ≤ 3 ∧ 1 ≤ n ∧ n ≤ 3))
theorem bool_ext {a b : Bool} (h : a = true ↔ b = true) : a = b := by cases a <;> cases b <;> simp_all
theorem spec_brdOk (s n : Int) : Ev (fun k => spec_BrdOk.f k s n) (brdOk s n) := by
  unfold spec_BrdOk.f brdOk
  by_cases h : s = 0
  · refine evIf h (Ev.step (fun k => by rw [spec_BrdOk.j0]) (evNow ?_)); simp [h]
    apply bool_ext; simp
  · refine evElse h (Ev.step (fun k => by rw [spec_BrdOk.j0]) (evNow ?_))
    by_cases h4 : s = 4
    · simp [h4]; apply bool_ext; simp
    · simp only [l1In_eq, Option.bind_some]
      by_cases h1 : 1 ≤ s <;> by_cases h2 : s ≤ 3 <;> simp [h, h4, h1, h2]
theorem impl_brdOk (s n : Int) : impl_BrdOk.f s n = some (brdOk s n) := by
  unfold impl_BrdOk.f impl_BrdLine_drawn.f brdOk
  simp only [in_eq, Option.bind_some]
  by_cases h0 : s = 0
  · subst h0; simp; apply bool_ext; simp
  · by_cases h4 : s = 4
    · subst h4; simp; apply bool_ext; simp
    · by_cases h1 : 1 ≤ s <;> by_cases h2 : s ≤ 3 <;> simp [h0, h4, h1, h2]
end Go.Proofs.YtldmepofbkcmnaaDoor.Pure
