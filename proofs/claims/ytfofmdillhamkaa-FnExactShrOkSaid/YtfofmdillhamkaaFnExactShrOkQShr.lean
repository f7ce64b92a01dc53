/- A part of what the claim of 'FnExactShrOk' leans on. -/
import Derived.Test.YtfofmdillhamkaaFnExactShrOkPr0
import Derived.Test.YtfofmdillhamkaaFnExactShrOkPr18
import Derived.Test.YtfofmdillhamkaaFnExactShrOkPr20
import Derived.Test.YtfofmdillhamkaaFnExactShrOkPr22
import Derived.Test.YtfofmdillhamkaaFnExactShrOkPr23
import Derived.Test.YtfofmdillhamkaaFnExactShrOkPr38
import Derived.Test.YtfofmdillhamkaaFnExactShrOkPr39
import Derived.Test.YtfofmdillhamkaaFnExactShrOkQInts
set_option linter.unusedVariables false
set_option linter.unusedSimpArgs false
namespace Go.Proofs.Ytfofmdillhamkaa.Pure
open Go.RowKit Go.Proofs.Ytfofmdillhamkaa.Pr Go.Proofs.YtfofmdillhamkaaW.PrintWords Go.Proofs.YtfofmdillhamkaaW.PrintLast Go.Proofs.YtfofmdillhamkaaW.PrintMore
theorem spec_shrOk (t : Int) (l : List Int) (h : l.length ≤ 9223372036854775807) : Ev (fun k => spec_ShrOk.f k t l) (shrOk t l) := by
  have loop : ∀ (d i : Nat), i + d = l.length → Ev (fun k => spec_ShrOk.l0 k l i) (!((l.drop i).any fun n => !(inB 0 100000 n))) := by
    intro d
    induction d with
    | zero => exact fun i hi => Ev.step (fun k => by rw [spec_ShrOk.l0]) (evElse (by omega) (evNow (by rw [List.drop_of_length_le (by omega)]; rfl)))
    | succ d ih =>
      intro i hi
      refine Ev.step (fun k => by rw [spec_ShrOk.l0]) (evIf (by omega) (evIf (by omega) (evBindC (l1In_eq _ _ _) ?_)))
      rw [rdNat l i (by omega), dropCons l i (by omega), List.any_cons]
      cases hb : inB 0 100000 l[i] with
      | true =>
        refine evIf hb ?_
        rw [wnext (n := l.length) (by omega) (by omega)]
        simpa using ih (i + 1) (by omega)
      | false => exact evElse (by rw [show (decide (0 ≤ l[i]) && decide (l[i] ≤ 100000)) = inB 0 100000 l[i] from rfl, hb]; decide) (evNow (by simp))
  unfold spec_ShrOk.f shrOk
  refine evBindC (l1In_eq _ _ _) ?_
  cases hb : inB 0 100000 t with
  | false =>
    refine evElse (by rw [show (decide (0 ≤ t) && decide (t ≤ 100000)) = inB 0 100000 t from rfl, hb]; decide) (Ev.step (fun k => by rw [spec_ShrOk.j0]) ?_)
    exact evIf rfl (evNow rfl)
  | true =>
    refine evIf hb (Ev.step (fun k => by rw [spec_ShrOk.j0]) ?_)
    by_cases hl : (l.length : Int) ≤ 100
    · refine evElse (by simp; omega) ?_
      simpa [hl] using loop l.length 0 (by omega)
    · exact evIf (by simp; omega) (evNow (by simp [hl]))
end Go.Proofs.Ytfofmdillhamkaa.Pure
