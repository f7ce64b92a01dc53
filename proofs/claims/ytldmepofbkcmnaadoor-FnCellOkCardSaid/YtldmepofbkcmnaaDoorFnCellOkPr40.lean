/- A part of what the claim of 'FnCellOk' leans on. -/
import Derived.Test.YtldmepofbkcmnaaDoorFnCellOkPr0
import Derived.Test.YtldmepofbkcmnaaDoorFnCellOkShelf
import Derived.Test.YtldmepofbkcmnaaDoorFnCellOkQCut
namespace Go.Proofs.YtldmepofbkcmnaaDoor.Pr
open Go.RowKit Go.Proofs.YtldmepofbkcmnaaDoorW.PrintWords Go.Proofs.YtldmepofbkcmnaaDoorW.PrintLast Go.Proofs.YtldmepofbkcmnaaDoorW.PrintMore
attribute [local go_sem] max2_int min2_int max_two min_two max_three min_three max_four min_four
set_option linter.unusedVariables false
set_option linter.unusedSimpArgs false
def strings_Trim.f (a0 a1 : ByteArray) : Option ByteArray := if a1.data.toList = Pure.letters26 ∧ a0.size ≤ 9223372036854775807 then some ⟨(Go.Lib.trimS a0.data.toList Pure.letters26).toArray⟩ else none
theorem strings_Trim.calls (a0 a1 : ByteArray) (r : ByteArray) (w : World) (h : strings_Trim.f a0 a1 = some r) :
    Calls Tryd.prog 40 #[.string a0, .string a1] w fun e w' => e = .returned (.string r) ∧ Below w.heap.size w w' := by
  unfold strings_Trim.f at h
  by_cases c : a1.data.toList = Pure.letters26 ∧ a0.size ≤ 9223372036854775807
  case neg => rw [if_neg c] at h; cases h
  rw [if_pos c] at h
  obtain rfl := Option.some.inj h
  have e : a1 = ⟨Pure.letters26.toArray⟩ := by
    have : a1.data = Pure.letters26.toArray := by rw [← Array.toArray_toList (xs := a1.data), c.1]
    cases a1 with | mk d => simp only at this; subst this; rfl
  subst e
  exact Any.strings_Trim_laid Tryd.lays160 (by kernel_rfl) a0 ⟨Pure.letters26.toArray⟩ w c.2 (by decide) (ascii_of_all (by decide))
end Go.Proofs.YtldmepofbkcmnaaDoor.Pr
