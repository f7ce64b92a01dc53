/- A part of what the claim of 'FnBrdText' leans on. -/
import Derived.Test.YtfofmdillhamkaaDoorFnBrdTextPr0
import Derived.Test.YtfofmdillhamkaaDoorFnBrdTextShelf
namespace Go.Proofs.YtfofmdillhamkaaDoor.Pr
open Go.RowKit Go.Proofs.YtfofmdillhamkaaDoorW.PrintWords Go.Proofs.YtfofmdillhamkaaDoorW.PrintLast Go.Proofs.YtfofmdillhamkaaDoorW.PrintMore
attribute [local go_sem] max2_int min2_int max_two min_two max_three min_three max_four min_four
set_option linter.unusedVariables false
set_option linter.unusedSimpArgs false
def decS (n : Int) : ByteArray := ⟨(Go.Lib.decDigits n.toNat).toArray⟩
def strconv_Itoa_15.f (a0 : Int) : Option ByteArray := if 0 ≤ a0 ∧ a0 < 100 then some (decS a0) else none
theorem strconv_Itoa_15.calls (a0 : Int) (r : ByteArray) (w : World) (h : strconv_Itoa_15.f a0 = some r) :
    Calls Tryd.prog 15 #[.int .i64 a0] w fun e w' => e = .returned (.string r) ∧ Below w.heap.size w w' := by
  unfold strconv_Itoa_15.f at h
  by_cases c : 0 ≤ a0 ∧ a0 < 100
  case neg => rw [if_neg c] at h; cases h
  rw [if_pos c] at h
  obtain rfl := Option.some.inj h
  obtain ⟨n, rfl⟩ : ∃ n : Nat, a0 = n := ⟨a0.toNat, by omega⟩
  refine (Any.strconv_Itoa_small Tryd.lays171 n (by omega) w).mono ?_
  rintro e w' ⟨rfl, rfl⟩
  exact ⟨by unfold decS; rw [Int.toNat_natCast], Below.refl _ _⟩
end Go.Proofs.YtfofmdillhamkaaDoor.Pr
