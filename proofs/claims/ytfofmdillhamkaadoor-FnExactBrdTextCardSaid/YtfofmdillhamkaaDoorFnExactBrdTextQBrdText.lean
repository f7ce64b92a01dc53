/- A part of what the claim of 'FnExactBrdText' leans on. -/
import Derived.Test.YtfofmdillhamkaaDoorFnExactBrdTextPr0
import Derived.Test.YtfofmdillhamkaaDoorFnExactBrdTextPr14
import Derived.Test.YtfofmdillhamkaaDoorFnExactBrdTextPr15
import Derived.Test.YtfofmdillhamkaaDoorFnExactBrdTextPr5
import Derived.Test.YtfofmdillhamkaaDoorFnExactBrdTextPr7
import Derived.Test.YtfofmdillhamkaaDoorFnExactBrdTextQBrd
set_option linter.unusedVariables false
set_option linter.unusedSimpArgs false
namespace Go.Proofs.YtfofmdillhamkaaDoor.Pure
open Go.RowKit Go.Proofs.YtfofmdillhamkaaDoor.Pr Go.Proofs.YtfofmdillhamkaaDoorW.PrintWords Go.Proofs.YtfofmdillhamkaaDoorW.PrintLast Go.Proofs.YtfofmdillhamkaaDoorW.PrintMore
theorem decS_small (n : Int) (h0 : 0 ≤ n) (h1 : n ≤ 9) : decS n = strOfNums [48 + n] ∧ (decS n).size = 1 := by
  have : n = 0 ∨ n = 1 ∨ n = 2 ∨ n = 3 ∨ n = 4 ∨ n = 5 ∨ n = 6 ∨ n = 7 ∨ n = 8 ∨ n = 9 := by omega
  rcases this with rfl | rfl | rfl | rfl | rfl | rfl | rfl | rfl | rfl | rfl <;> exact ⟨by decide +kernel, by decide +kernel⟩
theorem digits (n : Int) (h0 : 0 ≤ n) (h1 : n ≤ 9) : Ev (fun k => spec_l1Digits.f k n) (decS n) := by
  unfold spec_l1Digits.f
  obtain ⟨e, _⟩ := decS_small n h0 h1
  by_cases h : n < 1
  · have : n = 0 := by omega
    subst this
    exact evIf h (evNow (by rw [e]; rfl))
  · refine evElse h ?_
    have e1 : wrap64 (Int.tdiv n 10) = 0 := by
      have : Int.tdiv n 10 = 0 := by rw [Int.tdiv_eq_ediv_of_nonneg h0]; omega
      rw [this]; exact w64 (by omega) (by omega)
    have e2 : wrap64 (48 + Int.tmod n 10) % 256 = 48 + n := by
      have : Int.tmod n 10 = n := by rw [Int.tmod_eq_emod_of_nonneg h0]; omega
      rw [this, w64 (by omega) (by omega)]; omega
    have s1 : ∀ x : Int, (strOfNums [x]).size = 1 := fun x => rfl
    refine Ev.step (fun k => by rw [spec_l1Digits.l0]) ?_
    refine evIf (by omega) ?_
    refine evSome ?_
    refine evIf (by rw [s1]; decide) ?_
    rw [e1, e2]
    refine Ev.step (fun k => by rw [spec_l1Digits.l0]) ?_
    refine evElse (by omega) (evNow ?_)
    rw [e]
    congr 1
def brdText (s n : Int) : ByteArray := if brdOk s n = true then decS s ++ decS n else ⟨#[]⟩
theorem brdOk_range {s n : Int} (h : brdOk s n = true) : 0 ≤ s ∧ s ≤ 4 ∧ 0 ≤ n ∧ n ≤ 3 := by
  rw [brdOk_iff] at h; omega
theorem implText (s n : Int) : impl_BrdText.f s n = some (brdText s n) := by
  unfold impl_BrdText.f brdText
  rw [impl_brdOk, Option.bind_some]
  by_cases h : brdOk s n = true
  · obtain ⟨a, b, c, d⟩ := brdOk_range h
    have e1 := (decS_small s a (by omega)).2
    have e2 := (decS_small n c (by omega)).2
    rw [if_pos h, if_pos h]
    unfold strconv_Itoa_15.f
    rw [if_pos ⟨by omega, by omega⟩, if_pos ⟨by omega, by omega⟩]
    simp only [Option.bind_some]
    rw [if_pos (by omega)]
  · rw [if_neg h, if_neg h]
theorem specText (s n : Int) : Ev (fun k => spec_BrdText.f k s n) (brdText s n) := by
  unfold spec_BrdText.f brdText
  refine (spec_brdOk s n).bind ?_
  by_cases h : brdOk s n = true
  · obtain ⟨a, b, c, d⟩ := brdOk_range h
    have e1 := (decS_small s a (by omega)).2
    have e2 := (decS_small n c (by omega)).2
    rw [if_pos h]
    refine evIf h ((digits s a (by omega)).bind ((digits n c (by omega)).bind ?_))
    exact evIf (by omega) (evNow rfl)
  · rw [if_neg h]
    exact evElse h (evNow rfl)
end Go.Proofs.YtfofmdillhamkaaDoor.Pure
