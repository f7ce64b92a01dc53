/- A part of what the claim of 'FnExactShrDue' leans on. -/
import Derived.Test.YtfofmdillhamkaaFnExactShrDuePr0
import Derived.Test.YtfofmdillhamkaaFnExactShrDueQk
set_option linter.unusedVariables false
set_option linter.unusedSimpArgs false
namespace Go.Proofs.Ytfofmdillhamkaa.Pure
open Go.RowKit Go.Proofs.Ytfofmdillhamkaa.Pr Go.Proofs.YtfofmdillhamkaaW.PrintWords Go.Proofs.YtfofmdillhamkaaW.PrintLast Go.Proofs.YtfofmdillhamkaaW.PrintMore
theorem wnext {n i : Nat} (h : i < n) (hn : n ≤ 9223372036854775807) : wrap64 ((i : Int) + 1) = ((i + 1 : Nat) : Int) := by
  rw [w64 (by omega) (by omega)]; omega
theorem setStep {α : Type} (l : List α) (z : α) (i : Nat) (h : i < l.length) : (l.take i ++ List.replicate (l.length - i) z).set i l[i] = l.take (i + 1) ++ List.replicate (l.length - (i + 1)) z := by
  apply List.ext_getElem
  · simp; omega
  · intro j h1 h2
    by_cases e : j = i
    · subst e; simp [List.getElem_append]; omega
    · simp only [List.getElem_set, List.getElem_append]
      rw [if_neg (by omega)]
      by_cases hj : j < i
      · simp [hj]; rw [dif_pos (by omega), dif_pos (by omega)]
      · simp [hj]; rw [dif_neg (by omega), dif_neg (by omega)]
theorem startStep {α : Type} (l : List α) (z : α) : List.replicate l.length z = l.take 0 ++ List.replicate (l.length - 0) z := by simp
theorem endStep {α : Type} (l : List α) (z : α) : l.take l.length ++ List.replicate (l.length - l.length) z = l := by simp
theorem rdNat (l : List Int) (i : Nat) (h : i < l.length) : rd l i = l[i] := by unfold rd; simp [h]
theorem dropCons {α : Type} (l : List α) (i : Nat) (h : i < l.length) : l.drop i = l[i] :: l.drop (i + 1) := List.drop_eq_getElem_cons h
end Go.Proofs.Ytfofmdillhamkaa.Pure
