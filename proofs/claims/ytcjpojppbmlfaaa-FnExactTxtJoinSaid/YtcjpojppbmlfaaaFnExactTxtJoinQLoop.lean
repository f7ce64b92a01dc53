/- A part of what the claim of 'FnExactTxtJoin' leans on. -/
import Derived.Test.YtcjpojppbmlfaaaFnExactTxtJoinPr0
import Derived.Test.YtcjpojppbmlfaaaFnExactTxtJoinQk0
set_option linter.unusedVariables false
set_option linter.unusedSimpArgs false
namespace Go.Proofs.Ytcjpojppbmlfaaa.Pure
open Go.RowKit Go.Proofs.Ytcjpojppbmlfaaa.Pr Go.Proofs.YtcjpojppbmlfaaaW.PrintWords Go.Proofs.YtcjpojppbmlfaaaW.PrintLast Go.Proofs.YtcjpojppbmlfaaaW.PrintMore
theorem wnext {n i : Nat} (h : i < n) (hn : n ≤ 9223372036854775807) : wrap64 ((i : Int) + 1) = ((i + 1 : Nat) : Int) := by
  rw [w64 (by omega) (by omega)]; omega
theorem setStep {α : Type} (l : List α) (z : α) (i : Nat) (h : i < l.length) : (l.take i ++ List.replicate (l.length - i) z).set i l[i] = l.take (i + 1) ++ List.replicate (l.length - (i + 1)) z := by
  apply List.ext_getElem
  · simp; omega
  · intro j h1 h2
    by_cases e : j = i
    · subst e; simp [List.getElem_append]; omega
    · simp only [List.getElem_set, List.getElem_append]
      rw [if_neg (by omega)]
      by_cases hj : j < i
      · simp [hj]; rw [dif_pos (by omega), dif_pos (by omega)]
      · simp [hj]; rw [dif_neg (by omega), dif_neg (by omega)]
theorem dropCons {α : Type} (l : List α) (i : Nat) (h : i < l.length) : l.drop i = l[i] :: l.drop (i + 1) := List.drop_eq_getElem_cons h
end Go.Proofs.Ytcjpojppbmlfaaa.Pure
