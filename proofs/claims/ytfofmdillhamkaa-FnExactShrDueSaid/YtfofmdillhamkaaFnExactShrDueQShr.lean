/- A part of what the claim of 'FnExactShrDue' leans on. -/
import Derived.Test.YtfofmdillhamkaaFnExactShrDuePr0
import Derived.Test.YtfofmdillhamkaaFnExactShrDuePr18
import Derived.Test.YtfofmdillhamkaaFnExactShrDuePr20
import Derived.Test.YtfofmdillhamkaaFnExactShrDuePr22
import Derived.Test.YtfofmdillhamkaaFnExactShrDuePr23
import Derived.Test.YtfofmdillhamkaaFnExactShrDuePr38
import Derived.Test.YtfofmdillhamkaaFnExactShrDuePr39
import Derived.Test.YtfofmdillhamkaaFnExactShrDueQInts
set_option linter.unusedVariables false
set_option linter.unusedSimpArgs false
namespace Go.Proofs.Ytfofmdillhamkaa.Pure
open Go.RowKit Go.Proofs.Ytfofmdillhamkaa.Pr Go.Proofs.YtfofmdillhamkaaW.PrintWords Go.Proofs.YtfofmdillhamkaaW.PrintLast Go.Proofs.YtfofmdillhamkaaW.PrintMore
theorem spec_shrOk (t : Int) (l : List Int) (h : l.length ≤ 9223372036854775807) : Ev (fun k => spec_ShrOk.f k t l) (shrOk t l) := by
  have loop : ∀ (d i : Nat), i + d = l.length → Ev (fun k => spec_ShrOk.l0 k l i) (!((l.drop i).any fun n => !(inB 0 100000 n))) := by
    intro d
    induction d with
    | zero => exact fun i hi => Ev.step (fun k => by rw [spec_ShrOk.l0]) (evElse (by omega) (evNow (by rw [List.drop_of_length_le (by omega)]; rfl)))
    | succ d ih =>
      intro i hi
      refine Ev.step (fun k => by rw [spec_ShrOk.l0]) (evIf (by omega) (evIf (by omega) (evBindC (l1In_eq _ _ _) ?_)))
      rw [rdNat l i (by omega), dropCons l i (by omega), List.any_cons]
      cases hb : inB 0 100000 l[i] with
      | true =>
        refine evIf hb ?_
        rw [wnext (n := l.length) (by omega) (by omega)]
        simpa using ih (i + 1) (by omega)
      | false => exact evElse (by rw [show (decide (0 ≤ l[i]) && decide (l[i] ≤ 100000)) = inB 0 100000 l[i] from rfl, hb]; decide) (evNow (by simp))
  unfold spec_ShrOk.f shrOk
  refine evBindC (l1In_eq _ _ _) ?_
  cases hb : inB 0 100000 t with
  | false =>
    refine evElse (by rw [show (decide (0 ≤ t) && decide (t ≤ 100000)) = inB 0 100000 t from rfl, hb]; decide) (Ev.step (fun k => by rw [spec_ShrOk.j0]) ?_)
    exact evIf rfl (evNow rfl)
  | true =>
    refine evIf hb (Ev.step (fun k => by rw [spec_ShrOk.j0]) ?_)
    by_cases hl : (l.length : Int) ≤ 100
    · refine evElse (by simp; omega) ?_
      simpa [hl] using loop l.length 0 (by omega)
    · exact evIf (by simp; omega) (evNow (by simp [hl]))
def sumW (l : List Int) : Int := l.foldl (fun s x => wrap64 (s + x)) 0
theorem spec_sum (l : List Int) (h : l.length ≤ 9223372036854775807) : Ev (fun k => spec_l1Sum.f k l) (sumW l) := by
  have loop : ∀ (d i : Nat) (s : Int), i + d = l.length → Ev (fun k => spec_l1Sum.l0 k l s i) ((l.drop i).foldl (fun s x => wrap64 (s + x)) s) := by
    intro d
    induction d with
    | zero => exact fun i s hi => Ev.step (fun k => by rw [spec_l1Sum.l0]) (evElse (by omega) (evNow (by rw [List.drop_of_length_le (by omega)]; rfl)))
    | succ d ih =>
      intro i s hi
      refine Ev.step (fun k => by rw [spec_l1Sum.l0]) (evIf (by omega) (evIf (by omega) ?_))
      rw [rdNat l i (by omega), dropCons l i (by omega), wnext (n := l.length) (by omega) (by omega), List.foldl_cons]
      exact ih (i + 1) _ (by omega)
  exact loop l.length 0 0 (by omega)
theorem impl_sum (l : List Int) (h : l.length ≤ 9223372036854775807) : Ev (fun k => impl_sumOf.f k l) (sumW l) := by
  have loop : ∀ (d i : Nat) (s : Int), i + d = l.length → Ev (fun k => impl_sumOf.l0 k s l (l.length : Int) i) ((l.drop i).foldl (fun s x => wrap64 (s + x)) s) := by
    intro d
    induction d with
    | zero => exact fun i s hi => Ev.step (fun k => by rw [impl_sumOf.l0]) (evElse (by omega) (evNow (by rw [List.drop_of_length_le (by omega)]; rfl)))
    | succ d ih =>
      intro i s hi
      refine Ev.step (fun k => by rw [impl_sumOf.l0]) (evIf (by omega) (evIf (by omega) (evIf (by omega) ?_)))
      rw [rdNat l i (by omega), dropCons l i (by omega), wnext (n := l.length) (by omega) (by omega), List.foldl_cons]
      exact ih (i + 1) _ (by omega)
  exact loop l.length 0 0 (by omega)
def shrDue (t : Int) (l : List Int) (k : Int) : Int :=
  if shrOk t l = true ∧ 0 ≤ k ∧ k < l.length ∧ sumW l ≠ 0 then wrap64 (Int.tdiv (wrap64 (t * rd l k)) (sumW l)) else 0
theorem spec_shrDue (t : Int) (l : List Int) (x : Int) (h : l.length ≤ 9223372036854775807) : Ev (fun k => spec_ShrDue.f k t l x) (shrDue t l x) := by
  unfold spec_ShrDue.f shrDue
  refine (spec_shrOk t l h).bind ?_
  by_cases ho : shrOk t l = true
  · refine evIf ho (evBindC (l1In_eq _ _ _) ?_)
    rw [w64 (x := (l.length : Int) - 1) (by omega) (by omega)]
    by_cases hx : 0 ≤ x ∧ x < l.length
    · refine evIf (by simp; omega) ((spec_sum l h).bind ?_)
      by_cases hs : sumW l = 0
      · exact evIf hs (evNow (by rw [if_neg (by simp [hs])]))
      · refine evElse hs (evIf hx.1 (evIf hx.2 ((spec_sum l h).bind (evElse hs (evNow ?_)))))
        rw [if_pos ⟨ho, hx.1, hx.2, hs⟩]
    · exact evElse (by simp; omega) (evNow (by rw [if_neg (by omega)]))
  · exact evElse ho (evNow (by rw [if_neg (fun q => ho q.1)]))
theorem impl_shrDue (t : Int) (l : List Int) (x : Int) (h : l.length ≤ 9223372036854775807) : Ev (fun k => impl_ShrDue.f k t l x) (shrDue t l x) := by
  unfold impl_ShrDue.f shrDue
  refine evBindC (show impl_ShrOk.f t l = some (shrOk t l) from rfl) ?_
  by_cases ho : shrOk t l = true
  · refine evIf ho (evBindC (in_eq _ _ _) ?_)
    rw [w64 (x := (l.length : Int) - 1) (by omega) (by omega)]
    by_cases hx : 0 ≤ x ∧ x < l.length
    · refine evIf (by simp; omega) ((impl_sum l h).bind ?_)
      by_cases hs : sumW l = 0
      · exact evIf hs (evNow (by rw [if_neg (by simp [hs])]))
      · refine evElse hs (evIf hx.1 (evIf hx.2 ((impl_sum l h).bind (evElse hs (evNow ?_)))))
        rw [if_pos ⟨ho, hx.1, hx.2, hs⟩]
    · exact evElse (by simp; omega) (evNow (by rw [if_neg (by omega)]))
  · exact evElse ho (evNow (by rw [if_neg (fun q => ho q.1)]))
end Go.Proofs.Ytfofmdillhamkaa.Pure
