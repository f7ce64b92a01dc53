/- A part of what the claim of 'FnTxtJoin' leans on. -/
import Derived.Test.YtldmepofbkcmnaaFnTxtJoinPr0
import Derived.Test.YtldmepofbkcmnaaFnTxtJoinPr6
import Derived.Test.YtldmepofbkcmnaaFnTxtJoinQJoinB
set_option linter.unusedVariables false
set_option linter.unusedSimpArgs false
namespace Go.Proofs.Ytldmepofbkcmnaa.Pure
open Go.RowKit Go.Proofs.Ytldmepofbkcmnaa.Pr Go.Proofs.YtldmepofbkcmnaaW.PrintWords Go.Proofs.YtldmepofbkcmnaaW.PrintLast Go.Proofs.YtldmepofbkcmnaaW.PrintMore
theorem joinL_take_le : ∀ (l : List Wd) (i : Nat), (joinL (l.take i)).length ≤ (joinL l).length
  | [], i => by simp [joinL]
  | [v], 0 => by simp [joinL]
  | [v], i + 1 => by simp
  | v :: u :: vs, 0 => by simp [joinL]
  | v :: u :: vs, i + 1 => by
    have ih := joinL_take_le (u :: vs) i
    rw [List.take_succ_cons, joinL_cons v (by simp : u :: vs ≠ [])]
    by_cases hi : i = 0
    · subst hi; simp [joinL]
    · rw [joinL_cons v (by obtain ⟨j, rfl⟩ : ∃ j, i = j + 1 := ⟨i - 1, by omega⟩; simp)]
      simp only [List.length_append, List.length_cons]; omega
theorem specJoin (l : List ByteArray) (h1 : l.length ≤ 100000000000) (h2 : (joinL (l.map bl)).length ≤ 100000000000) : Ev (fun k => spec_TxtJoin.f k l) (joinB l) := by
  unfold spec_TxtJoin.f
  have loop : ∀ (d i : Nat) (o : ByteArray), i + d = l.length → bl o = joinL ((l.take i).map bl) → Ev (fun k => spec_TxtJoin.l0 k l o i) (joinB l) := by
    intro d
    induction d with
    | zero =>
      intro i o hi ho
      refine Ev.step (fun k => by rw [spec_TxtJoin.l0]) (evElse (by omega) (evNow ?_))
      rw [show i = l.length by omega, List.take_length] at ho
      exact congrArg some (bl_ext (by rw [ho]; rfl))
    | succ d ih =>
      intro i o hi ho
      have hlt : i < l.length := by omega
      have hb1 := joinL_take_le (l.map bl) (i + 1)
      have et : (l.map bl).take (i + 1) = (l.take i).map bl ++ [bl l[i]] := by
        rw [List.take_add_one, List.getElem?_map, ← List.map_take, List.getElem?_eq_getElem hlt]; rfl
      rw [et] at hb1
      have en := wnext (n := l.length) (i := i) (by omega) (by omega)
      have hrd := rdS l i hlt
      have et2 : (l.take (i + 1)).map bl = (l.take i).map bl ++ [bl l[i]] := by rw [← et, List.map_take]
      have nx := fun o' h => ih (i + 1) o' (by omega) h
      rw [et2] at nx
      have hol : o.size = (joinL ((l.take i).map bl)).length := by rw [bl_len, ho]
      generalize l[i] = v at hb1 hrd nx ⊢
      have hv : v.size = (bl v).length := bl_len v
      refine Ev.step (fun k => by rw [spec_TxtJoin.l0]) (evIf (by omega) ?_)
      rw [hrd, en]
      clear hrd en
      by_cases hi0 : i = 0
      · subst hi0
        have e0 : (l.take 0).map bl = [] := by simp
        rw [e0] at hb1 nx hol ho
        refine evElse (by omega) (evIf (by omega) (evIf ?_ (nx _ ?_)))
        · have : (joinL ([] ++ [bl v])).length = (bl v).length := rfl
          have : o.size = 0 := hol
          omega
        · rw [bl_app, ho]; rfl
      · have hne : (l.take i).map bl ≠ [] := by
          intro e
          have := congrArg List.length e
          rw [List.length_map, List.length_take, List.length_nil] at this; omega
        rw [joinL_snoc _ hne] at hb1 nx
        simp only [List.length_append, List.length_cons] at hb1
        have e3 : (o ++ (⟨#[32]⟩ : ByteArray)).size = o.size + 1 := by rw [ByteArray.size_append]; rfl
        refine evIf (by omega) (evIf (by omega) (evIf (by omega) (evIf (by rw [e3]; omega) (nx _ ?_))))
        rw [bl_app, bl_app, ho]
        show (joinL ((l.take i).map bl) ++ [32]) ++ bl v = _
        simp
  exact loop l.length 0 _ (by omega) rfl
end Go.Proofs.Ytldmepofbkcmnaa.Pure
