/- A part of what the claim of 'FnTblOk' leans on. -/
import Derived.Test.YtnednnnegofhkaaDoorFnTblOkWWords
import Derived.Test.YtnednnnegofhkaaDoorFnTblOkWLast
import Derived.Test.YtnednnnegofhkaaDoorFnTblOkWMore
import Derived.Lib.SliceRun
namespace Go.Proofs.YtnednnnegofhkaaDoor.Pr
open Go.RowKit Go.Proofs.YtnednnnegofhkaaDoorW.PrintWords Go.Proofs.YtnednnnegofhkaaDoorW.PrintLast Go.Proofs.YtnednnnegofhkaaDoorW.PrintMore
set_option linter.unusedVariables false
def idxOf {α : Type} (p : α → Bool) : List α → Int
  | [] => -1
  | x :: l => if p x = true then 0 else if idxOf p l < 0 then -1 else idxOf p l + 1
theorem idxOf_range {α : Type} (p : α → Bool) (l : List α) : -1 ≤ idxOf p l ∧ idxOf p l < l.length ∧ (0 ≤ idxOf p l ↔ l.any p = true) := by
 induction l with
 | nil => simp [idxOf]
 | cons x l ih =>
  obtain ⟨i1, i2, i3⟩ := ih
  unfold idxOf
  rw [List.any_cons, List.length_cons]
  by_cases h : p x = true
  ·rw [if_pos h, h]; exact ⟨by omega, by omega, by simp⟩
  ·rw [if_neg h, Bool.eq_false_iff.mpr h, Bool.false_or, ← i3]
   by_cases h2 : idxOf p l < 0
   ·rw [if_pos h2]; exact ⟨by omega, by omega, by omega⟩
   ·rw [if_neg h2]; exact ⟨by omega, by omega, by omega⟩
theorem idxOf_hit {α : Type} (p : α → Bool) : ∀ (l : List α) (k : Nat) (x : α), l[k]? = some x → p x = true → (∀ j y, j < k → l[j]? = some y → p y = false) → idxOf p l = k
 | [], k, x, h, _, _ => by simp at h
 | a :: l, 0, x, h, hp, _ => by simp at h; subst h; simp [idxOf, hp]
 | a :: l, k + 1, x, h, hp, hn => by
  have ha : p a = false := hn 0 a (by omega) (by simp)
  have ih := idxOf_hit p l k x (by simpa using h) hp (fun j y hj hy => hn (j + 1) y (by omega) (by simpa using hy))
  unfold idxOf
  rw [if_neg (by simp [ha]), ih, if_neg (by omega)]
  omega
theorem idxOf_miss {α : Type} (p : α → Bool) (l : List α) (h : ∀ j y, j < l.length → l[j]? = some y → p y = false) : idxOf p l = -1 := by
 have r := idxOf_range p l
 have : ¬ l.any p = true := by
  intro q
  obtain ⟨x, hx, hp⟩ := List.any_eq_true.1 q
  obtain ⟨j, hj⟩ := List.getElem?_of_mem hx
  have := h j x (List.getElem?_eq_some_iff.1 hj).1 hj
  rw [this] at hp; cases hp
 have : ¬ 0 ≤ idxOf p l := fun q => this (r.2.2.mp q)
 omega
theorem getD_at {α : Type} (l : List α) (k : Nat) (z : α) (h : k < l.length) : l[k]? = some (l.getD (k : Int).toNat z) := by
  simp [List.getD_eq_getElem?_getD, h]
theorem qa_ {α : Type _} (l : List α) (i : Nat) (a : α) : l.toArray.setIfInBounds i a = (l.set i a).toArray := by simp
theorem qb_ {α : Type _} (a b : α) (l : List α) : (a :: l).set 0 b = b :: l := rfl
theorem qc_ {α : Type _} (a b : α) (l : List α) (i : Nat) : (a :: l).set (i + 1) b = a :: l.set i b := rfl
end Go.Proofs.YtnednnnegofhkaaDoor.Pr
