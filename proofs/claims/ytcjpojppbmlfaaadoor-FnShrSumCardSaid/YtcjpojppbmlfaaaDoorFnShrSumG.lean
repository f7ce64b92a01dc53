/- A part of what the claim of 'FnShrSum' leans on. -/
import Derived.Test.YtcjpojppbmlfaaaDoorFnShrSumWWords
import Derived.Test.YtcjpojppbmlfaaaDoorFnShrSumWLast
import Derived.Test.YtcjpojppbmlfaaaDoorFnShrSumWMore
import Derived.Lib.SliceRun
namespace Go.Proofs.YtcjpojppbmlfaaaDoor.Pr
open Go.RowKit Go.Proofs.YtcjpojppbmlfaaaDoorW.PrintWords Go.Proofs.YtcjpojppbmlfaaaDoorW.PrintLast Go.Proofs.YtcjpojppbmlfaaaDoorW.PrintMore
set_option linter.unusedVariables false
def idxOf {α : Type} (p : α → Bool) : List α → Int
  | [] => -1
  | x :: l => if p x = true then 0 else if idxOf p l < 0 then -1 else idxOf p l + 1
theorem idxOf_range {α : Type} (p : α → Bool) (l : List α) : -1 ≤ idxOf p l ∧ idxOf p l < l.length ∧ (0 ≤ idxOf p l ↔ l.any p = true) := by
  induction l with
  | nil => simp [idxOf]
  | cons x l ih =>
    obtain ⟨i1, i2, i3⟩ := ih
    unfold idxOf
    rw [List.any_cons, List.length_cons]
    by_cases h : p x = true
    · rw [if_pos h, h]; exact ⟨by omega, by omega, by simp⟩
    · rw [if_neg h, Bool.eq_false_iff.mpr h, Bool.false_or, ← i3]
      by_cases h2 : idxOf p l < 0
      · rw [if_pos h2]; exact ⟨by omega, by omega, by omega⟩
      · rw [if_neg h2]; exact ⟨by omega, by omega, by omega⟩
theorem idxOf_hit {α : Type} (p : α → Bool) : ∀ (l : List α) (k : Nat) (x : α), l[k]? = some x → p x = true → (∀ j y, j < k → l[j]? = some y → p y = false) → idxOf p l = k
  | [], k, x, h, _, _ => by simp at h
  | a :: l, 0, x, h, hp, _ => by simp at h; subst h; simp [idxOf, hp]
  | a :: l, k + 1, x, h, hp, hn => by
    have ha : p a = false := hn 0 a (by omega) (by simp)
    have ih := idxOf_hit p l k x (by simpa using h) hp (fun j y hj hy => hn (j + 1) y (by omega) (by simpa using hy))
    unfold idxOf
    rw [if_neg (by simp [ha]), ih, if_neg (by omega)]
    omega
theorem idxOf_miss {α : Type} (p : α → Bool) (l : List α) (h : ∀ j y, j < l.length → l[j]? = some y → p y = false) : idxOf p l = -1 := by
  have r := idxOf_range p l
  have : ¬ l.any p = true := by
    intro q
    obtain ⟨x, hx, hp⟩ := List.any_eq_true.1 q
    obtain ⟨j, hj⟩ := List.getElem?_of_mem hx
    have := h j x (List.getElem?_eq_some_iff.1 hj).1 hj
    rw [this] at hp; cases hp
  have : ¬ 0 ≤ idxOf p l := fun q => this (r.2.2.mp q)
  omega
theorem rd_at (l : List Int) (k : Nat) (h : k < l.length) : l[k]? = some (rd l k) := by
  unfold rd; simp [List.getD_eq_getElem?_getD, h]
structure Cf (P : Program) where
  f : Int → Int → Option Int
  g : Nat
  lb : Array Value
  W : World
  enters : ∀ args w, (callFunc g args).run P w = .ok (.enter g args) w
  calls : ∀ (a b r : Int) (w : World), Below W.heap.size W w → f a b = some r → Calls P g (#[.int .i64 a, .int .i64 b] ++ lb) w fun e w' => e = .returned (.int .i64 r) ∧ Drawn0 w w'
theorem goesF_ {P : Program} {ops : Array Oper} {Q : Exit → Act → World → Prop} {oi : Oper} {N : Option Tmp} {a : Act} {w : World} {K : Act → World → Prop} (cf : Cf P) {j : Tmp} {as : Array Operand} {ts : Array TypeId} (args : Array Value)
    (hw : Region.wanted oi (yielded ops a.tmps) = true) (hN : oi.dst = N) (hop : oi.op = .call { callee := .value (.tmp j), args := as, argTypes := ts }) (hv : a.eval (.tmp j) = .func (.func cf.g) #[] cf.lb) (hargs : as.map a.eval = args)
    (h : Calls P cf.g (args ++ cf.lb) w fun e w' => ∃ v, e = .returned v ∧ K (a.put N v) w') : if Region.wanted oi (yielded ops a.tmps) = true then Oper.wp P oi a w K Q else K (a.put N undef) w := by
  refine call_ cf.g (args ++ cf.lb) hw hN ?_ h
  have he := cf.enters (args ++ cf.lb) w
  unfold execOp
  simp [hop, resolve, Deferred.ofValue, invoke, hv, hargs, he]
end Go.Proofs.YtcjpojppbmlfaaaDoor.Pr
