/- A part of what the claim of 'FnExactTxtJoin' leans on. -/
import Derived.Test.YtcjpojppbmlfaaaFnExactTxtJoinPr0
import Derived.Test.YtcjpojppbmlfaaaFnExactTxtJoinQLoop
set_option linter.unusedVariables false
set_option linter.unusedSimpArgs false
namespace Go.Proofs.Ytcjpojppbmlfaaa.Pure
open Go.RowKit Go.Proofs.Ytcjpojppbmlfaaa.Pr Go.Proofs.YtcjpojppbmlfaaaW.PrintWords Go.Proofs.YtcjpojppbmlfaaaW.PrintLast Go.Proofs.YtcjpojppbmlfaaaW.PrintMore
theorem cpLoop {α β : Type} (l : List α) (cv : α → β) (z : β) (hl : l.length ≤ 9223372036854775807) (F : Nat → List β → Int → Option (List β)) (g : Nat → Int → Option β)
    (hF : ∀ k xs i, F (k + 1) xs i = if i < (l.length : Int) then (if 0 ≤ i then ((g k i).bind fun v => if i < (xs.length : Int) then F k (xs.set i.toNat v) (wrap64 (i + 1)) else none) else none) else some xs)
    (hg : ∀ (i : Nat) (h : i < l.length), Ev (fun k => g k (i : Int)) (cv l[i])) : Ev (fun k => F k (List.replicate l.length z) 0) (l.map cv) := by
  have loop : ∀ (d i : Nat), i + d = l.length → Ev (fun k => F k ((l.map cv).take i ++ List.replicate (l.length - i) z) i) (l.map cv) := by
    intro d
    induction d with
    | zero =>
      intro i hi
      obtain rfl : i = l.length := by omega
      refine Ev.step (fun k => by rw [hF]) (evElse (by omega) (evNow (by rw [List.take_of_length_le (by simp)]; simp)))
    | succ d ih =>
      intro i hi
      have hlt : i < l.length := by omega
      refine Ev.step (fun k => by rw [hF]) (evIf (by omega) (evIf (by omega) ?_))
      refine Ev.bind (hg i hlt) ?_
      refine evIf (by simp; omega) ?_
      have hm : (l.map cv).length = l.length := by simp
      have e := setStep (l.map cv) z i (by rw [hm]; exact hlt)
      simp only [List.length_map, List.getElem_map] at e
      rw [Int.toNat_natCast, e, wnext (n := l.length) (by omega) hl]
      exact ih (i + 1) (by omega)
  have := loop l.length 0 (by omega)
  simpa using this
theorem allLoop (n : Nat) (hn : n ≤ 9223372036854775807) (F : Nat → Int → Option Bool) (g : Nat → Int → Option Bool)
    (hF : ∀ k (i : Nat), i < n → F (k + 1) (i : Int) = ((g k (i : Int)).bind fun t => if t = true then F k (wrap64 ((i : Int) + 1)) else some false))
    (hE : ∀ k, F (k + 1) (n : Int) = some true) (p : Nat → Bool)
    (hg : ∀ (i : Nat), i < n → Ev (fun k => g k (i : Int)) (p i)) : ∀ (d i : Nat), i + d = n → Ev (fun k => F k (i : Int)) ((List.range' i d).all p) := by
  intro d
  induction d with
  | zero =>
    intro i hi
    obtain rfl : i = n := by omega
    exact Ev.step (fun k => hE k) (evNow rfl)
  | succ d ih =>
    intro i hi
    refine Ev.step (fun k => hF k i (by omega)) (Ev.bind (hg i (by omega)) ?_)
    rw [List.range'_succ, List.all_cons]
    cases hp : p i with
    | false => exact evElse (by simp) (evNow (by simp))
    | true =>
      refine evIf rfl ?_
      rw [wnext (n := n) (by omega) hn]
      simpa using ih (i + 1) (by omega)
theorem allLoop0 (n : Nat) (hn : n ≤ 9223372036854775807) (F : Nat → Int → Option Bool) (g : Nat → Int → Option Bool)
    (hF : ∀ k (i : Nat), i < n → F (k + 1) (i : Int) = ((g k (i : Int)).bind fun t => if t = true then F k (wrap64 ((i : Int) + 1)) else some false))
    (hE : ∀ k, F (k + 1) (n : Int) = some true) (hg : ∀ (i : Nat), i < n → Ev (fun k => g k (i : Int)) true) : Ev (fun k => F k 0) true := by
  have := allLoop n hn F g hF hE (fun _ => true) hg n 0 (by omega)
  have e : (List.range' 0 n).all (fun _ => true) = true := by rw [List.all_eq_true]; exact fun _ _ => rfl
  rw [e] at this
  exact this
end Go.Proofs.Ytcjpojppbmlfaaa.Pure
