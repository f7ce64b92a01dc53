/- A part of what the claim of 'FnExactTxtLeast' leans on. -/
import Derived.Test.YtcjpojppbmlfaaaDoorFnExactTxtLeastPr0
import Derived.Test.YtcjpojppbmlfaaaDoorFnExactTxtLeastPr32
import Derived.Test.YtcjpojppbmlfaaaDoorFnExactTxtLeastPr33
import Derived.Test.YtcjpojppbmlfaaaDoorFnExactTxtLeastPr36
import Derived.Test.YtcjpojppbmlfaaaDoorFnExactTxtLeastPr37
import Derived.Test.YtcjpojppbmlfaaaDoorFnExactTxtLeastPr38
import Derived.Test.YtcjpojppbmlfaaaDoorFnExactTxtLeastPr58
import Derived.Test.YtcjpojppbmlfaaaDoorFnExactTxtLeastPr60
import Derived.Test.YtcjpojppbmlfaaaDoorFnExactTxtLeastQTxt2
set_option linter.unusedVariables false
set_option linter.unusedSimpArgs false
namespace Go.Proofs.YtcjpojppbmlfaaaDoor.Pure
open Go.RowKit Go.Proofs.YtcjpojppbmlfaaaDoor.Pr Go.Proofs.YtcjpojppbmlfaaaDoorW.PrintWords Go.Proofs.YtcjpojppbmlfaaaDoorW.PrintLast Go.Proofs.YtcjpojppbmlfaaaDoorW.PrintMore
def mostOf : List ByteArray → Int → Int
  | [], n => n
  | w :: ws, n => mostOf ws (if n > (w.size : Int) then n else (w.size : Int))
theorem mxE (a b : Int) : mx a b = if a > b then a else b := by unfold mx; split <;> split <;> omega
theorem specLeast (s : ByteArray) (h : s.size ≤ 9223372036854775807) : Ev (fun k => spec_TxtLeast.f k s) (mostOf (wordsOf s) 0) := by
  unfold spec_TxtLeast.f
  refine (specWords s h).bind ?_
  have hw := wordsOf_le s
  have loop : ∀ (d i : Nat) (n : Int), i + d = (wordsOf s).length → Ev (fun k => spec_TxtLeast.l0 k (wordsOf s) n i) (mostOf ((wordsOf s).drop i) n) := by
    intro d
    induction d with
    | zero =>
      intro i n hi
      rw [show i = (wordsOf s).length by omega, List.drop_length]
      refine Ev.step (fun k => by rw [spec_TxtLeast.l0]) ?_
      exact evElse (by omega) (evNow rfl)
    | succ d ih =>
      intro i n hi
      have hlt : i < (wordsOf s).length := by omega
      rw [dropCons _ i hlt, mostOf]
      refine Ev.step (fun k => by rw [spec_TxtLeast.l0]) (evIf (by omega) (evIf (by omega) ?_))
      rw [rdS _ i hlt]
      refine evBindC (show spec_l1Max.f n ((wordsOf s)[i].size : Int) = some (if n > ((wordsOf s)[i].size : Int) then n else ((wordsOf s)[i].size : Int)) by unfold spec_l1Max.f; split <;> rfl) ?_
      rw [wnext (n := (wordsOf s).length) (by omega) (by omega)]
      exact ih (i + 1) _ (by omega)
  exact loop (wordsOf s).length 0 0 (by omega)
theorem implLeast (s : ByteArray) (h : s.size < 4294967281) : Ev (fun k => impl_TxtLeast.f k s) (mostOf (wordsOf s) 0) := by
  unfold impl_TxtLeast.f
  refine (implWords s h).bind ?_
  have hw := wordsOf_le s
  have loop : ∀ (d i : Nat) (n : Int), i + d = (wordsOf s).length → Ev (fun k => impl_TxtLeast.l0 k n (wordsOf s) ((wordsOf s).length : Int) i) (mostOf ((wordsOf s).drop i) n) := by
    intro d
    induction d with
    | zero =>
      intro i n hi
      rw [show i = (wordsOf s).length by omega, List.drop_length]
      refine Ev.step (fun k => by rw [impl_TxtLeast.l0]) ?_
      exact evElse (by omega) (evNow rfl)
    | succ d ih =>
      intro i n hi
      have hlt : i < (wordsOf s).length := by omega
      rw [dropCons _ i hlt, mostOf]
      refine Ev.step (fun k => by rw [impl_TxtLeast.l0]) (evIf (by omega) (evIf (by omega) (evIf (by omega) ?_)))
      rw [rdS _ i hlt, mxE, wnext (n := (wordsOf s).length) (by omega) (by omega)]
      exact ih (i + 1) _ (by omega)
  exact loop (wordsOf s).length 0 0 (by omega)
end Go.Proofs.YtcjpojppbmlfaaaDoor.Pure
