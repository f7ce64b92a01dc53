/- A part of what the claim of 'FnExactGrdFind' leans on. -/
import Derived.Test.YtemcdfkmpikegaaFnExactGrdFindPr0
import Derived.Test.YtemcdfkmpikegaaFnExactGrdFindPr13
import Derived.Test.YtemcdfkmpikegaaFnExactGrdFindPr14
import Derived.Test.YtemcdfkmpikegaaFnExactGrdFindPr15
import Derived.Test.YtemcdfkmpikegaaFnExactGrdFindPr17
import Derived.Test.YtemcdfkmpikegaaFnExactGrdFindPr34
import Derived.Test.YtemcdfkmpikegaaFnExactGrdFindPr35
import Derived.Test.YtemcdfkmpikegaaFnExactGrdFindPr37
import Derived.Test.YtemcdfkmpikegaaFnExactGrdFindPr38
import Derived.Test.YtemcdfkmpikegaaFnExactGrdFindPr52
import Derived.Test.YtemcdfkmpikegaaFnExactGrdFindQLoop2
set_option linter.unusedVariables false
set_option linter.unusedSimpArgs false
namespace Go.Proofs.Ytemcdfkmpikegaa.Pure
open Go.RowKit Go.Proofs.Ytemcdfkmpikegaa.Pr Go.Proofs.YtemcdfkmpikegaaW.PrintWords Go.Proofs.YtemcdfkmpikegaaW.PrintLast Go.Proofs.YtemcdfkmpikegaaW.PrintMore
def cvG (x : S86) : S65 := ⟨x.f0, x.f1, x.f2, x.f3, x.f4⟩
theorem rdG (l : List S65) (i : Nat) (h : i < l.length) : rd_T65 l (i : Int) = l[i] := by unfold rd_T65; simp [h]
theorem rdGl (l : List S86) (i : Nat) (h : i < l.length) : rd_T86 l (i : Int) = l[i] := by unfold rd_T86; simp [h]
theorem toGrdCells (l : List S86) (h : l.length ≤ 1048576) : Ev (fun k => laws_toGrdCellS.f k l) (l.map cvG) := by
  unfold laws_toGrdCellS.f
  refine evIf (by omega) (evIf (by omega) ?_)
  rw [Int.toNat_natCast]
  refine cpLoop l cvG z65 (by omega) (fun k xs i => laws_toGrdCellS.l0 k l xs i) (fun _ i => some (cvG (rd_T86 l i))) (fun k xs i => by show laws_toGrdCellS.l0 (k + 1) l xs i = _; rw [laws_toGrdCellS.l0]; rfl) (fun i hi => evNow (by rw [rdGl l i hi]))
theorem toGrid (a b : Int) (l : List S86) (h : l.length ≤ 1048576) : Ev (fun k => laws_toGrdGrid.f k a b l) (a, b, l.map cvG) :=
  (toGrdCells l h).bind (evNow rfl)
theorem eqGrdCells (l : List S65) (h : l.length ≤ 9223372036854775807) : Ev (fun k => laws_eqGrdCellS.f k l l) true := by
  unfold laws_eqGrdCellS.f
  refine evIf rfl ?_
  refine allLoop0 l.length h (fun k i => laws_eqGrdCellS.l0 k l l i) (fun _ i => laws_eqGrdCell.f (rd_T65 l i).f0 (rd_T65 l i).f1 (rd_T65 l i).f2 (rd_T65 l i).f3 (rd_T65 l i).f4 (rd_T65 l i).f0 (rd_T65 l i).f1 (rd_T65 l i).f2 (rd_T65 l i).f3 (rd_T65 l i).f4) ?_ ?_ ?_
  · intro k i hi
    show laws_eqGrdCellS.l0 (k + 1) l l i = _
    rw [laws_eqGrdCellS.l0, if_pos (by omega), if_pos (by omega), if_pos (by omega)]
  · intro k
    show laws_eqGrdCellS.l0 (k + 1) l l l.length = _
    rw [laws_eqGrdCellS.l0, if_neg (by omega)]
  · intro i hi
    exact evNow (by unfold laws_eqGrdCell.f; simp)
theorem eqGrid (a b : Int) (l : List S65) (h : l.length ≤ 9223372036854775807) : Ev (fun k => laws_eqGrdGrid.f k a b l a b l) true := by
  unfold laws_eqGrdGrid.f
  exact evIf rfl (evIf rfl ((eqGrdCells l h).bind (evIf rfl (evNow rfl))))
theorem szGrid (a b : Int) (l : List S86) (hl : l.length ≤ 9223372036854775807) : ∃ r, laws_szGrdGrid.f a b l 1048576 = some r ∧ (¬ r < 0 → l.length ≤ 1048576) := by
  have e : wrap64 (1048576 - (l.length : Int)) = 1048576 - (l.length : Int) := w64 (by omega) (by omega)
  unfold laws_szGrdGrid.f laws_szGrdCellS.f
  rw [e]
  by_cases h : 1048576 - (l.length : Int) < 0
  · exact ⟨-1, by simp [h], by simp⟩
  · exact ⟨1048576 - (l.length : Int), by simp [h], by omega⟩
theorem specFind (a b : Int) (l : List S65) (row inn : Int) (h : l.length ≤ 9223372036854775807) : Ev (fun k => spec_GrdFind.f k a b l row inn) (idxOf (findB row inn) l) := by
  unfold spec_GrdFind.f
  have loop : ∀ (d i : Nat), i + d = l.length → (∀ j y, j < i → l[j]? = some y → findB row inn y = false) → Ev (fun k => spec_GrdFind.l0 k row inn i a b l) (idxOf (findB row inn) l) := by
    intro d
    induction d with
    | zero =>
      intro i hi hn
      obtain rfl : i = l.length := by omega
      exact Ev.step (fun k => by rw [spec_GrdFind.l0]) (evElse (by omega) (evNow (by rw [idxOf_miss _ _ hn])))
    | succ d ih =>
      intro i hi hn
      have hlt : i < l.length := by omega
      have hx : l[i]? = some (rd_T65 l (i : Int)) := by rw [rdG l i hlt]; simp [hlt]
      have next : findB row inn (rd_T65 l (i : Int)) = false → ∀ j y, j < i + 1 → l[j]? = some y → findB row inn y = false := by
        intro hf j y hj hy
        by_cases e : j = i
        · subst e; rw [hx] at hy; cases hy; exact hf
        · exact hn j y (by omega) hy
      refine Ev.step (fun k => by rw [spec_GrdFind.l0]) (evIf (by omega) (evIf (by omega) ?_))
      by_cases c1 : (rd_T65 l (i : Int)).f0 = row
      · refine evIf c1 ?_
        by_cases c2 : (rd_T65 l (i : Int)).f4 = inn
        · exact evIf c2 (evNow (by rw [idxOf_hit (findB row inn) l i _ hx (by simp [findB, c1, c2]) hn]))
        · refine evElse c2 ?_
          rw [wnext (n := l.length) (by omega) h]
          exact ih (i + 1) (by omega) (next (by simp [findB, c2]))
      · refine evElse c1 ?_
        rw [wnext (n := l.length) (by omega) h]
        exact ih (i + 1) (by omega) (next (by simp [findB, c1]))
  exact loop l.length 0 (by omega) (fun j y hj => absurd hj (Nat.not_lt_zero _))
end Go.Proofs.Ytemcdfkmpikegaa.Pure
