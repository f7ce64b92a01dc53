/- A part of what the claim of 'FnExactBrdRead' leans on. -/
import Derived.Test.YtfofmdillhamkaaFnExactBrdReadPr0
import Derived.Test.YtfofmdillhamkaaFnExactBrdReadPr6
import Derived.Test.YtfofmdillhamkaaFnExactBrdReadPr7
import Derived.Test.YtfofmdillhamkaaFnExactBrdReadPr8
import Derived.Test.YtfofmdillhamkaaFnExactBrdReadQBrd
set_option linter.unusedVariables false
set_option linter.unusedSimpArgs false
namespace Go.Proofs.Ytfofmdillhamkaa.Pure
open Go.RowKit Go.Proofs.Ytfofmdillhamkaa.Pr Go.Proofs.YtfofmdillhamkaaW.PrintWords Go.Proofs.YtfofmdillhamkaaW.PrintLast Go.Proofs.YtfofmdillhamkaaW.PrintMore
theorem bt_extract0 (s : ByteArray) (h : s.size = 2) : bt (s.extract 0 1) 0 = bt s 0 := by
  unfold bt; simp; rw [dif_pos (by omega), dif_pos (by omega)]; simp [ByteArray.getElem_extract]
theorem bt_extract1 (s : ByteArray) (h : s.size = 2) : bt (s.extract 1 s.size) 0 = bt s 1 := by
  unfold bt; simp; rw [dif_pos (by omega), dif_pos (by omega)]; simp [ByteArray.getElem_extract]
def dig (c : Int) : Int := if 48 ≤ c ∧ c ≤ 57 then c - 48 else -1
theorem l1Number_one (s : ByteArray) (h : s.size = 1) : Ev (fun k => spec_l1Number.f k s) (dig (bt s 0)) := by
  unfold spec_l1Number.f dig
  have hs : ((s.size : Int)) = 1 := by omega
  have hb := bt_range s 0
  rw [hs]
  refine evBindC (l1In_eq _ _ _) ?_
  refine evIf (by simp) (evElse (by omega) (Ev.step (fun k => by rw [spec_l1Number.j0]) (evElse (by simp) ?_)))
  refine Ev.step (fun k => by rw [spec_l1Number.l0]) ?_
  rw [hs]
  refine evIf (by omega) (evIf (by omega) ?_)
  by_cases h1 : bt s 0 < 48
  · refine evIf h1 (evNow ?_); rw [if_neg (by omega)]
  · refine evElse h1 ?_
    by_cases h2 : bt s 0 > 57
    · refine evIf h2 (evNow ?_); rw [if_neg (by omega)]
    · refine evElse h2 (Ev.step (fun k => by rw [spec_l1Number.l0]) ?_)
      rw [hs, w64 (x := 0 + 1) (by omega) (by omega)]
      refine evElse (by omega) (evNow ?_)
      rw [if_pos (by omega), w64 (x := 0 * 10) (by omega) (by omega), w64 (by omega) (by omega)]
      congr 1; omega
def brdRead (s : ByteArray) : Int × Int × Bool := if s.size = 2 ∧ brdOk (bt s 0 - 48) (bt s 1 - 48) = true then (bt s 0 - 48, bt s 1 - 48, true) else (0, 0, false)
theorem impl_brdRead (s : ByteArray) : impl_BrdRead.f s = some (brdRead s) := by
  unfold impl_BrdRead.f brdRead
  by_cases h2 : s.size = 2
  · have r0 := bt_range s 0
    have r1 := bt_range s 1
    rw [if_pos (by omega), if_pos (by omega), if_pos (by omega), w64 (x := bt s 0) (by omega) (by omega), w64 (x := bt s 1) (by omega) (by omega), w64 (x := bt s 0 - 48) (by omega) (by omega), w64 (x := bt s 1 - 48) (by omega) (by omega)]
    simp only [impl_brdOk, Option.bind_some, h2, true_and]
    split <;> rfl
  · rw [if_neg (by omega), if_neg (by simp [h2])]
theorem spec_brdRead (s : ByteArray) : Ev (fun k => spec_BrdRead.f k s) (brdRead s) := by
  unfold spec_BrdRead.f brdRead
  by_cases h2 : s.size = 2
  · have r0 := bt_range s 0
    have r1 := bt_range s 1
    have n0 := l1Number_one (s.extract 0 1) (by simp; omega)
    have n1 := l1Number_one (s.extract 1 s.size) (by simp; omega)
    rw [bt_extract0 s h2] at n0
    rw [bt_extract1 s h2] at n1
    refine evIf (by omega) (evIf (by omega) (evIf (by omega) (n0.bind (n1.bind ((spec_brdOk _ _).bind ?_)))))
    by_cases hb : brdOk (bt s 0 - 48) (bt s 1 - 48) = true
    · have hb' := (brdOk_iff _ _).mp hb
      have e0 : dig (bt s 0) = bt s 0 - 48 := by unfold dig; rw [if_pos (by omega)]
      have e1 : dig (bt s 1) = bt s 1 - 48 := by unfold dig; rw [if_pos (by omega)]
      rw [if_pos (show s.size = 2 ∧ brdOk (bt s 0 - 48) (bt s 1 - 48) = true from ⟨h2, hb⟩), e0, e1]
      exact evIf hb (Ev.now _)
    · have hq : ¬ brdOk (dig (bt s 0)) (dig (bt s 1)) = true := by
        rw [brdOk_iff] at hb ⊢
        unfold dig
        by_cases h0 : 48 ≤ bt s 0 ∧ bt s 0 ≤ 57
        · rw [if_pos h0]
          by_cases h1 : 48 ≤ bt s 1 ∧ bt s 1 ≤ 57
          · rw [if_pos h1]; exact hb
          · rw [if_neg h1]; omega
        · rw [if_neg h0]; omega
      rw [if_neg (show ¬ (s.size = 2 ∧ brdOk (bt s 0 - 48) (bt s 1 - 48) = true) from fun h => hb h.2)]
      exact evElse hq (Ev.now _)
  · refine evElse (by omega) (evNow ?_); rw [if_neg (by simp [h2])]
end Go.Proofs.Ytfofmdillhamkaa.Pure
