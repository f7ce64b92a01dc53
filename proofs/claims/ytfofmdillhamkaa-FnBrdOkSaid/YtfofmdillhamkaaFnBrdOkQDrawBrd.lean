/- A part of what the claim of 'FnBrdOk' leans on. -/
import Derived.Test.YtfofmdillhamkaaFnBrdOkPr0
import Derived.Test.YtfofmdillhamkaaFnBrdOkPr3
import Derived.Test.YtfofmdillhamkaaFnBrdOkQDraw
set_option linter.unusedVariables false
set_option linter.unusedSimpArgs false
namespace Go.Proofs.Ytfofmdillhamkaa.Pure
open Go.RowKit Go.Proofs.Ytfofmdillhamkaa.Pr Go.Proofs.YtfofmdillhamkaaW.PrintWords Go.Proofs.YtfofmdillhamkaaW.PrintLast Go.Proofs.YtfofmdillhamkaaW.PrintMore
theorem brd_run {b : List Int} (hb : Bytes b) {p n : Int} (hp : 0 ≤ p) (hp2 : p + 8 < LIMP) (hn : 1 ≤ n) : Run (fun k => spec_l20Brd.f k b p n) (fun r => p ≤ r.2.2 ∧ r.2.2 ≤ p + 8 ∧ -1 ≤ r.1 ∧ r.1 ≤ 5 ∧ -1 ≤ r.2.1 ∧ r.2.1 ≤ 4) := by
  have tail : ∀ (q s w : Int), 0 ≤ q → q + 3 < LIMP → -1 ≤ s → s ≤ 5 → -1 ≤ w → w ≤ 4 → Run (fun k => spec_l20Brd.j1 k n b q s w) (fun r => q ≤ r.2.2 ∧ r.2.2 ≤ q + 3 ∧ -1 ≤ r.1 ∧ r.1 ≤ 5 ∧ -1 ≤ r.2.1 ∧ r.2.1 ≤ 4) := by
    intro q s w hq hq2 hs hs2 hw hw2
    refine Run.step (fun k => by rw [spec_l20Brd.j1]) ?_
    refine Run.bind (pick_run hb (by omega) (by omega)) fun r1 h1 => ?_
    refine Run.ite (fun _ => ?_) (fun _ => Run.ret (by dsimp only; omega))
    refine Run.bind (pick_run hb (by omega) (by omega)) fun r2 h2 => ?_
    refine Run.ite (fun _ => ?_) (fun _ => ?_)
    · refine Run.some (Run.bind (pick_run hb (by omega) (by omega)) fun r3 h3 => Run.pos (by omega) (Run.pos (by simp; omega) (Run.ret ?_)))
      have hr : rd [(-1), 5, 1] r3.1 = -1 ∨ rd [(-1), 5, 1] r3.1 = 5 ∨ rd [(-1), 5, 1] r3.1 = 1 := by
        have : r3.1 = 0 ∨ r3.1 = 1 ∨ r3.1 = 2 := by omega
        rcases this with e | e | e <;> rw [e] <;> decide
      dsimp only; omega
    · refine Run.some (Run.bind (pick_run hb (by omega) (by omega)) fun r3 h3 => Run.pos (by omega) (Run.pos (by simp; omega) (Run.ret ?_)))
      have hr : -1 ≤ rd [(-1), 4, 0, 1] r3.1 ∧ rd [(-1), 4, 0, 1] r3.1 ≤ 4 := by
        have : r3.1 = 0 ∨ r3.1 = 1 ∨ r3.1 = 2 ∨ r3.1 = 3 := by omega
        rcases this with e | e | e | e <;> rw [e] <;> decide
      dsimp only; omega
  unfold spec_l20Brd.f
  refine Run.bind (pick_run hb (by omega) (by omega)) fun r0 h0 => ?_
  have mid : ∀ x : Bool, Run (fun k => spec_l20Brd.j0 k n r0.1 x b r0.2 0 0) (fun r => p ≤ r.2.2 ∧ r.2.2 ≤ p + 8 ∧ -1 ≤ r.1 ∧ r.1 ≤ 5 ∧ -1 ≤ r.2.1 ∧ r.2.1 ≤ 4) := by
    intro x
    refine Run.step (fun k => by rw [spec_l20Brd.j0]) ?_
    refine Run.ite (fun _ => ?_) (fun _ => Run.ite (fun _ => ?_) (fun _ => ?_))
    · refine Run.bind (pick_run hb (by omega) (by omega)) fun r1 h1 => Run.bind (pick_run hb (by omega) (by omega)) fun r2 h2 => ?_
      rw [w64 (x := 1 + r1.1) (by omega) (by omega), w64 (x := 1 + r2.1) (by omega) (by omega)]
      exact (tail _ _ _ (by omega) (by omega) (by omega) (by omega) (by omega) (by omega)).imp fun r h => by omega
    · refine Run.bind (pick_run hb (by omega) (by omega)) fun r1 h1 => Run.ite (fun _ => ?_) (fun _ => ?_)
      · exact (tail _ _ _ (by omega) (by omega) (by omega) (by omega) (by omega) (by omega)).imp fun r h => by omega
      · exact (tail _ _ _ (by omega) (by omega) (by omega) (by omega) (by omega) (by omega)).imp fun r h => by omega
    · exact (tail _ _ _ (by omega) (by omega) (by omega) (by omega) (by omega) (by omega)).imp fun r h => by omega
  exact Run.ite (fun _ => mid _) (fun _ => mid _)
end Go.Proofs.Ytfofmdillhamkaa.Pure
