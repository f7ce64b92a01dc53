/- A part of what the claim of 'FnExactGrdBlocks' leans on. -/
import Derived.Test.YtemcdfkmpikegaaFnExactGrdBlocksPr0
namespace Go.Proofs.Ytemcdfkmpikegaa.Pr
open Go.RowKit Go.Proofs.YtemcdfkmpikegaaW.PrintWords Go.Proofs.YtemcdfkmpikegaaW.PrintLast Go.Proofs.YtemcdfkmpikegaaW.PrintMore
attribute [local go_sem] max2_int min2_int max_two min_two max_three min_three max_four min_four
set_option linter.unusedVariables false
set_option linter.unusedSimpArgs false
def overB (row : Int) (c : S65) : Bool := decide (c.f0 < row) && decide (wrap64 (c.f0 + c.f2) > row)
set_option maxHeartbeats 2000000 in
theorem overB_calls (row : Int) (g1 : Nat) (x0 x1 x2 x3 x4 : Int) (w : World) (h1 : w.cell? ⟨g1, 0, none⟩ = some (.int .i64 row)) :
    Calls Try.prog 44 #[.agg #[.int .i64 x0, .int .i64 x1, .int .i64 x2, .int .i64 x3, .int .i64 x4], .pointer (some ⟨g1, 0, none⟩)] w fun e w' => e = .returned (.bool (decide (x0 < row) && decide (wrap64 (x0 + x2) > row))) ∧ Below w.heap.size w w' := by
  have l1 : g1 < w.heap.size := World.block_lt_of_cell? w _ h1
  have n1 : ¬ w.heap.size = g1 := by omega
  by_cases c1 : x0 < row
  · go_enter Try.func44, Try.ntmps44
    go_wp2
    go_ret
    exact ⟨by simp [c1], by repeat (first | exact Below.refl _ _ | apply below_alloc | apply pw_below_drewN | apply below_drew1)⟩
  · go_enter Try.func44, Try.ntmps44
    go_wp2
    go_ret
    exact ⟨by simp; intro h; omega, by repeat (first | exact Below.refl _ _ | apply below_alloc | apply pw_below_drewN | apply below_drew1)⟩
end Go.Proofs.Ytemcdfkmpikegaa.Pr
