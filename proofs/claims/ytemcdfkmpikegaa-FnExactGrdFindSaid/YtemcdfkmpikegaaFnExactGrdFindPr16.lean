/- A part of what the claim of 'FnExactGrdFind' leans on. -/
import Derived.Test.YtemcdfkmpikegaaFnExactGrdFindPr0
import Derived.Test.YtemcdfkmpikegaaFnExactGrdFindPr36
import Derived.Test.YtemcdfkmpikegaaFnExactGrdFindPr37
namespace Go.Proofs.Ytemcdfkmpikegaa.Pr
open Go.RowKit Go.Proofs.YtemcdfkmpikegaaW.PrintWords Go.Proofs.YtemcdfkmpikegaaW.PrintLast Go.Proofs.YtemcdfkmpikegaaW.PrintMore
attribute [local go_sem] max2_int min2_int max_two min_two max_three min_three max_four min_four
set_option linter.unusedVariables false
set_option linter.unusedSimpArgs false
def impl_GrdFind.f (a0_0 a0_1 : Int) (l0_2 : List S65) (a1 a2 : Int) : Option Int := some (idxOf (findB a1 a2) l0_2)
set_option maxHeartbeats 2000000 in
theorem impl_GrdFind.calls (a0_0 a0_1 : Int) (A0_2 : Option Addr) (c0_2 : Nat) (l0_2 : List S65) (a1 a2 : Int) (r : Int) (w : World) (hr0_2 : Kd.C k65 w A0_2 l0_2.length l0_2) (hc0_2 : l0_2.length ≤ c0_2) (h : impl_GrdFind.f a0_0 a0_1 l0_2 a1 a2 = some r) :
    Calls Try.prog 16 #[.agg #[.int .i64 a0_0, .int .i64 a0_1, .slice A0_2 l0_2.length c0_2], .int .i64 a1, .int .i64 a2] w fun e w' => e = .returned (.int .i64 r) ∧ Below w.heap.size w w' := by
  obtain rfl := Option.some.inj h
  clear h
  have bel : ∀ b0 b1 b2, Below w.heap.size w (((w.alloc b0).alloc b1).alloc b2) := fun b0 b1 b2 => below_alloc (below_alloc (below_alloc (Below.refl w.heap.size w) b0) b1) b2
  have hcall : ∀ b0, Calls Try.prog 36 #[.slice A0_2 l0_2.length c0_2, .func (.func 37) #[] #[.pointer (some ⟨w.heap.size + 1, 0, none⟩), .pointer (some ⟨w.heap.size + 2, 0, none⟩)]] (((w.alloc b0).alloc (.cells #[.int .i64 a1] 3 (0, 0))).alloc (.cells #[.int .i64 a2] 3 (0, 0)))
      fun e w' => e = .returned (.int .i64 (idxOf (findB a1 a2) l0_2)) ∧ Below (((w.alloc b0).alloc (.cells #[.int .i64 a1] 3 (0, 0))).alloc (.cells #[.int .i64 a2] 3 (0, 0))).heap.size (((w.alloc b0).alloc (.cells #[.int .i64 a1] 3 (0, 0))).alloc (.cells #[.int .i64 a2] 3 (0, 0))) w' := fun b0 => by
    refine idxGrd_calls (findB a1 a2) 37 _ _ (enters_ Try.func37 (by kernel_rfl) rfl) A0_2 c0_2 l0_2 _ (Kd.C_below hr0_2 (bel _ _ _)) hc0_2 (fun W x _ hb => ?_)
    have h3 : (((w.alloc b0).alloc (.cells #[.int .i64 a1] 3 (0, 0))).alloc (.cells #[.int .i64 a2] 3 (0, 0))).heap[w.heap.size + 1]? = some (.cells #[.int .i64 a1] 3 (0, 0)) := by
      show (((w.heap.push b0).push (.cells #[.int .i64 a1] 3 (0, 0))).push (.cells #[.int .i64 a2] 3 (0, 0)))[w.heap.size + 1]? = _
      simp [Array.getElem?_push, Array.getElem_push]
    have h4 : (((w.alloc b0).alloc (.cells #[.int .i64 a1] 3 (0, 0))).alloc (.cells #[.int .i64 a2] 3 (0, 0))).heap[w.heap.size + 2]? = some (.cells #[.int .i64 a2] 3 (0, 0)) := by
      show (((w.heap.push b0).push (.cells #[.int .i64 a1] 3 (0, 0))).push (.cells #[.int .i64 a2] 3 (0, 0)))[w.heap.size + 2]? = _
      simp [Array.getElem?_push, Array.getElem_push]
    exact findB_calls a1 a2 (w.heap.size + 1) (w.heap.size + 2) x.f0 x.f1 x.f2 x.f3 x.f4 W (cell_of_one (blk_below h3 hb)) (cell_of_one (blk_below h4 hb))
  have HC := Aside0.mk hcall
  have HB := Aside0.mk bel
  clear hcall bel hr0_2
  go_enter Try.func16, Try.ntmps16
  go_wp2_with (go_at_call 36; refine (HC.out _).mono ?_; rintro e w' ⟨rfl, hb'⟩)
  go_ret
  exact ⟨rfl, below_then (HB.out _ _ _) (HB.out _ _ _).size hb'⟩
end Go.Proofs.Ytemcdfkmpikegaa.Pr
