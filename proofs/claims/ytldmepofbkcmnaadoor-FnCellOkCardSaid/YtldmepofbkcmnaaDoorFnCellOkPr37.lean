/- A part of what the claim of 'FnCellOk' leans on. -/
import Derived.Test.YtldmepofbkcmnaaDoorFnCellOkPr0
import Derived.Test.YtldmepofbkcmnaaDoorFnCellOkShelf
import Derived.Test.YtldmepofbkcmnaaDoorFnCellOkQCut
namespace Go.Proofs.YtldmepofbkcmnaaDoor.Pr
open Go.RowKit Go.Proofs.YtldmepofbkcmnaaDoorW.PrintWords Go.Proofs.YtldmepofbkcmnaaDoorW.PrintLast Go.Proofs.YtldmepofbkcmnaaDoorW.PrintMore
attribute [local go_sem] max2_int min2_int max_two min_two max_three min_three max_four min_four
set_option linter.unusedVariables false
set_option linter.unusedSimpArgs false
def strings_Split.f (a0 a1 : ByteArray) : Option (List ByteArray) := if a1.data.toList = [32] ∧ a0.size < 4294967281 then some (Pure.cutB a0) else none
theorem byte_one (a : ByteArray) (h : a.data.toList = [32]) : a = Pure.blank1 := by
  have : a.data = #[32] := by rw [← Array.toArray_toList (xs := a.data), h]
  cases a with | mk d => simp only at this; subst this; rfl
theorem cutB_length (s : ByteArray) : (Pure.cutB s).length = s.data.toList.count 32 + 1 := by rw [Pure.cutB, List.length_map, Pure.cutL_length]
set_option maxHeartbeats 2000000 in
theorem split_calls (s : ByteArray) (w : World) (hs : s.size < 4294967281) :
    Calls Tryd.prog 37 #[.string s, .string Pure.blank1] w fun e w' =>
      e = .returned (.slice (some ⟨w.heap.size, 0, none⟩) (Pure.cutB s).length (Pure.cutB s).length) ∧ w' = w.alloc (.cells ((Pure.cutB s).map Value.string).toArray 9) := by
  have hN : ((Pure.cutB s).length : Int) = min (if (-1 : Int) < 0 then (Go.Lib.countB s Pure.blank1 : Int) + 1 else -1) ((s.size : Int) + 1) := by
    have h1 := Go.Lib.countB_le Pure.blank1 (by decide) s.size s (Nat.le_refl _)
    rw [cutB_length, Pure.countB_blank] at *
    rw [if_pos (by decide)]; omega
  have hl : (Pure.cutB s).length - 1 = Go.Lib.countB s Pure.blank1 := by rw [cutB_length, Pure.countB_blank]; omega
  have c := Any.strings_genSplit_core { Tryd.lays146 with } (by kernel_rfl) s Pure.blank1 0 (-1) (Pure.cutB s).length w hs (by decide) (Nat.zero_le _)
    (fun x c hx => by have h := Any.strings_Index_one { Tryd.lays146 with } x 32 (w.alloc (.cells c (Tryd.lays146_ren.t 9))); rw [← Go.Lib.index_one] at h; exact h)
    (by have h := Any.strings_Count_one { Tryd.lays146 with } s 32 w; rw [show Go.Lib.countByte s.data.toList 32 = Go.Lib.countB s Pure.blank1 from (Go.Lib.count_one 32 _).symm] at h; exact h) (by decide) (by decide) hN
  rw [hl, Pure.splitB_cut, Go.Lib.cellsOf_full] at c
  have c2 : Calls Tryd.prog 49 #[.string s, .string Pure.blank1, .int .i64 0, .int .i64 (-1)] w fun e w' => e = .returned (.slice (some ⟨w.heap.size, 0, none⟩) (Pure.cutB s).length (Pure.cutB s).length) ∧ w' = w.alloc (.cells ((Pure.cutB s).map Value.string).toArray 9) := c
  have HC := Aside0.mk c2
  clear c c2 hN hl
  go_enter Tryd.func37, Tryd.ntmps37
  go_wp2_with (go_at_call 49; refine HC.out.mono ?_; rintro e w' ⟨rfl, hw⟩; rw [hw])
  go_ret
  exact ⟨rfl, rfl⟩
theorem strings_Split.calls (a0 a1 : ByteArray) (r : List ByteArray) (w : World) (h : strings_Split.f a0 a1 = some r) :
    Calls Tryd.prog 37 #[.string a0, .string a1] w fun e w' => ∃ v0_ : Value, e = .returned (v0_) ∧ Kd.R Kd.string 9 w' w.heap.size (fun _ => True) v0_ r ∧ Below w.heap.size w w' := by
  unfold strings_Split.f at h
  by_cases c : a1.data.toList = [32] ∧ a0.size < 4294967281
  case neg => rw [if_neg c] at h; cases h
  rw [if_pos c] at h
  obtain rfl := Option.some.inj h
  obtain rfl := byte_one a1 c.1
  refine (split_calls a0 w c.2).mono ?_
  rintro e w' ⟨rfl, rfl⟩
  have hm : (Pure.cutB a0).length ≤ maxLen := by
    have h1 := Go.Lib.countB_le Pure.blank1 (by decide) a0.size a0 (Nat.le_refl _)
    rw [Pure.countB_blank] at h1
    rw [cutB_length]; have := c.2; unfold maxLen; omega
  refine ⟨_, rfl, Kd.R_of_own ⟨by simp [encs], .inr ⟨w.heap.size, (Pure.cutB a0).length, ((Pure.cutB a0).map Value.string).toArray, rfl, Nat.le_refl _, blk_new w _, Nat.le_refl _, hm, by simp, ?_⟩⟩ (fun _ _ => trivial), below_alloc (Below.refl _ _) _⟩
  simp only [encs, Nat.mul_one]
  rw [List.take_of_length_le (by simp)]
end Go.Proofs.YtldmepofbkcmnaaDoor.Pr
