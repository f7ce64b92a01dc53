/- A part of what the claim of 'FnExactTxtOk' leans on. -/
import Derived.Test.YtcjpojppbmlfaaaDoorFnExactTxtOkPr0
import Derived.Test.YtcjpojppbmlfaaaDoorFnExactTxtOkPr51
import Derived.Test.YtcjpojppbmlfaaaDoorFnExactTxtOkPr50
import Derived.Test.YtcjpojppbmlfaaaDoorFnExactTxtOkPr52
namespace Go.Proofs.YtcjpojppbmlfaaaDoor.Pr
open Go.RowKit Go.Proofs.YtcjpojppbmlfaaaDoorW.PrintWords Go.Proofs.YtcjpojppbmlfaaaDoorW.PrintLast Go.Proofs.YtcjpojppbmlfaaaDoorW.PrintMore
attribute [local go_sem] max2_int min2_int max_two min_two max_three min_three max_four min_four
set_option linter.unusedVariables false
set_option linter.unusedSimpArgs false
def inB (lo hi n : Int) : Bool := decide (lo ≤ n) && decide (n ≤ hi)
theorem inB_eq (lo hi n : Int) : impl_in.f n lo hi = some (inB lo hi n) := by
  unfold impl_in.f inB
  by_cases h : lo ≤ n
  · rw [if_pos h]; simp [h]
  · rw [if_neg h]; simp [h]
def shrOk (t : Int) (l : List Int) : Bool := inB 0 100000 t && (decide ((l.length : Int) ≤ 100) && !(l.any fun n => !(inB 0 100000 n)))
def impl_ShrOk.f (a0 : Int) (l1 : List Int) : Option Bool := some (shrOk a0 l1)
set_option maxHeartbeats 2000000 in
theorem impl_ShrOk.calls (a0 : Int) (A1 : Option Addr) (c1 : Nat) (l1 : List Int) (r : Bool) (w : World) (hr1 : Kd.C (Kd.int .i64) w A1 l1.length l1) (hc1 : l1.length ≤ c1) (h : impl_ShrOk.f a0 l1 = some r) :
    Calls Tryd.prog 18 #[.int .i64 a0, .slice A1 l1.length c1] w fun e w' => e = .returned (.bool r) ∧ Below w.heap.size w w' := by
  obtain rfl : shrOk a0 l1 = r := Option.some.inj h
  clear h
  have hc := fun W (hb : Below w.heap.size w W) => contInt_calls (fun n => !(inB 0 100000 n)) 50 #[] (enters_ Tryd.func50 (by kernel_rfl) rfl) A1 c1 l1 W (Kd.C_below hr1 hb) hc1 (fun W' x _ _ => by
    refine (impl_ShrOk_1.calls x (!(inB 0 100000 x)) W' (by unfold impl_ShrOk_1.f; rw [inB_eq]; rfl)).mono ?_
    rintro e w' ⟨he, hd⟩
    exact ⟨he, by first | exact hd.below | exact hd⟩)
  have HC := Aside0.mk hc
  have hi := inB_eq 0 100000 a0
  have HI := Aside0.mk hi
  clear hc hr1 hc1 hi
  unfold shrOk
  cases h1 : inB 0 100000 a0 with
  | false =>
    rw [h1] at HI
    clear h1
    go_enter Tryd.func18, Tryd.ntmps18
    go_wp2_with (go_at_call 51; refine (impl_in.calls a0 0 100000 false _ HI.out).mono ?_; rintro e w' ⟨rfl, ⟨nd, rfl⟩⟩)
    go_ret
    exact ⟨rfl, Drawn0.below (by repeat (first | exact Drawn0.refl _ | apply Drawn0.step))⟩
  | true =>
    rw [h1] at HI
    clear h1
    by_cases hl : (l1.length : Int) ≤ 100
    · have hl0 : decide ((l1.length : Int) ≤ 100) = true := decide_eq_true hl
      have hl1 : decide (l1.length ≤ 100) = true := decide_eq_true (by omega)
      rw [hl0]
      go_enter Tryd.func18, Tryd.ntmps18
      go_wp2_with (first | (go_at_call 51; refine (impl_in.calls a0 0 100000 true _ HI.out).mono ?_; rintro e w' ⟨rfl, ⟨nd, rfl⟩⟩) | (go_at_call 52; refine (HC.out _ (Drawn0.below ⟨⟨nd, rfl⟩⟩)).mono ?_; rintro e w' ⟨rfl, hb'⟩))
      go_ret
      exact ⟨by first | rfl | simp, below_then (Drawn0.below ⟨⟨nd, rfl⟩⟩) (Nat.le_refl _) hb'⟩
    · have hl0 : decide ((l1.length : Int) ≤ 100) = false := decide_eq_false hl
      have hl1 : decide (l1.length ≤ 100) = false := decide_eq_false (by omega)
      rw [hl0]
      go_enter Tryd.func18, Tryd.ntmps18
      go_wp2_with (go_at_call 51; refine (impl_in.calls a0 0 100000 true _ HI.out).mono ?_; rintro e w' ⟨rfl, ⟨nd, rfl⟩⟩)
      go_ret
      exact ⟨by first | rfl | simp, Drawn0.below (by repeat (first | exact Drawn0.refl _ | apply Drawn0.step))⟩
end Go.Proofs.YtcjpojppbmlfaaaDoor.Pr
