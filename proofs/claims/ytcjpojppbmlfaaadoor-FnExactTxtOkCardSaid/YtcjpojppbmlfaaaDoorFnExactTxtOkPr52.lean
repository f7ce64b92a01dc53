/- A part of what the claim of 'FnExactTxtOk' leans on. -/
import Derived.Test.YtcjpojppbmlfaaaDoorFnExactTxtOkPr0
import Derived.Test.YtcjpojppbmlfaaaDoorFnExactTxtOkPr65
namespace Go.Proofs.YtcjpojppbmlfaaaDoor.Pr
open Go.RowKit Go.Proofs.YtcjpojppbmlfaaaDoorW.PrintWords Go.Proofs.YtcjpojppbmlfaaaDoorW.PrintLast Go.Proofs.YtcjpojppbmlfaaaDoorW.PrintMore
attribute [local go_sem] max2_int min2_int max_two min_two max_three min_three max_four min_four
set_option linter.unusedVariables false
set_option linter.unusedSimpArgs false
set_option maxHeartbeats 2000000 in
theorem contInt_calls (p : Int → Bool) (g : Nat) (lb : Array Value) (eg : ∀ args w, (callFunc g args).run Tryd.prog w = .ok (.enter g args) w) (A : Option Addr) (c : Nat) (l : List Int) (w : World) (hr : Kd.C (Kd.int .i64) w A l.length l) (hc : l.length ≤ c)
    (hp : ∀ (W : World) (x : Int), x ∈ l → Below w.heap.size w W → Calls Tryd.prog g (#[.int .i64 x] ++ lb) W fun e w' => e = .returned (.bool (p x)) ∧ Below W.heap.size W w') :
    Calls Tryd.prog 52 #[.slice A l.length c, .func (.func g) #[] lb] w fun e w' => e = .returned (.bool (l.any p)) ∧ Below w.heap.size w w' := by
  have hcall := fun W (hb : W = w) => idxInt_calls p g lb eg A c l W (hb ▸ hr) hc (hb ▸ hp)
  have HC := Aside0.mk hcall
  clear hcall hr hp hc
  have hi := idxOf_range p l
  have hd : decide (0 ≤ idxOf p l) = l.any p := by
    cases h : l.any p
    · apply decide_eq_false; intro q; have := hi.2.2.mp q; rw [h] at this; cases this
    · exact decide_eq_true (hi.2.2.mpr h)
  have HD := Aside0.mk hd
  clear hd hi
  go_enter Tryd.func52, Tryd.ntmps52
  go_wp2_with (go_at_call 65; refine (HC.out _ rfl).mono ?_; rintro e w' ⟨rfl, hb'⟩)
  go_ret
  exact ⟨by rw [← HD.out]; rfl, hb'⟩
end Go.Proofs.YtcjpojppbmlfaaaDoor.Pr
