/- A part of what the claim of 'FnExactGrdBlocks' leans on. -/
import Derived.Test.YtemcdfkmpikegaaFnExactGrdBlocksPr0
import Derived.Test.YtemcdfkmpikegaaFnExactGrdBlocksPr36
import Derived.Test.YtemcdfkmpikegaaFnExactGrdBlocksPr43
namespace Go.Proofs.Ytemcdfkmpikegaa.Pr
open Go.RowKit Go.Proofs.YtemcdfkmpikegaaW.PrintWords Go.Proofs.YtemcdfkmpikegaaW.PrintLast Go.Proofs.YtemcdfkmpikegaaW.PrintMore
attribute [local go_sem] max2_int min2_int max_two min_two max_three min_three max_four min_four
set_option linter.unusedVariables false
set_option linter.unusedSimpArgs false
set_option maxHeartbeats 2000000 in
theorem contGrd_calls (p : S65 → Bool) (g : Nat) (fst lb : Array Value) (eg : ∀ args w, (callFunc g args).run Try.prog w = .ok (.enter g args) w) (A : Option Addr) (c : Nat) (l : List S65) (w : World) (hr : Kd.C k65 w A l.length l) (hc : l.length ≤ c)
    (hp : ∀ (W : World) (x : S65), x ∈ l → Below w.heap.size w W → Calls Try.prog g (fst.push (grdV x) ++ lb) W fun e w' => e = .returned (.bool (p x)) ∧ Below W.heap.size W w') :
    Calls Try.prog 42 #[.slice A l.length c, .func (.func g) fst lb] w fun e w' => e = .returned (.bool (l.any p)) ∧ Below w.heap.size w w' := by
  have hcall := fun W (hb : W = w) => idxGrd_calls p g fst lb eg A c l W (hb ▸ hr) hc (hb ▸ hp)
  have HC := Aside0.mk hcall
  clear hcall hr hp hc
  have hi := idxOf_range p l
  have hd : decide (0 ≤ idxOf p l) = l.any p := by
    cases h : l.any p
    · apply decide_eq_false; intro q; have := hi.2.2.mp q; rw [h] at this; cases this
    · exact decide_eq_true (hi.2.2.mpr h)
  have HD := Aside0.mk hd
  clear hd hi
  go_enter Try.func42, Try.ntmps42
  go_wp2_with (go_at_call 36; refine (HC.out _ rfl).mono ?_; rintro e w' ⟨rfl, hb'⟩)
  go_ret
  exact ⟨by rw [← HD.out]; rfl, hb'⟩
def meetsB (c d : S65) : Bool := decide (c.f0 < wrap64 (d.f0 + d.f2)) && (decide (d.f0 < wrap64 (c.f0 + c.f2)) && (decide (c.f1 < wrap64 (d.f1 + d.f3)) && decide (d.f1 < wrap64 (c.f1 + c.f3))))
theorem meetsB_eq (c d : S65) : impl_GrdCell_meets.f c.f0 c.f1 c.f2 c.f3 c.f4 d.f0 d.f1 d.f2 d.f3 d.f4 = some (meetsB c d) := by
  unfold impl_GrdCell_meets.f meetsB
  by_cases h1 : c.f0 < wrap64 (d.f0 + d.f2) <;> by_cases h2 : d.f0 < wrap64 (c.f0 + c.f2) <;> by_cases h3 : c.f1 < wrap64 (d.f1 + d.f3) <;> simp [h1, h2, h3]
def impl_GrdCell_42.f (l0 : List S65) (a1_0 a1_1 a1_2 a1_3 a1_4 : Int) : Option Bool := some (l0.any (meetsB ⟨a1_0, a1_1, a1_2, a1_3, a1_4⟩))
theorem impl_GrdCell_42.calls (A0 : Option Addr) (c0 : Nat) (l0 : List S65) (a1_0 a1_1 a1_2 a1_3 a1_4 : Int) (r : Bool) (w : World) (hr0 : Kd.C k65 w A0 l0.length l0) (hc0 : l0.length ≤ c0) (h : impl_GrdCell_42.f l0 a1_0 a1_1 a1_2 a1_3 a1_4 = some r) :
    Calls Try.prog 42 #[.slice A0 l0.length c0, .func (.func 43) #[.agg #[.int .i64 a1_0, .int .i64 a1_1, .int .i64 a1_2, .int .i64 a1_3, .int .i64 a1_4]] #[]] w fun e w' => e = .returned (.bool r) ∧ Below w.heap.size w w' := by
  obtain rfl := Option.some.inj h
  refine contGrd_calls (meetsB ⟨a1_0, a1_1, a1_2, a1_3, a1_4⟩) 43 _ _ (enters_ Try.func43 (by kernel_rfl) rfl) A0 c0 l0 w hr0 hc0 (fun W x _ _ => ?_)
  exact impl_GrdCell_meets.calls a1_0 a1_1 a1_2 a1_3 a1_4 x.f0 x.f1 x.f2 x.f3 x.f4 _ W (meetsB_eq ⟨a1_0, a1_1, a1_2, a1_3, a1_4⟩ x)
end Go.Proofs.Ytemcdfkmpikegaa.Pr
