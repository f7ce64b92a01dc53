/- A part of what the claim of 'FnTxtWords' leans on. -/
import Derived.Test.YtldmepofbkcmnaaDoorFnTxtWordsPr0
import Derived.Test.YtldmepofbkcmnaaDoorFnTxtWordsPr25
import Derived.Test.YtldmepofbkcmnaaDoorFnTxtWordsPr16
import Derived.Test.YtldmepofbkcmnaaDoorFnTxtWordsPr26
import Derived.Test.YtldmepofbkcmnaaDoorFnTxtWordsPr24
import Derived.Test.YtldmepofbkcmnaaDoorFnTxtWordsPr17
import Derived.Test.YtldmepofbkcmnaaDoorFnTxtWordsPr20
import Derived.Test.YtldmepofbkcmnaaDoorFnTxtWordsPr22
import Derived.Test.YtldmepofbkcmnaaDoorFnTxtWordsPr23
import Derived.Test.YtldmepofbkcmnaaDoorFnTxtWordsPr27
namespace Go.Proofs.YtldmepofbkcmnaaDoor.Pr
open Go.RowKit Go.Proofs.YtldmepofbkcmnaaDoorW.PrintWords Go.Proofs.YtldmepofbkcmnaaDoorW.PrintLast Go.Proofs.YtldmepofbkcmnaaDoorW.PrintMore
attribute [local go_sem] max2_int min2_int max_two min_two max_three min_three max_four min_four
set_option linter.unusedVariables false
set_option linter.unusedSimpArgs false
mutual
def laws_FnTxtWords.j0 : Nat → ByteArray → List ByteArray → Bool → Option (Bool)
  | 0, _, _, _ => none
  | k + 1, x3, x4, x31 => if x31 = true then (some false) else ((spec_TxtOk.f k x3).bind fun t333 => (if t333 = true then (laws_FnTxtWords.l0 k x3 x4 0) else (if (x4.length : Int) = 0 then ((laws_pwOk.f k).bind fun t334 => (some t334)) else (some false))))
def laws_FnTxtWords.l0 : Nat → ByteArray → List ByteArray → Int → Option (Bool)
  | 0, _, _, _ => none
  | k + 1, x3, x4, x5 => if x5 < (x4.length : Int) then (if 0 ≤ x5 then (if (rdOf ByteArray.empty x4 x5).toList = ([] : List UInt8) then (some false) else ((impl_TxtWords.f k (rdOf ByteArray.empty x4 x5)).bind fun t337 => (if (t337.length : Int) = 1 then (laws_FnTxtWords.l0 k x3 x4 (wrap64 (x5 + 1))) else (some false)))) else (none)) else ((impl_TxtJoin.f x4).bind fun t340 => (if t340.toList = x3.toList then ((laws_pwOk.f k).bind fun t341 => (some t341)) else (some false)))
end
def laws_FnTxtWords.f (k : Nat) (l0 : List Int) : Option (Bool) := if (l0.length : Int) > 1048576 then (some true) else ((spec_DrawTxtWords.f k l0).bind fun t322 => ((impl_TxtWords.f k t322).bind fun t323 => ((spec_TxtWords.f k t322).bind fun t326 => ((laws_pwTexts.f k t323 t326).bind fun t329 => (if t329 = true then ((impl_TxtCount.f k t322).bind fun t330 => (if t330 = (t323.length : Int) then ((impl_TxtOk.f k t322).bind fun t331 => ((spec_TxtOk.f k t322).bind fun t332 => (laws_FnTxtWords.j0 k t322 t323 (t331 != t332)))) else (laws_FnTxtWords.j0 k t322 t323 true))) else (laws_FnTxtWords.j0 k t322 t323 true))))))
theorem laws_FnTxtWords.mono_l : ∀ k, (∀ y0 y1 y2, LeO (laws_FnTxtWords.j0 k y0 y1 y2) (laws_FnTxtWords.j0 (k + 1) y0 y1 y2)) ∧ (∀ y0 y1 y2, LeO (laws_FnTxtWords.l0 k y0 y1 y2) (laws_FnTxtWords.l0 (k + 1) y0 y1 y2))
  | 0 => ⟨fun _ _ _ r h => by simp [laws_FnTxtWords.j0] at h, fun _ _ _ r h => by simp [laws_FnTxtWords.l0] at h⟩
  | k + 1 => by
    obtain ⟨ih0, ih1⟩ := laws_FnTxtWords.mono_l k
    refine ⟨?_, ?_⟩
    · intro y0 y1 y2
      unfold laws_FnTxtWords.j0
      repeat' first
      | (with_reducible exact ih0 _ _ _)
      | (with_reducible exact ih1 _ _ _)
      | (with_reducible exact impl_TxtCount.mono _ _)
      | (with_reducible exact impl_TxtOk.mono _ _)
      | (with_reducible exact impl_TxtWords.mono _ _)
      | (with_reducible exact laws_pwOk.mono _)
      | (with_reducible exact laws_pwTexts.mono _ _ _)
      | (with_reducible exact spec_DrawTxtWords.mono _ _)
      | (with_reducible exact spec_TxtOk.mono _ _)
      | (with_reducible exact spec_TxtWords.mono _ _)
      | (with_reducible exact LeO.refl _)
      | (with_reducible exact LeO.none _)
      | (with_reducible refine LeO.ite ?_ ?_)
      | (with_reducible refine LeO.bind ?_ (fun _ => ?_))
      | exact ih0 _ _ _
      | exact ih1 _ _ _
      | exact impl_TxtCount.mono _ _
      | exact impl_TxtOk.mono _ _
      | exact impl_TxtWords.mono _ _
      | exact laws_pwOk.mono _
      | exact laws_pwTexts.mono _ _ _
      | exact spec_DrawTxtWords.mono _ _
      | exact spec_TxtOk.mono _ _
      | exact spec_TxtWords.mono _ _
      | exact LeO.none _
      | refine LeO.ite ?_ ?_
      | refine LeO.bind ?_ (fun _ => ?_)
    · intro y0 y1 y2
      unfold laws_FnTxtWords.l0
      repeat' first
      | (with_reducible exact ih0 _ _ _)
      | (with_reducible exact ih1 _ _ _)
      | (with_reducible exact impl_TxtCount.mono _ _)
      | (with_reducible exact impl_TxtOk.mono _ _)
      | (with_reducible exact impl_TxtWords.mono _ _)
      | (with_reducible exact laws_pwOk.mono _)
      | (with_reducible exact laws_pwTexts.mono _ _ _)
      | (with_reducible exact spec_DrawTxtWords.mono _ _)
      | (with_reducible exact spec_TxtOk.mono _ _)
      | (with_reducible exact spec_TxtWords.mono _ _)
      | (with_reducible exact LeO.refl _)
      | (with_reducible exact LeO.none _)
      | (with_reducible refine LeO.ite ?_ ?_)
      | (with_reducible refine LeO.bind ?_ (fun _ => ?_))
      | exact ih0 _ _ _
      | exact ih1 _ _ _
      | exact impl_TxtCount.mono _ _
      | exact impl_TxtOk.mono _ _
      | exact impl_TxtWords.mono _ _
      | exact laws_pwOk.mono _
      | exact laws_pwTexts.mono _ _ _
      | exact spec_DrawTxtWords.mono _ _
      | exact spec_TxtOk.mono _ _
      | exact spec_TxtWords.mono _ _
      | exact LeO.none _
      | refine LeO.ite ?_ ?_
      | refine LeO.bind ?_ (fun _ => ?_)
theorem laws_FnTxtWords.mono : ∀ a0 k, LeO (laws_FnTxtWords.f k a0) (laws_FnTxtWords.f (k + 1) a0) := by
  intro a0 k
  obtain ⟨ih0, ih1⟩ := laws_FnTxtWords.mono_l k
  unfold laws_FnTxtWords.f
  repeat' first
      | (with_reducible exact ih0 _ _ _)
      | (with_reducible exact ih1 _ _ _)
      | (with_reducible exact impl_TxtCount.mono _ _)
      | (with_reducible exact impl_TxtOk.mono _ _)
      | (with_reducible exact impl_TxtWords.mono _ _)
      | (with_reducible exact laws_pwOk.mono _)
      | (with_reducible exact laws_pwTexts.mono _ _ _)
      | (with_reducible exact spec_DrawTxtWords.mono _ _)
      | (with_reducible exact spec_TxtOk.mono _ _)
      | (with_reducible exact spec_TxtWords.mono _ _)
      | (with_reducible exact LeO.refl _)
      | (with_reducible exact LeO.none _)
      | (with_reducible refine LeO.ite ?_ ?_)
      | (with_reducible refine LeO.bind ?_ (fun _ => ?_))
      | exact ih0 _ _ _
      | exact ih1 _ _ _
      | exact impl_TxtCount.mono _ _
      | exact impl_TxtOk.mono _ _
      | exact impl_TxtWords.mono _ _
      | exact laws_pwOk.mono _
      | exact laws_pwTexts.mono _ _ _
      | exact spec_DrawTxtWords.mono _ _
      | exact spec_TxtOk.mono _ _
      | exact spec_TxtWords.mono _ _
      | exact LeO.none _
      | refine LeO.ite ?_ ?_
      | refine LeO.bind ?_ (fun _ => ?_)
set_option maxHeartbeats 8000000 in
set_option maxRecDepth 100000 in
theorem laws_FnTxtWords.calls (k : Nat) (A0 : Option Addr) (c0 : Nat) (l0 : List Int) (r : Bool) (w : World) (hr0 : Kd.C (Kd.int .u8) w A0 l0.length l0) (hc0 : l0.length ≤ c0) (h : laws_FnTxtWords.f k l0 = some r) :
    Calls Tryd.prog 7 #[.slice A0 l0.length c0] w fun e w' => e = .returned (.bool r) ∧ Below w.heap.size w w' := by
  have HR0 := Aside0.mk hr0
  have HC0 := Aside0.mk hc0
  clear hr0 hc0
  have HB := Aside0.mk (Below.refl w.heap.size w)
  have H : (if (l0.length : Int) > 1048576 then (some true) else ((spec_DrawTxtWords.f k l0).bind fun t322 => ((impl_TxtWords.f k t322).bind fun t323 => ((spec_TxtWords.f k t322).bind fun t326 => ((laws_pwTexts.f k t323 t326).bind fun t329 => (if t329 = true then ((impl_TxtCount.f k t322).bind fun t330 => (if t330 = (t323.length : Int) then ((impl_TxtOk.f k t322).bind fun t331 => ((spec_TxtOk.f k t322).bind fun t332 => (laws_FnTxtWords.j0 k t322 t323 (t331 != t332)))) else (laws_FnTxtWords.j0 k t322 t323 true))) else (laws_FnTxtWords.j0 k t322 t323 true))))))) = some r := h
  clear h
  by_cases c2 : (l0.length : Int) > 1048576
  · rw [if_pos c2] at H
    have c2b0 : decide (1048576 < (l0.length : Int)) = true := decide_eq_true c2
    have c2b1 : decide (1048576 < l0.length) = true := decide_eq_true (by omega)
    clear c2
    obtain rfl := Option.some.inj H
    go_enter Tryd.func7, Tryd.ntmps7
    go_wp2
    go_ret
    exact ⟨by first | rfl | (simp [errW_none, errW_some] <;> rfl) | (simp [*, errW_none, errW_some] <;> rfl), by repeat (first | (with_reducible first | exact HB.out | apply below_alloc | apply pw_below_drewN | apply below_drew1) | exact HB.out)⟩
  · rw [if_neg c2] at H
    have c2b0 : decide (1048576 < (l0.length : Int)) = false := decide_eq_false c2
    have c2b1 : decide (1048576 < l0.length) = false := decide_eq_false (by omega)
    clear c2
    replace H := Option.bind_eq_some_iff.mp H
    obtain ⟨t322, A30, H⟩ := H
    replace H : ((impl_TxtWords.f k t322).bind fun t323 => ((spec_TxtWords.f k t322).bind fun t326 => ((laws_pwTexts.f k t323 t326).bind fun t329 => (if t329 = true then ((impl_TxtCount.f k t322).bind fun t330 => (if t330 = (t323.length : Int) then ((impl_TxtOk.f k t322).bind fun t331 => ((spec_TxtOk.f k t322).bind fun t332 => (laws_FnTxtWords.j0 k t322 t323 (t331 != t332)))) else (laws_FnTxtWords.j0 k t322 t323 true))) else (laws_FnTxtWords.j0 k t322 t323 true))))) = some r := H
    have A3 := Aside0.mk A30
    clear A30
    replace H := Option.bind_eq_some_iff.mp H
    obtain ⟨t323, A40, H⟩ := H
    replace H : ((spec_TxtWords.f k t322).bind fun t326 => ((laws_pwTexts.f k t323 t326).bind fun t329 => (if t329 = true then ((impl_TxtCount.f k t322).bind fun t330 => (if t330 = (t323.length : Int) then ((impl_TxtOk.f k t322).bind fun t331 => ((spec_TxtOk.f k t322).bind fun t332 => (laws_FnTxtWords.j0 k t322 t323 (t331 != t332)))) else (laws_FnTxtWords.j0 k t322 t323 true))) else (laws_FnTxtWords.j0 k t322 t323 true)))) = some r := H
    have A4 := Aside0.mk A40
    clear A40
    have HC5 := Aside0.mk H
    clear H
    go_enter Tryd.func7, Tryd.ntmps7
    go_upto_region 5 with (first | ((with_reducible refine gate_callee (f := 23) rfl ?_); refine goesL_ (some 10) rfl rfl Tryd.func23 (by kernel_rfl) rfl #[.slice A0 l0.length c0] rfl (by (try simp only [List.map_toArray, List.map_cons, List.map_nil]); first | done | rfl | (simp only [List.length_drop, List.length_take]; rfl)) ?_; (with_reducible refine (spec_DrawTxtWords.calls k _ _ l0 t322 _ ?side1 ?side2 A3.out).mono ?_); (case side1 => repeat (first | exact HR0.out | (with_reducible refine Kd.C_alloc ?_ _) | (with_reducible refine Kd.C_drewN ?_ _) | (with_reducible refine Kd.C_drew ?_))); (case side2 => exact HC0.out); rintro e w6 ⟨rfl, hb⟩; refine ⟨_, rfl, ?_⟩; have n0_ := Aside0.mk (below_step (by repeat (first | (with_reducible first | exact HB.out | apply below_alloc | apply pw_below_drewN | apply below_drew1) | exact HB.out)) hb); clear HB; have HB := n0_; clear n0_; (try clear hb); (try clear hb2); (try clear hk); (try clear hi)) | ((with_reducible refine gate_callee (f := 16) rfl ?_); refine goesL_ (some 12) rfl rfl Tryd.func16 (by kernel_rfl) rfl #[.string t322] rfl (by (try simp only [List.map_toArray, List.map_cons, List.map_nil]); first | done | rfl | (simp only [List.length_drop, List.length_take]; rfl)) ?_; (with_reducible refine (impl_TxtWords.calls k t322 t323 _ A4.out).mono ?_); rintro e w7 ⟨v324, rfl, ho0, hb⟩; refine ⟨_, rfl, ?_⟩; have n0_ := Aside0.mk (Kd.R_lower ho0 (below_size (by repeat (first | (with_reducible first | exact HB.out | apply below_alloc | apply pw_below_drewN | apply below_drew1) | exact HB.out)))); have n1_ := Aside0.mk (below_step (by repeat (first | (with_reducible first | exact HB.out | apply below_alloc | apply pw_below_drewN | apply below_drew1) | exact HB.out)) hb); clear HB; have HO325 := n0_; have HB := n1_; clear n0_ n1_; (try clear hb); (try clear hb2); (try clear hk); (try clear hi); (try clear ho0)))
    (try simp only [Act.put, List.setIfInBounds_toArray, List.set_cons_zero, List.set_cons_succ])
    go_cut [31] (fun v31 wc => ∃ (kq : Nat) (x31_4 : Bool), v31 = .bool x31_4 ∧ Aside0 (laws_FnTxtWords.j0 kq t322 t323 x31_4 = some r) ∧ Aside0 (kq ≤ k) ∧ Aside0 (Kd.R Kd.string 9 wc w.heap.size (fun _ => True) v324 t323) ∧ Aside0 (Below w.heap.size w wc))
    case first =>
      have H := HC5.out
      clear HC5
      replace H := Option.bind_eq_some_iff.mp H
      obtain ⟨t326, A80, H⟩ := H
      replace H : ((laws_pwTexts.f k t323 t326).bind fun t329 => (if t329 = true then ((impl_TxtCount.f k t322).bind fun t330 => (if t330 = (t323.length : Int) then ((impl_TxtOk.f k t322).bind fun t331 => ((spec_TxtOk.f k t322).bind fun t332 => (laws_FnTxtWords.j0 k t322 t323 (t331 != t332)))) else (laws_FnTxtWords.j0 k t322 t323 true))) else (laws_FnTxtWords.j0 k t322 t323 true))) = some r := H
      have A8 := Aside0.mk A80
      clear A80
      replace H := Option.bind_eq_some_iff.mp H
      obtain ⟨t329, A90, H⟩ := H
      replace H : (if t329 = true then ((impl_TxtCount.f k t322).bind fun t330 => (if t330 = (t323.length : Int) then ((impl_TxtOk.f k t322).bind fun t331 => ((spec_TxtOk.f k t322).bind fun t332 => (laws_FnTxtWords.j0 k t322 t323 (t331 != t332)))) else (laws_FnTxtWords.j0 k t322 t323 true))) else (laws_FnTxtWords.j0 k t322 t323 true)) = some r := H
      have A9 := Aside0.mk A90
      clear A90
      by_cases c10 : t329 = true
      · subst c10
        have H1 : ((impl_TxtCount.f k t322).bind fun t330 => (if t330 = (t323.length : Int) then ((impl_TxtOk.f k t322).bind fun t331 => ((spec_TxtOk.f k t322).bind fun t332 => (laws_FnTxtWords.j0 k t322 t323 (t331 != t332)))) else (laws_FnTxtWords.j0 k t322 t323 true))) = some r := by rw [if_pos rfl] at H; exact H
        clear H
        have H := H1
        clear H1
        replace H := Option.bind_eq_some_iff.mp H
        obtain ⟨t330, A110, H⟩ := H
        replace H : (if t330 = (t323.length : Int) then ((impl_TxtOk.f k t322).bind fun t331 => ((spec_TxtOk.f k t322).bind fun t332 => (laws_FnTxtWords.j0 k t322 t323 (t331 != t332)))) else (laws_FnTxtWords.j0 k t322 t323 true)) = some r := H
        have A11 := Aside0.mk A110
        clear A110
        by_cases c12 : t330 = (t323.length : Int)
        · rw [if_pos c12] at H
          have c12b0 : (t330 == (t323.length : Int)) = true := beq_iff_eq.mpr c12
          have c12b1 : (t330 != (t323.length : Int)) = false := bne_eq_false_iff_eq.mpr c12
          clear c12
          (first | rw [c12b0] | (simp only [i64_w, i32_w]; rw [c12b0]) | skip)
          replace H := Option.bind_eq_some_iff.mp H
          obtain ⟨t331, A130, H⟩ := H
          replace H : ((spec_TxtOk.f k t322).bind fun t332 => (laws_FnTxtWords.j0 k t322 t323 (t331 != t332))) = some r := H
          have A13 := Aside0.mk A130
          clear A130
          replace H := Option.bind_eq_some_iff.mp H
          obtain ⟨t332, A140, H⟩ := H
          replace H : (laws_FnTxtWords.j0 k t322 t323 (t331 != t332)) = some r := H
          have A14 := Aside0.mk A140
          clear A140
          have H' := Aside0.mk H
          clear H
          go_wp2_with (first | ((with_reducible refine gate_callee (f := 24) rfl ?_); refine goesL_ (some 15) rfl rfl Tryd.func24 (by kernel_rfl) rfl #[.string t322] rfl (by (try simp only [List.map_toArray, List.map_cons, List.map_nil]); first | done | rfl | (simp only [List.length_drop, List.length_take]; rfl)) ?_; (with_reducible refine (spec_TxtWords.calls k t322 t326 _ A8.out).mono ?_); rintro e w15 ⟨v327, rfl, ho0, hb⟩; refine ⟨_, rfl, ?_⟩; have n0_ := Aside0.mk (Kd.R_elder' (by (with_reducible repeat (first | apply Kd.R_alloc | apply Kd.R_drewN | apply Kd.R_drew)); exact HO325.out) (Kd.R_base ho0) hb); have n1_ := Aside0.mk (Kd.R_lower (Kd.R_new' ho0 (Kd.R_lt (by (with_reducible repeat (first | apply Kd.R_alloc | apply Kd.R_drewN | apply Kd.R_drew)); exact HO325.out))) (below_size (by repeat (first | (with_reducible first | exact HB.out | apply below_alloc | apply pw_below_drewN | apply below_drew1) | exact HB.out)))); have n2_ := Aside0.mk (below_step (by repeat (first | (with_reducible first | exact HB.out | apply below_alloc | apply pw_below_drewN | apply below_drew1) | exact HB.out)) hb); clear HO325; clear HB; have HO325 := n0_; have HO328 := n1_; have HB := n2_; clear n0_ n1_ n2_; (try clear hb); (try clear hb2); (try clear hk); (try clear hi); (try clear ho0); obtain ⟨Ao16, co16, eo16⟩ := Kd.R_slice HO325.out; subst eo16; obtain ⟨Ao17, co17, eo17⟩ := Kd.R_slice HO328.out; subst eo17) | ((with_reducible refine gate_callee (f := 20) rfl ?_); refine goesL_ (some 16) rfl rfl Tryd.func20 (by kernel_rfl) rfl #[.slice Ao16 t323.length co16, .slice Ao17 t326.length co17] rfl (by (try simp only [List.map_toArray, List.map_cons, List.map_nil]); first | done | rfl | (simp only [List.length_drop, List.length_take]; rfl)) ?_; (with_reducible refine (laws_pwTexts.calls k _ _ t323 _ _ t326 true _ ?side1 ?side2 ?side3 ?side4 A9.out).mono ?_); (case side1 => repeat (first | exact (Kd.R_reads' HO325.out).2.2 | (with_reducible refine Kd.C_alloc ?_ _) | (with_reducible refine Kd.C_drewN ?_ _) | (with_reducible refine Kd.C_drew ?_))); (case side2 => exact (Kd.R_reads' HO325.out).2.1); (case side3 => repeat (first | exact (Kd.R_reads' HO328.out).2.2 | (with_reducible refine Kd.C_alloc ?_ _) | (with_reducible refine Kd.C_drewN ?_ _) | (with_reducible refine Kd.C_drew ?_))); (case side4 => exact (Kd.R_reads' HO328.out).2.1); rintro e w' ⟨rfl, ⟨nd, rfl⟩⟩; refine ⟨_, rfl, ?_⟩) | (go_at_call 22; (with_reducible refine (impl_TxtCount.calls k t322 t330 _ A11.out).mono ?_); rintro e w18 ⟨rfl, hb⟩; have n0_ := Aside0.mk (Kd.R_below (by (with_reducible repeat (first | apply Kd.R_alloc | apply Kd.R_drewN | apply Kd.R_drew)); exact HO325.out) hb); have n1_ := Aside0.mk (Kd.R_below (by (with_reducible repeat (first | apply Kd.R_alloc | apply Kd.R_drewN | apply Kd.R_drew)); exact HO328.out) hb); have n2_ := Aside0.mk (below_step (by repeat (first | (with_reducible first | exact HB.out | apply below_alloc | apply pw_below_drewN | apply below_drew1) | exact HB.out)) hb); clear HO325; clear HO328; clear HB; have HO325 := n0_; have HO328 := n1_; have HB := n2_; clear n0_ n1_ n2_; (try clear hb); (try clear hb2); (try clear hk); (try clear hi)) | (go_at_call 25; (with_reducible refine (impl_TxtOk.calls k t322 t331 _ A13.out).mono ?_); rintro e w19 ⟨rfl, hb⟩; have n0_ := Aside0.mk (Kd.R_below (by (with_reducible repeat (first | apply Kd.R_alloc | apply Kd.R_drewN | apply Kd.R_drew)); exact HO325.out) hb); have n1_ := Aside0.mk (Kd.R_below (by (with_reducible repeat (first | apply Kd.R_alloc | apply Kd.R_drewN | apply Kd.R_drew)); exact HO328.out) hb); have n2_ := Aside0.mk (below_step (by repeat (first | (with_reducible first | exact HB.out | apply below_alloc | apply pw_below_drewN | apply below_drew1) | exact HB.out)) hb); clear HO325; clear HO328; clear HB; have HO325 := n0_; have HO328 := n1_; have HB := n2_; clear n0_ n1_ n2_; (try clear hb); (try clear hb2); (try clear hk); (try clear hi)) | (go_at_call 26; (with_reducible refine (spec_TxtOk.calls k t322 t332 _ A14.out).mono ?_); rintro e w' ⟨rfl, ⟨nd, rfl⟩⟩))
          go_meet
          case rel => exact ⟨_, ((t331 != t332)), (by first | rfl | (simp; done) | (simp [*]; done)), H', ⟨by first | omega | exact Nat.le_refl _⟩, ⟨by (with_reducible repeat (first | apply Kd.R_alloc | apply Kd.R_drewN | apply Kd.R_drew)); exact Kd.R_mono HO325.out (fun _ hk => trivial)⟩, ⟨by repeat (first | (with_reducible first | exact HB.out | apply below_alloc | apply pw_below_drewN | apply below_drew1) | exact HB.out)⟩⟩
        · rw [if_neg c12] at H
          have c12b0 : (t330 == (t323.length : Int)) = false := beq_eq_false_iff_ne.mpr c12
          have c12b1 : (t330 != (t323.length : Int)) = true := bne_iff_ne.mpr c12
          (first | rw [c12b0] | (simp only [i64_w, i32_w]; rw [c12b0]) | skip)
          have H' := Aside0.mk H
          clear H
          go_wp2_with (first | ((with_reducible refine gate_callee (f := 24) rfl ?_); refine goesL_ (some 15) rfl rfl Tryd.func24 (by kernel_rfl) rfl #[.string t322] rfl (by (try simp only [List.map_toArray, List.map_cons, List.map_nil]); first | done | rfl | (simp only [List.length_drop, List.length_take]; rfl)) ?_; (with_reducible refine (spec_TxtWords.calls k t322 t326 _ A8.out).mono ?_); rintro e w20 ⟨v327, rfl, ho0, hb⟩; refine ⟨_, rfl, ?_⟩; have n0_ := Aside0.mk (Kd.R_elder' (by (with_reducible repeat (first | apply Kd.R_alloc | apply Kd.R_drewN | apply Kd.R_drew)); exact HO325.out) (Kd.R_base ho0) hb); have n1_ := Aside0.mk (Kd.R_lower (Kd.R_new' ho0 (Kd.R_lt (by (with_reducible repeat (first | apply Kd.R_alloc | apply Kd.R_drewN | apply Kd.R_drew)); exact HO325.out))) (below_size (by repeat (first | (with_reducible first | exact HB.out | apply below_alloc | apply pw_below_drewN | apply below_drew1) | exact HB.out)))); have n2_ := Aside0.mk (below_step (by repeat (first | (with_reducible first | exact HB.out | apply below_alloc | apply pw_below_drewN | apply below_drew1) | exact HB.out)) hb); clear HO325; clear HB; have HO325 := n0_; have HO328 := n1_; have HB := n2_; clear n0_ n1_ n2_; (try clear hb); (try clear hb2); (try clear hk); (try clear hi); (try clear ho0); obtain ⟨Ao21, co21, eo21⟩ := Kd.R_slice HO325.out; subst eo21; obtain ⟨Ao22, co22, eo22⟩ := Kd.R_slice HO328.out; subst eo22) | ((with_reducible refine gate_callee (f := 20) rfl ?_); refine goesL_ (some 16) rfl rfl Tryd.func20 (by kernel_rfl) rfl #[.slice Ao21 t323.length co21, .slice Ao22 t326.length co22] rfl (by (try simp only [List.map_toArray, List.map_cons, List.map_nil]); first | done | rfl | (simp only [List.length_drop, List.length_take]; rfl)) ?_; (with_reducible refine (laws_pwTexts.calls k _ _ t323 _ _ t326 true _ ?side1 ?side2 ?side3 ?side4 A9.out).mono ?_); (case side1 => repeat (first | exact (Kd.R_reads' HO325.out).2.2 | (with_reducible refine Kd.C_alloc ?_ _) | (with_reducible refine Kd.C_drewN ?_ _) | (with_reducible refine Kd.C_drew ?_))); (case side2 => exact (Kd.R_reads' HO325.out).2.1); (case side3 => repeat (first | exact (Kd.R_reads' HO328.out).2.2 | (with_reducible refine Kd.C_alloc ?_ _) | (with_reducible refine Kd.C_drewN ?_ _) | (with_reducible refine Kd.C_drew ?_))); (case side4 => exact (Kd.R_reads' HO328.out).2.1); rintro e w' ⟨rfl, ⟨nd, rfl⟩⟩; refine ⟨_, rfl, ?_⟩) | (go_at_call 22; (with_reducible refine (impl_TxtCount.calls k t322 t330 _ A11.out).mono ?_); rintro e w23 ⟨rfl, hb⟩; have n0_ := Aside0.mk (Kd.R_below (by (with_reducible repeat (first | apply Kd.R_alloc | apply Kd.R_drewN | apply Kd.R_drew)); exact HO325.out) hb); have n1_ := Aside0.mk (Kd.R_below (by (with_reducible repeat (first | apply Kd.R_alloc | apply Kd.R_drewN | apply Kd.R_drew)); exact HO328.out) hb); have n2_ := Aside0.mk (below_step (by repeat (first | (with_reducible first | exact HB.out | apply below_alloc | apply pw_below_drewN | apply below_drew1) | exact HB.out)) hb); clear HO325; clear HO328; clear HB; have HO325 := n0_; have HO328 := n1_; have HB := n2_; clear n0_ n1_ n2_; (try clear hb); (try clear hb2); (try clear hk); (try clear hi)))
          go_meet
          case rel => exact ⟨_, (true), (by first | rfl | (simp; done) | (simp [*]; done)), H', ⟨by first | omega | exact Nat.le_refl _⟩, ⟨by (with_reducible repeat (first | apply Kd.R_alloc | apply Kd.R_drewN | apply Kd.R_drew)); exact Kd.R_mono HO325.out (fun _ hk => trivial)⟩, ⟨by repeat (first | (with_reducible first | exact HB.out | apply below_alloc | apply pw_below_drewN | apply below_drew1) | exact HB.out)⟩⟩
      · replace c10 := Bool.eq_false_iff.mpr c10
        subst c10
        have H1 : (laws_FnTxtWords.j0 k t322 t323 true) = some r := by rw [if_neg (show ¬ (false = true) by decide)] at H; exact H
        clear H
        have H := H1
        clear H1
        have H' := Aside0.mk H
        clear H
        go_wp2_with (first | ((with_reducible refine gate_callee (f := 24) rfl ?_); refine goesL_ (some 15) rfl rfl Tryd.func24 (by kernel_rfl) rfl #[.string t322] rfl (by (try simp only [List.map_toArray, List.map_cons, List.map_nil]); first | done | rfl | (simp only [List.length_drop, List.length_take]; rfl)) ?_; (with_reducible refine (spec_TxtWords.calls k t322 t326 _ A8.out).mono ?_); rintro e w24 ⟨v327, rfl, ho0, hb⟩; refine ⟨_, rfl, ?_⟩; have n0_ := Aside0.mk (Kd.R_elder' (by (with_reducible repeat (first | apply Kd.R_alloc | apply Kd.R_drewN | apply Kd.R_drew)); exact HO325.out) (Kd.R_base ho0) hb); have n1_ := Aside0.mk (Kd.R_lower (Kd.R_new' ho0 (Kd.R_lt (by (with_reducible repeat (first | apply Kd.R_alloc | apply Kd.R_drewN | apply Kd.R_drew)); exact HO325.out))) (below_size (by repeat (first | (with_reducible first | exact HB.out | apply below_alloc | apply pw_below_drewN | apply below_drew1) | exact HB.out)))); have n2_ := Aside0.mk (below_step (by repeat (first | (with_reducible first | exact HB.out | apply below_alloc | apply pw_below_drewN | apply below_drew1) | exact HB.out)) hb); clear HO325; clear HB; have HO325 := n0_; have HO328 := n1_; have HB := n2_; clear n0_ n1_ n2_; (try clear hb); (try clear hb2); (try clear hk); (try clear hi); (try clear ho0); obtain ⟨Ao25, co25, eo25⟩ := Kd.R_slice HO325.out; subst eo25; obtain ⟨Ao26, co26, eo26⟩ := Kd.R_slice HO328.out; subst eo26) | ((with_reducible refine gate_callee (f := 20) rfl ?_); refine goesL_ (some 16) rfl rfl Tryd.func20 (by kernel_rfl) rfl #[.slice Ao25 t323.length co25, .slice Ao26 t326.length co26] rfl (by (try simp only [List.map_toArray, List.map_cons, List.map_nil]); first | done | rfl | (simp only [List.length_drop, List.length_take]; rfl)) ?_; (with_reducible refine (laws_pwTexts.calls k _ _ t323 _ _ t326 false _ ?side1 ?side2 ?side3 ?side4 A9.out).mono ?_); (case side1 => repeat (first | exact (Kd.R_reads' HO325.out).2.2 | (with_reducible refine Kd.C_alloc ?_ _) | (with_reducible refine Kd.C_drewN ?_ _) | (with_reducible refine Kd.C_drew ?_))); (case side2 => exact (Kd.R_reads' HO325.out).2.1); (case side3 => repeat (first | exact (Kd.R_reads' HO328.out).2.2 | (with_reducible refine Kd.C_alloc ?_ _) | (with_reducible refine Kd.C_drewN ?_ _) | (with_reducible refine Kd.C_drew ?_))); (case side4 => exact (Kd.R_reads' HO328.out).2.1); rintro e w' ⟨rfl, ⟨nd, rfl⟩⟩; refine ⟨_, rfl, ?_⟩))
        go_meet
        case rel => exact ⟨_, (true), (by first | rfl | (simp; done) | (simp [*]; done)), H', ⟨by first | omega | exact Nat.le_refl _⟩, ⟨by (with_reducible repeat (first | apply Kd.R_alloc | apply Kd.R_drewN | apply Kd.R_drew)); exact Kd.R_mono HO325.out (fun _ hk => trivial)⟩, ⟨by repeat (first | (with_reducible first | exact HB.out | apply below_alloc | apply pw_below_drewN | apply below_drew1) | exact HB.out)⟩⟩
    case rest =>
      clear HC5
      try clear c1
      try clear c2
      try clear c2b0
      try clear c2b1
      try clear p2
      try clear c7
      try clear c10
      try clear c12
      try clear c12b0
      try clear c12b1
      try clear c16
      try clear c20
      try clear c23
      try clear c24
      obtain ⟨kq, x31_4, rfl, HA, HJ4, HO_4, HB⟩ := hcut
      cases kq with
      | zero => exact absurd HA.out (by simp [laws_FnTxtWords.j0])
      | succ kj4 =>
        have H := HA.out
        clear HA
        simp only [laws_FnTxtWords.j0] at H
        by_cases c27 : x31_4 = true
        · subst c27
          have H1 : (some false) = some r := by rw [if_pos rfl] at H; exact H
          clear H
          have H := H1
          clear H1
          obtain rfl := Option.some.inj H
          go_wp2
          go_ret
          exact ⟨by first | rfl | (simp [errW_none, errW_some] <;> rfl) | (simp [*, errW_none, errW_some] <;> rfl), by repeat (first | (with_reducible first | exact HB.out | apply below_alloc | apply pw_below_drewN | apply below_drew1) | exact HB.out)⟩
        · replace c27 := Bool.eq_false_iff.mpr c27
          subst c27
          have H1 : ((spec_TxtOk.f kj4 t322).bind fun t333 => (if t333 = true then (laws_FnTxtWords.l0 kj4 t322 t323 0) else (if (t323.length : Int) = 0 then ((laws_pwOk.f kj4).bind fun t334 => (some t334)) else (some false)))) = some r := by rw [if_neg (show ¬ (false = true) by decide)] at H; exact H
          clear H
          have H := H1
          clear H1
          replace H := Option.bind_eq_some_iff.mp H
          obtain ⟨t333, A280, H⟩ := H
          replace H : (if t333 = true then (laws_FnTxtWords.l0 kj4 t322 t323 0) else (if (t323.length : Int) = 0 then ((laws_pwOk.f kj4).bind fun t334 => (some t334)) else (some false))) = some r := H
          have A28 := Aside0.mk A280
          clear A280
          by_cases c29 : t333 = true
          · subst c29
            have H1 : (laws_FnTxtWords.l0 kj4 t322 t323 0) = some r := by rw [if_pos rfl] at H; exact H
            clear H
            have H := H1
            clear H1
            have H' := Aside0.mk H
            clear H
            go_wp2_with (first | ((with_reducible refine gate_callee (f := 26) rfl ?_); refine goesL_ (some 33) rfl rfl Tryd.func26 (by kernel_rfl) rfl #[.string t322] rfl (by (try simp only [List.map_toArray, List.map_cons, List.map_nil]); first | done | rfl | (simp only [List.length_drop, List.length_take]; rfl)) ?_; (with_reducible refine (spec_TxtOk.calls kj4 t322 true _ A28.out).mono ?_); rintro e w' ⟨rfl, ⟨nd, rfl⟩⟩; refine ⟨_, rfl, ?_⟩))
            go_loopg [5] kj4 (fun kq v5 w' => ∃ (x5_2 : Int), v5 = .int .i64 x5_2 ∧ Aside0 (laws_FnTxtWords.l0 kq t322 t323 x5_2 = some r) ∧ Aside0 (kq ≤ kj4) ∧ Aside0 (Kd.R Kd.string 9 w' w.heap.size (fun _ => True) v324 t323) ∧ Aside0 (Below w.heap.size w w'))
            case atStart => exact ⟨(0), (by first | rfl | (simp; done) | (simp [*]; done)), H', ⟨Nat.le_refl _⟩, ⟨by (with_reducible repeat (first | apply Kd.R_alloc | apply Kd.R_drewN | apply Kd.R_drew)); exact HO_4.out⟩, ⟨by repeat (first | (with_reducible first | exact HB.out | apply below_alloc | apply pw_below_drewN | apply below_drew1) | exact HB.out)⟩⟩
            case round =>
              clear H'
              try clear c1
              try clear c2
              try clear c2b0
              try clear c2b1
              try clear p2
              try clear c7
              try clear c10
              try clear c12
              try clear c12b0
              try clear c12b1
              try clear c16
              try clear c20
              try clear c23
              try clear c24
              try clear c26
              try clear c27
              try clear c29
              try clear p2
              obtain ⟨x5_2, rfl, HA, HK2, HO_4, HB⟩ := hrel
              cases gk with
              | zero => exact absurd HA.out (by simp [laws_FnTxtWords.l0])
              | succ k2 =>
                have H := HA.out
                clear HA
                simp only [laws_FnTxtWords.l0] at H
                by_cases c30 : x5_2 < (t323.length : Int)
                · rw [if_pos c30] at H
                  have c30b0 : decide (x5_2 < (t323.length : Int)) = true := decide_eq_true c30
                  clear c30
                  by_cases c31 : 0 ≤ x5_2
                  · rw [if_pos c31] at H
                    have c31b0 : decide (0 ≤ x5_2) = true := decide_eq_true c31
                    clear c31
                    by_cases c32 : (rdOf ByteArray.empty t323 x5_2).toList = ([] : List UInt8)
                    · rw [if_pos c32] at H
                      have c32b0 : ((rdOf ByteArray.empty t323 x5_2).toList == ([] : List UInt8)) = true := beq_iff_eq.mpr c32
                      have c32b1 : ((rdOf ByteArray.empty t323 x5_2).toList != ([] : List UInt8)) = false := bne_eq_false_iff_eq.mpr c32
                      clear c32
                      obtain rfl := Option.some.inj H
                      obtain ⟨Ao33, co33, eo33⟩ := Kd.R_slice HO_4.out
                      subst eo33
                      have p335 : 0 ≤ (x5_2 : Int) := of_decide_eq_true (by first | (with_reducible assumption) | assumption)
                      have q335 : x5_2 < (t323.length : Int) := of_decide_eq_true (by first | (with_reducible assumption) | assumption)
                      obtain ⟨ad335, e335, hx335_0⟩ := Kd.at_string (Kd.R_reads' HO_4.out).2.2 x5_2 p335 q335
                      cases e335
                      replace p335 := eq_true p335
                      replace q335 := eq_true q335
                      go_wp2
                      go_ret
                      exact ⟨by first | rfl | (simp [errW_none, errW_some] <;> rfl) | (simp [*, errW_none, errW_some] <;> rfl), by repeat (first | (with_reducible first | exact HB.out | apply below_alloc | apply pw_below_drewN | apply below_drew1) | exact HB.out)⟩
                    · rw [if_neg c32] at H
                      have c32b0 : ((rdOf ByteArray.empty t323 x5_2).toList == ([] : List UInt8)) = false := beq_eq_false_iff_ne.mpr c32
                      have c32b1 : ((rdOf ByteArray.empty t323 x5_2).toList != ([] : List UInt8)) = true := bne_iff_ne.mpr c32
                      replace H := Option.bind_eq_some_iff.mp H
                      obtain ⟨t337, A340, H⟩ := H
                      replace H : (if (t337.length : Int) = 1 then (laws_FnTxtWords.l0 k2 t322 t323 (wrap64 (x5_2 + 1))) else (some false)) = some r := H
                      have A34 := Aside0.mk A340
                      clear A340
                      by_cases c35 : (t337.length : Int) = 1
                      · rw [if_pos c35] at H
                        have c35b0 : ((t337.length : Int) == 1) = true := beq_iff_eq.mpr c35
                        have c35b1 : ((t337.length : Int) != 1) = false := bne_eq_false_iff_eq.mpr c35
                        clear c35
                        have H' := Aside0.mk H
                        clear H
                        obtain ⟨Ao36, co36, eo36⟩ := Kd.R_slice HO_4.out
                        subst eo36
                        have p335 : 0 ≤ (x5_2 : Int) := of_decide_eq_true (by first | (with_reducible assumption) | assumption)
                        have q335 : x5_2 < (t323.length : Int) := of_decide_eq_true (by first | (with_reducible assumption) | assumption)
                        obtain ⟨ad335, e335, hx335_0⟩ := Kd.at_string (Kd.R_reads' HO_4.out).2.2 x5_2 p335 q335
                        cases e335
                        replace p335 := eq_true p335
                        replace q335 := eq_true q335
                        have p336 : 0 ≤ (x5_2 : Int) := of_decide_eq_true (by first | (with_reducible assumption) | assumption)
                        have q336 : x5_2 < (t323.length : Int) := of_decide_eq_true (by first | (with_reducible assumption) | assumption)
                        obtain ⟨ad336, e336, hx336_0⟩ := Kd.at_string (Kd.R_reads' HO_4.out).2.2 x5_2 p336 q336
                        obtain rfl : ad335 = ad336 := (by injection e336)
                        replace p336 := eq_true p336
                        replace q336 := eq_true q336
                        go_wp2_with (first | (go_at_call 16; (with_reducible refine (impl_TxtWords.calls k2 (rdOf ByteArray.empty t323 x5_2) t337 _ A34.out).mono ?_); rintro e w37 ⟨v338, rfl, ho0, hb⟩; have n0_ := Aside0.mk (Kd.R_elder' (by (with_reducible repeat (first | apply Kd.R_alloc | apply Kd.R_drewN | apply Kd.R_drew)); exact HO_4.out) (Kd.R_base ho0) hb); have n1_ := Aside0.mk (Kd.R_lower (Kd.R_new' ho0 (Kd.R_lt (by (with_reducible repeat (first | apply Kd.R_alloc | apply Kd.R_drewN | apply Kd.R_drew)); exact HO_4.out))) (below_size (by repeat (first | (with_reducible first | exact HB.out | apply below_alloc | apply pw_below_drewN | apply below_drew1) | exact HB.out)))); have n2_ := Aside0.mk (below_step (by repeat (first | (with_reducible first | exact HB.out | apply below_alloc | apply pw_below_drewN | apply below_drew1) | exact HB.out)) hb); clear HO_4; clear HB; have HO_4 := n0_; have HO339 := n1_; have HB := n2_; clear n0_ n1_ n2_; (try clear hb); (try clear hb2); (try clear hk); (try clear hi); (try clear ho0); obtain ⟨Ao38, co38, eo38⟩ := Kd.R_slice HO339.out; subst eo38))
                        go_roundg k2
                        case measure => have := HJ4.out; have := HK2.out; omega
                        case rel => exact ⟨(wrap64 (x5_2 + 1)), (by first | rfl | (simp; done) | (simp [*]; done)), H', ⟨by have := HJ4.out; have := HK2.out; omega⟩, ⟨by (with_reducible repeat (first | apply Kd.R_alloc | apply Kd.R_drewN | apply Kd.R_drew)); exact Kd.R_mono HO_4.out (fun _ hk => trivial)⟩, ⟨by repeat (first | (with_reducible first | exact HB.out | apply below_alloc | apply pw_below_drewN | apply below_drew1) | exact HB.out)⟩⟩
                      · rw [if_neg c35] at H
                        have c35b0 : ((t337.length : Int) == 1) = false := beq_eq_false_iff_ne.mpr c35
                        have c35b1 : ((t337.length : Int) != 1) = true := bne_iff_ne.mpr c35
                        obtain rfl := Option.some.inj H
                        obtain ⟨Ao39, co39, eo39⟩ := Kd.R_slice HO_4.out
                        subst eo39
                        have p335 : 0 ≤ (x5_2 : Int) := of_decide_eq_true (by first | (with_reducible assumption) | assumption)
                        have q335 : x5_2 < (t323.length : Int) := of_decide_eq_true (by first | (with_reducible assumption) | assumption)
                        obtain ⟨ad335, e335, hx335_0⟩ := Kd.at_string (Kd.R_reads' HO_4.out).2.2 x5_2 p335 q335
                        cases e335
                        replace p335 := eq_true p335
                        replace q335 := eq_true q335
                        have p336 : 0 ≤ (x5_2 : Int) := of_decide_eq_true (by first | (with_reducible assumption) | assumption)
                        have q336 : x5_2 < (t323.length : Int) := of_decide_eq_true (by first | (with_reducible assumption) | assumption)
                        obtain ⟨ad336, e336, hx336_0⟩ := Kd.at_string (Kd.R_reads' HO_4.out).2.2 x5_2 p336 q336
                        obtain rfl : ad335 = ad336 := (by injection e336)
                        replace p336 := eq_true p336
                        replace q336 := eq_true q336
                        go_wp2_with (first | (go_at_call 16; (with_reducible refine (impl_TxtWords.calls k2 (rdOf ByteArray.empty t323 x5_2) t337 _ A34.out).mono ?_); rintro e w40 ⟨v338, rfl, ho0, hb⟩; have n0_ := Aside0.mk (Kd.R_elder' (by (with_reducible repeat (first | apply Kd.R_alloc | apply Kd.R_drewN | apply Kd.R_drew)); exact HO_4.out) (Kd.R_base ho0) hb); have n1_ := Aside0.mk (Kd.R_lower (Kd.R_new' ho0 (Kd.R_lt (by (with_reducible repeat (first | apply Kd.R_alloc | apply Kd.R_drewN | apply Kd.R_drew)); exact HO_4.out))) (below_size (by repeat (first | (with_reducible first | exact HB.out | apply below_alloc | apply pw_below_drewN | apply below_drew1) | exact HB.out)))); have n2_ := Aside0.mk (below_step (by repeat (first | (with_reducible first | exact HB.out | apply below_alloc | apply pw_below_drewN | apply below_drew1) | exact HB.out)) hb); clear HO_4; clear HB; have HO_4 := n0_; have HO339 := n1_; have HB := n2_; clear n0_ n1_ n2_; (try clear hb); (try clear hb2); (try clear hk); (try clear hi); (try clear ho0); obtain ⟨Ao41, co41, eo41⟩ := Kd.R_slice HO339.out; subst eo41))
                        go_ret
                        exact ⟨by first | rfl | (simp [errW_none, errW_some] <;> rfl) | (simp [*, errW_none, errW_some] <;> rfl), by repeat (first | (with_reducible first | exact HB.out | apply below_alloc | apply pw_below_drewN | apply below_drew1) | exact HB.out)⟩
                  · rw [if_neg c31] at H
                    exact absurd H (by simp)
                · rw [if_neg c30] at H
                  have c30b0 : decide (x5_2 < (t323.length : Int)) = false := decide_eq_false c30
                  clear c30
                  replace H := Option.bind_eq_some_iff.mp H
                  obtain ⟨t340, A420, H⟩ := H
                  replace H : (if t340.toList = t322.toList then ((laws_pwOk.f k2).bind fun t341 => (some t341)) else (some false)) = some r := H
                  have A42 := Aside0.mk A420
                  clear A420
                  by_cases c43 : t340.toList = t322.toList
                  · rw [if_pos c43] at H
                    have c43b0 : (t340.toList == t322.toList) = true := beq_iff_eq.mpr c43
                    have c43b1 : (t340.toList != t322.toList) = false := bne_eq_false_iff_eq.mpr c43
                    clear c43
                    replace H := Option.bind_eq_some_iff.mp H
                    obtain ⟨t341, A440, H⟩ := H
                    replace H : (some t341) = some r := H
                    have A44 := Aside0.mk A440
                    clear A440
                    obtain rfl := Option.some.inj H
                    obtain ⟨Ao45, co45, eo45⟩ := Kd.R_slice HO_4.out
                    subst eo45
                    go_wp2_with (first | ((with_reducible refine gate_callee (f := 27) rfl ?_); refine goesL_ (some 62) rfl rfl Tryd.func27 (by kernel_rfl) rfl #[.slice Ao45 t323.length co45] rfl (by (try simp only [List.map_toArray, List.map_cons, List.map_nil]); first | done | rfl | (simp only [List.length_drop, List.length_take]; rfl)) ?_; (with_reducible refine (impl_TxtJoin.calls _ _ t323 t340 _ ?side1 ?side2 A42.out).mono ?_); (case side1 => repeat (first | exact (Kd.R_reads' HO_4.out).2.2 | (with_reducible refine Kd.C_alloc ?_ _) | (with_reducible refine Kd.C_drewN ?_ _) | (with_reducible refine Kd.C_drew ?_))); (case side2 => exact (Kd.R_reads' HO_4.out).2.1); rintro e w46 ⟨rfl, hb⟩; refine ⟨_, rfl, ?_⟩; have n0_ := Aside0.mk (Kd.R_below (by (with_reducible repeat (first | apply Kd.R_alloc | apply Kd.R_drewN | apply Kd.R_drew)); exact HO_4.out) hb); have n1_ := Aside0.mk (below_step (by repeat (first | (with_reducible first | exact HB.out | apply below_alloc | apply pw_below_drewN | apply below_drew1) | exact HB.out)) hb); clear HO_4; clear HB; have HO_4 := n0_; have HB := n1_; clear n0_ n1_; (try clear hb); (try clear hb2); (try clear hk); (try clear hi)) | (go_at_call 17; (with_reducible refine (laws_pwOk.calls k2  t341 _ A44.out).mono ?_); rintro e w47 ⟨rfl, hb⟩; have n0_ := Aside0.mk (Kd.R_below (by (with_reducible repeat (first | apply Kd.R_alloc | apply Kd.R_drewN | apply Kd.R_drew)); exact HO_4.out) hb); have n1_ := Aside0.mk (below_step (by repeat (first | (with_reducible first | exact HB.out | apply below_alloc | apply pw_below_drewN | apply below_drew1) | exact HB.out)) hb); clear HO_4; clear HB; have HO_4 := n0_; have HB := n1_; clear n0_ n1_; (try clear hb); (try clear hb2); (try clear hk); (try clear hi)))
                    go_ret
                    exact ⟨by first | rfl | (simp [errW_none, errW_some] <;> rfl) | (simp [*, errW_none, errW_some] <;> rfl), by repeat (first | (with_reducible first | exact HB.out | apply below_alloc | apply pw_below_drewN | apply below_drew1) | exact HB.out)⟩
                  · rw [if_neg c43] at H
                    have c43b0 : (t340.toList == t322.toList) = false := beq_eq_false_iff_ne.mpr c43
                    have c43b1 : (t340.toList != t322.toList) = true := bne_iff_ne.mpr c43
                    obtain rfl := Option.some.inj H
                    obtain ⟨Ao48, co48, eo48⟩ := Kd.R_slice HO_4.out
                    subst eo48
                    go_wp2_with (first | ((with_reducible refine gate_callee (f := 27) rfl ?_); refine goesL_ (some 62) rfl rfl Tryd.func27 (by kernel_rfl) rfl #[.slice Ao48 t323.length co48] rfl (by (try simp only [List.map_toArray, List.map_cons, List.map_nil]); first | done | rfl | (simp only [List.length_drop, List.length_take]; rfl)) ?_; (with_reducible refine (impl_TxtJoin.calls _ _ t323 t340 _ ?side1 ?side2 A42.out).mono ?_); (case side1 => repeat (first | exact (Kd.R_reads' HO_4.out).2.2 | (with_reducible refine Kd.C_alloc ?_ _) | (with_reducible refine Kd.C_drewN ?_ _) | (with_reducible refine Kd.C_drew ?_))); (case side2 => exact (Kd.R_reads' HO_4.out).2.1); rintro e w49 ⟨rfl, hb⟩; refine ⟨_, rfl, ?_⟩; have n0_ := Aside0.mk (Kd.R_below (by (with_reducible repeat (first | apply Kd.R_alloc | apply Kd.R_drewN | apply Kd.R_drew)); exact HO_4.out) hb); have n1_ := Aside0.mk (below_step (by repeat (first | (with_reducible first | exact HB.out | apply below_alloc | apply pw_below_drewN | apply below_drew1) | exact HB.out)) hb); clear HO_4; clear HB; have HO_4 := n0_; have HB := n1_; clear n0_ n1_; (try clear hb); (try clear hb2); (try clear hk); (try clear hi)))
                    go_ret
                    exact ⟨by first | rfl | (simp [errW_none, errW_some] <;> rfl) | (simp [*, errW_none, errW_some] <;> rfl), by repeat (first | (with_reducible first | exact HB.out | apply below_alloc | apply pw_below_drewN | apply below_drew1) | exact HB.out)⟩
          · replace c29 := Bool.eq_false_iff.mpr c29
            subst c29
            have H1 : (if (t323.length : Int) = 0 then ((laws_pwOk.f kj4).bind fun t334 => (some t334)) else (some false)) = some r := by rw [if_neg (show ¬ (false = true) by decide)] at H; exact H
            clear H
            have H := H1
            clear H1
            by_cases c50 : (t323.length : Int) = 0
            · rw [if_pos c50] at H
              have c50b0 : ((t323.length : Int) == 0) = true := beq_iff_eq.mpr c50
              have c50b1 : ((t323.length : Int) != 0) = false := bne_eq_false_iff_eq.mpr c50
              clear c50
              replace H := Option.bind_eq_some_iff.mp H
              obtain ⟨t334, A510, H⟩ := H
              replace H : (some t334) = some r := H
              have A51 := Aside0.mk A510
              clear A510
              obtain rfl := Option.some.inj H
              go_wp2_with (first | ((with_reducible refine gate_callee (f := 26) rfl ?_); refine goesL_ (some 33) rfl rfl Tryd.func26 (by kernel_rfl) rfl #[.string t322] rfl (by (try simp only [List.map_toArray, List.map_cons, List.map_nil]); first | done | rfl | (simp only [List.length_drop, List.length_take]; rfl)) ?_; (with_reducible refine (spec_TxtOk.calls kj4 t322 false _ A28.out).mono ?_); rintro e w' ⟨rfl, ⟨nd, rfl⟩⟩; refine ⟨_, rfl, ?_⟩; obtain ⟨Ao52, co52, eo52⟩ := Kd.R_slice HO_4.out; subst eo52) | (go_at_call 17; (with_reducible refine (laws_pwOk.calls kj4  t334 _ A51.out).mono ?_); rintro e w53 ⟨rfl, hb⟩; have n0_ := Aside0.mk (Kd.R_below (by (with_reducible repeat (first | apply Kd.R_alloc | apply Kd.R_drewN | apply Kd.R_drew)); exact HO_4.out) hb); have n1_ := Aside0.mk (below_step (by repeat (first | (with_reducible first | exact HB.out | apply below_alloc | apply pw_below_drewN | apply below_drew1) | exact HB.out)) hb); clear HO_4; clear HB; have HO_4 := n0_; have HB := n1_; clear n0_ n1_; (try clear hb); (try clear hb2); (try clear hk); (try clear hi)))
              go_ret
              exact ⟨by first | rfl | (simp [errW_none, errW_some] <;> rfl) | (simp [*, errW_none, errW_some] <;> rfl), by repeat (first | (with_reducible first | exact HB.out | apply below_alloc | apply pw_below_drewN | apply below_drew1) | exact HB.out)⟩
            · rw [if_neg c50] at H
              have c50b0 : ((t323.length : Int) == 0) = false := beq_eq_false_iff_ne.mpr c50
              have c50b1 : ((t323.length : Int) != 0) = true := bne_iff_ne.mpr c50
              have c50b2 : ¬ (t323 = []) := fun h_ => c50 (by rw [h_]; rfl)
              obtain rfl := Option.some.inj H
              go_wp2_with (first | ((with_reducible refine gate_callee (f := 26) rfl ?_); refine goesL_ (some 33) rfl rfl Tryd.func26 (by kernel_rfl) rfl #[.string t322] rfl (by (try simp only [List.map_toArray, List.map_cons, List.map_nil]); first | done | rfl | (simp only [List.length_drop, List.length_take]; rfl)) ?_; (with_reducible refine (spec_TxtOk.calls kj4 t322 false _ A28.out).mono ?_); rintro e w' ⟨rfl, ⟨nd, rfl⟩⟩; refine ⟨_, rfl, ?_⟩; obtain ⟨Ao54, co54, eo54⟩ := Kd.R_slice HO_4.out; subst eo54))
              go_ret
              exact ⟨by first | rfl | (simp [errW_none, errW_some] <;> rfl) | (simp [*, errW_none, errW_some] <;> rfl), by repeat (first | (with_reducible first | exact HB.out | apply below_alloc | apply pw_below_drewN | apply below_drew1) | exact HB.out)⟩
def laws_FnTxtWords.Pure : Prop := ∀ (l0 : List Int), l0.length ≤ maxLen → l0.length * 1 ≤ 140737488351232 → (∀ x ∈ l0, (Lit.int .u8 x).wf = true) → ∃ k, laws_FnTxtWords.f k l0 = some true
end Go.Proofs.YtldmepofbkcmnaaDoor.Pr
