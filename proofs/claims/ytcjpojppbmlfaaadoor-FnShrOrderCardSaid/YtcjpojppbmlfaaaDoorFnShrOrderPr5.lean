/- A part of what the claim of 'FnShrOrder' leans on. -/
import Derived.Test.YtcjpojppbmlfaaaDoorFnShrOrderP0
import Derived.Test.YtcjpojppbmlfaaaDoorFnShrOrderP3
import Derived.Test.YtcjpojppbmlfaaaDoorFnShrOrderP4
import Derived.Test.YtcjpojppbmlfaaaDoorFnShrOrderP5
namespace Go.Proofs.YtcjpojppbmlfaaaDoor.Pr
open Go.RowKit Go.Proofs.YtcjpojppbmlfaaaDoorW.PrintWords Go.Proofs.YtcjpojppbmlfaaaDoorW.PrintLast Go.Proofs.YtcjpojppbmlfaaaDoorW.PrintMore
attribute [local go_sem] max2_int min2_int max_two min_two max_three min_three max_four min_four
set_option linter.unusedVariables false
set_option linter.unusedSimpArgs false
mutual
def laws_FnShrOrder.l0 : Nat → List Int → List Int → Int → Option (Bool)
  | 0, _, _, _ => none
  | k + 1, x4, x5, x6 => if x6 < (x5.length : Int) then (laws_FnShrOrder.l1 k x4 x5 x6 0) else ((laws_pwOk.f k).bind fun t315 => (some t315))
def laws_FnShrOrder.l1 : Nat → List Int → List Int → Int → Int → Option (Bool)
  | 0, _, _, _, _ => none
  | k + 1, x4, x5, x6, x7 => if x7 < (x5.length : Int) then (if 0 ≤ x6 then (if x6 < (x4.length : Int) then (if 0 ≤ x7 then (if x7 < (x4.length : Int) then (if (rd x4 x6) > (rd x4 x7) then (if x6 < (x5.length : Int) then (if (rd x5 x6) < (rd x5 x7) then (some false) else (if (rd x4 x6) = (rd x4 x7) then (if x6 < x7 then (if (rd x5 x6) > (wrap64 ((rd x5 x7) + 1)) then (some false) else (laws_FnShrOrder.l1 k x4 x5 x6 (wrap64 (x7 + 1)))) else (laws_FnShrOrder.l1 k x4 x5 x6 (wrap64 (x7 + 1)))) else (laws_FnShrOrder.l1 k x4 x5 x6 (wrap64 (x7 + 1))))) else (none)) else (if (rd x4 x6) = (rd x4 x7) then (if x6 < x7 then (if x6 < (x5.length : Int) then (if (rd x5 x6) < (rd x5 x7) then (some false) else (if (rd x5 x6) > (wrap64 ((rd x5 x7) + 1)) then (some false) else (laws_FnShrOrder.l1 k x4 x5 x6 (wrap64 (x7 + 1))))) else (none)) else (laws_FnShrOrder.l1 k x4 x5 x6 (wrap64 (x7 + 1)))) else (laws_FnShrOrder.l1 k x4 x5 x6 (wrap64 (x7 + 1))))) else (none)) else (none)) else (none)) else (none)) else (laws_FnShrOrder.l0 k x4 x5 (wrap64 (x6 + 1)))
end
def laws_FnShrOrder.f (k : Nat) (l0 : List Int) : Option (Bool) := if (l0.length : Int) > 1048576 then (some true) else ((spec_DrawShrShare.f k l0).bind fun bt304 => ((impl_ShrShare.f k bt304.1 bt304.2).bind fun t308 => ((spec_ShrShare.f k bt304.1 bt304.2).bind fun t311 => ((laws_pwInts.f k t308 t311).bind fun t314 => (if t314 = true then (laws_FnShrOrder.l0 k bt304.2 t308 0) else (some false))))))
theorem laws_FnShrOrder.mono_l : ∀ k, (∀ y0 y1 y2, LeO (laws_FnShrOrder.l0 k y0 y1 y2) (laws_FnShrOrder.l0 (k + 1) y0 y1 y2)) ∧ (∀ y0 y1 y2 y3, LeO (laws_FnShrOrder.l1 k y0 y1 y2 y3) (laws_FnShrOrder.l1 (k + 1) y0 y1 y2 y3))
  | 0 => ⟨fun _ _ _ r h => by simp [laws_FnShrOrder.l0] at h, fun _ _ _ _ r h => by simp [laws_FnShrOrder.l1] at h⟩
  | k + 1 => by
    obtain ⟨ih0, ih1⟩ := laws_FnShrOrder.mono_l k
    refine ⟨?_, ?_⟩
    · intro y0 y1 y2
      unfold laws_FnShrOrder.l0
      repeat' first
      | (with_reducible exact ih0 _ _ _)
      | (with_reducible exact ih1 _ _ _ _)
      | (with_reducible exact impl_ShrShare.mono _ _ _)
      | (with_reducible exact laws_pwInts.mono _ _ _)
      | (with_reducible exact laws_pwOk.mono _)
      | (with_reducible exact spec_DrawShrShare.mono _ _)
      | (with_reducible exact spec_ShrShare.mono _ _ _)
      | (with_reducible exact LeO.refl _)
      | (with_reducible exact LeO.none _)
      | (with_reducible refine LeO.ite ?_ ?_)
      | (with_reducible refine LeO.bind ?_ (fun _ => ?_))
      | exact ih0 _ _ _
      | exact ih1 _ _ _ _
      | exact impl_ShrShare.mono _ _ _
      | exact laws_pwInts.mono _ _ _
      | exact laws_pwOk.mono _
      | exact spec_DrawShrShare.mono _ _
      | exact spec_ShrShare.mono _ _ _
      | exact LeO.none _
      | refine LeO.ite ?_ ?_
      | refine LeO.bind ?_ (fun _ => ?_)
    · intro y0 y1 y2 y3
      unfold laws_FnShrOrder.l1
      repeat' first
      | (with_reducible exact ih0 _ _ _)
      | (with_reducible exact ih1 _ _ _ _)
      | (with_reducible exact impl_ShrShare.mono _ _ _)
      | (with_reducible exact laws_pwInts.mono _ _ _)
      | (with_reducible exact laws_pwOk.mono _)
      | (with_reducible exact spec_DrawShrShare.mono _ _)
      | (with_reducible exact spec_ShrShare.mono _ _ _)
      | (with_reducible exact LeO.refl _)
      | (with_reducible exact LeO.none _)
      | (with_reducible refine LeO.ite ?_ ?_)
      | (with_reducible refine LeO.bind ?_ (fun _ => ?_))
      | exact ih0 _ _ _
      | exact ih1 _ _ _ _
      | exact impl_ShrShare.mono _ _ _
      | exact laws_pwInts.mono _ _ _
      | exact laws_pwOk.mono _
      | exact spec_DrawShrShare.mono _ _
      | exact spec_ShrShare.mono _ _ _
      | exact LeO.none _
      | refine LeO.ite ?_ ?_
      | refine LeO.bind ?_ (fun _ => ?_)
theorem laws_FnShrOrder.mono : ∀ a0 k, LeO (laws_FnShrOrder.f k a0) (laws_FnShrOrder.f (k + 1) a0) := by
  intro a0 k
  obtain ⟨ih0, ih1⟩ := laws_FnShrOrder.mono_l k
  unfold laws_FnShrOrder.f
  repeat' first
      | (with_reducible exact ih0 _ _ _)
      | (with_reducible exact ih1 _ _ _ _)
      | (with_reducible exact impl_ShrShare.mono _ _ _)
      | (with_reducible exact laws_pwInts.mono _ _ _)
      | (with_reducible exact laws_pwOk.mono _)
      | (with_reducible exact spec_DrawShrShare.mono _ _)
      | (with_reducible exact spec_ShrShare.mono _ _ _)
      | (with_reducible exact LeO.refl _)
      | (with_reducible exact LeO.none _)
      | (with_reducible refine LeO.ite ?_ ?_)
      | (with_reducible refine LeO.bind ?_ (fun _ => ?_))
      | exact ih0 _ _ _
      | exact ih1 _ _ _ _
      | exact impl_ShrShare.mono _ _ _
      | exact laws_pwInts.mono _ _ _
      | exact laws_pwOk.mono _
      | exact spec_DrawShrShare.mono _ _
      | exact spec_ShrShare.mono _ _ _
      | exact LeO.none _
      | refine LeO.ite ?_ ?_
      | refine LeO.bind ?_ (fun _ => ?_)
set_option maxHeartbeats 8000000 in
set_option maxRecDepth 100000 in
theorem laws_FnShrOrder.calls (k : Nat) (A0 : Option Addr) (c0 : Nat) (l0 : List Int) (r : Bool) (w : World) (hr0 : Kd.C (Kd.int .u8) w A0 l0.length l0) (hc0 : l0.length ≤ c0) (h : laws_FnShrOrder.f k l0 = some r) :
    Calls Tryd.prog 5 #[.slice A0 l0.length c0] w fun e w' => e = .returned (.bool r) ∧ Below w.heap.size w w' := by
  have HR0 := Aside0.mk hr0
  have HC0 := Aside0.mk hc0
  clear hr0 hc0
  have HB := Aside0.mk (Below.refl w.heap.size w)
  have H : (if (l0.length : Int) > 1048576 then (some true) else ((spec_DrawShrShare.f k l0).bind fun bt304 => ((impl_ShrShare.f k bt304.1 bt304.2).bind fun t308 => ((spec_ShrShare.f k bt304.1 bt304.2).bind fun t311 => ((laws_pwInts.f k t308 t311).bind fun t314 => (if t314 = true then (laws_FnShrOrder.l0 k bt304.2 t308 0) else (some false))))))) = some r := h
  clear h
  by_cases c2 : (l0.length : Int) > 1048576
  · rw [if_pos c2] at H
    have c2b0 : decide (1048576 < (l0.length : Int)) = true := decide_eq_true c2
    have c2b1 : decide (1048576 < l0.length) = true := decide_eq_true (by omega)
    clear c2
    obtain rfl := Option.some.inj H
    go_enter Tryd.func5, Tryd.ntmps5
    go_wp2
    repeat (go_quiet (fail); try go_wp2)
    go_ret
    exact ⟨by first | rfl | (simp [errW_none, errW_some] <;> rfl) | (simp [*, errW_none, errW_some] <;> rfl), by repeat (first | (with_reducible first | exact HB.out | apply below_alloc | apply pw_below_drewN | apply below_drew1) | exact HB.out)⟩
  · rw [if_neg c2] at H
    have c2b0 : decide (1048576 < (l0.length : Int)) = false := decide_eq_false c2
    have c2b1 : decide (1048576 < l0.length) = false := decide_eq_false (by omega)
    clear c2
    replace H := Option.bind_eq_some_iff.mp H
    obtain ⟨⟨t304, t305⟩, A30, H⟩ := H
    replace H : ((impl_ShrShare.f k t304 t305).bind fun t308 => ((spec_ShrShare.f k t304 t305).bind fun t311 => ((laws_pwInts.f k t308 t311).bind fun t314 => (if t314 = true then (laws_FnShrOrder.l0 k t305 t308 0) else (some false))))) = some r := H
    have A3 := Aside0.mk A30
    clear A30
    replace H := Option.bind_eq_some_iff.mp H
    obtain ⟨t308, A40, H⟩ := H
    replace H : ((spec_ShrShare.f k t304 t305).bind fun t311 => ((laws_pwInts.f k t308 t311).bind fun t314 => (if t314 = true then (laws_FnShrOrder.l0 k t305 t308 0) else (some false)))) = some r := H
    have A4 := Aside0.mk A40
    clear A40
    replace H := Option.bind_eq_some_iff.mp H
    obtain ⟨t311, A50, H⟩ := H
    replace H : ((laws_pwInts.f k t308 t311).bind fun t314 => (if t314 = true then (laws_FnShrOrder.l0 k t305 t308 0) else (some false))) = some r := H
    have A5 := Aside0.mk A50
    clear A50
    replace H := Option.bind_eq_some_iff.mp H
    obtain ⟨t314, A60, H⟩ := H
    replace H : (if t314 = true then (laws_FnShrOrder.l0 k t305 t308 0) else (some false)) = some r := H
    have A6 := Aside0.mk A60
    clear A60
    by_cases c7 : t314 = true
    · subst c7
      have H1 : (laws_FnShrOrder.l0 k t305 t308 0) = some r := by rw [if_pos rfl] at H; exact H
      clear H
      have H := H1
      clear H1
      have H' := Aside0.mk H
      clear H
      go_enter Tryd.func5, Tryd.ntmps5
      go_wp2_with (first | (go_at_call 14; (with_reducible refine (spec_DrawShrShare.calls k _ _ l0 t304 t305 _ ?side1 ?side2 A3.out).mono ?_); (case side1 => repeat (first | exact HR0.out | (with_reducible refine Kd.C_alloc ?_ _) | (with_reducible refine Kd.C_drewN ?_ _) | (with_reducible refine Kd.C_drew ?_))); (case side2 => exact HC0.out); rintro e w8 ⟨v306, rfl, ho0, hb⟩; have n0_ := Aside0.mk (Kd.R_lower ho0 (below_size (by repeat (first | (with_reducible first | exact HB.out | apply below_alloc | apply pw_below_drewN | apply below_drew1) | exact HB.out)))); have n1_ := Aside0.mk (below_step (by repeat (first | (with_reducible first | exact HB.out | apply below_alloc | apply pw_below_drewN | apply below_drew1) | exact HB.out)) hb); clear HB; have HO307 := n0_; have HB := n1_; clear n0_ n1_; (try clear hb); (try clear hb2); (try clear hk); (try clear hi); (try clear ho0); obtain ⟨Ao9, co9, eo9⟩ := Kd.R_slice HO307.out; subst eo9) | (go_at_call 15; (with_reducible refine (impl_ShrShare.calls k t304 _ _ t305 t308 _ ?side1 ?side2 A4.out).mono ?_); (case side1 => repeat (first | exact (Kd.R_reads' HO307.out).2.2 | (with_reducible refine Kd.C_alloc ?_ _) | (with_reducible refine Kd.C_drewN ?_ _) | (with_reducible refine Kd.C_drew ?_))); (case side2 => exact (Kd.R_reads' HO307.out).2.1); rintro e w10 ⟨v309, rfl, ho0, hb⟩; have n0_ := Aside0.mk (Kd.R_elder' (by (with_reducible repeat (first | apply Kd.R_alloc | apply Kd.R_drewN | apply Kd.R_drew)); exact HO307.out) (Kd.R_base ho0) hb); have n1_ := Aside0.mk (Kd.R_lower (Kd.R_new' ho0 (Kd.R_lt (by (with_reducible repeat (first | apply Kd.R_alloc | apply Kd.R_drewN | apply Kd.R_drew)); exact HO307.out))) (below_size (by repeat (first | (with_reducible first | exact HB.out | apply below_alloc | apply pw_below_drewN | apply below_drew1) | exact HB.out)))); have n2_ := Aside0.mk (below_step (by repeat (first | (with_reducible first | exact HB.out | apply below_alloc | apply pw_below_drewN | apply below_drew1) | exact HB.out)) hb); clear HO307; clear HB; have HO307 := n0_; have HO310 := n1_; have HB := n2_; clear n0_ n1_ n2_; (try clear hb); (try clear hb2); (try clear hk); (try clear hi); (try clear ho0)) | (go_at_call 17; (with_reducible refine (spec_ShrShare.calls k t304 _ _ t305 t311 _ ?side1 ?side2 A5.out).mono ?_); (case side1 => repeat (first | exact (Kd.R_reads' HO307.out).2.2 | (with_reducible refine Kd.C_alloc ?_ _) | (with_reducible refine Kd.C_drewN ?_ _) | (with_reducible refine Kd.C_drew ?_))); (case side2 => exact (Kd.R_reads' HO307.out).2.1); rintro e w11 ⟨v312, rfl, ho0, hb⟩; have n0_ := Aside0.mk (Kd.R_elder' (by (with_reducible repeat (first | apply Kd.R_alloc | apply Kd.R_drewN | apply Kd.R_drew)); exact HO307.out) (Kd.R_base ho0) hb); have n1_ := Aside0.mk (Kd.R_elder' (by (with_reducible repeat (first | apply Kd.R_alloc | apply Kd.R_drewN | apply Kd.R_drew)); exact HO310.out) (Kd.R_base ho0) hb); have n2_ := Aside0.mk (Kd.R_lower (Kd.R_new' (Kd.R_new' ho0 (Kd.R_lt (by (with_reducible repeat (first | apply Kd.R_alloc | apply Kd.R_drewN | apply Kd.R_drew)); exact HO307.out))) (Kd.R_lt (by (with_reducible repeat (first | apply Kd.R_alloc | apply Kd.R_drewN | apply Kd.R_drew)); exact HO310.out))) (below_size (by repeat (first | (with_reducible first | exact HB.out | apply below_alloc | apply pw_below_drewN | apply below_drew1) | exact HB.out)))); have n3_ := Aside0.mk (below_step (by repeat (first | (with_reducible first | exact HB.out | apply below_alloc | apply pw_below_drewN | apply below_drew1) | exact HB.out)) hb); clear HO307; clear HO310; clear HB; have HO307 := n0_; have HO310 := n1_; have HO313 := n2_; have HB := n3_; clear n0_ n1_ n2_ n3_; (try clear hb); (try clear hb2); (try clear hk); (try clear hi); (try clear ho0); obtain ⟨Ao12, co12, eo12⟩ := Kd.R_slice HO310.out; subst eo12; obtain ⟨Ao13, co13, eo13⟩ := Kd.R_slice HO313.out; subst eo13) | (go_at_call 16; (with_reducible refine (laws_pwInts.calls k _ _ t308 _ _ t311 true _ ?side1 ?side2 ?side3 ?side4 A6.out).mono ?_); (case side1 => repeat (first | exact (Kd.R_reads' HO310.out).2.2 | (with_reducible refine Kd.C_alloc ?_ _) | (with_reducible refine Kd.C_drewN ?_ _) | (with_reducible refine Kd.C_drew ?_))); (case side2 => exact (Kd.R_reads' HO310.out).2.1); (case side3 => repeat (first | exact (Kd.R_reads' HO313.out).2.2 | (with_reducible refine Kd.C_alloc ?_ _) | (with_reducible refine Kd.C_drewN ?_ _) | (with_reducible refine Kd.C_drew ?_))); (case side4 => exact (Kd.R_reads' HO313.out).2.1); rintro e w' ⟨rfl, ⟨nd, rfl⟩⟩; (try first | exact ⟨rfl, _, World.drewN_drewN _ _ _⟩ | exact ⟨rfl, _, Eq.trans (World.drewN_drewN _ _ _) (congrArg (World.drewN _) (Nat.add_assoc _ _ _))⟩)))
      repeat (go_quiet (first | (go_at_call 14; (with_reducible refine (spec_DrawShrShare.calls k _ _ l0 t304 t305 _ ?side1 ?side2 A3.out).mono ?_); (case side1 => repeat (first | exact HR0.out | (with_reducible refine Kd.C_alloc ?_ _) | (with_reducible refine Kd.C_drewN ?_ _) | (with_reducible refine Kd.C_drew ?_))); (case side2 => exact HC0.out); rintro e w8 ⟨v306, rfl, ho0, hb⟩; have n0_ := Aside0.mk (Kd.R_lower ho0 (below_size (by repeat (first | (with_reducible first | exact HB.out | apply below_alloc | apply pw_below_drewN | apply below_drew1) | exact HB.out)))); have n1_ := Aside0.mk (below_step (by repeat (first | (with_reducible first | exact HB.out | apply below_alloc | apply pw_below_drewN | apply below_drew1) | exact HB.out)) hb); clear HB; have HO307 := n0_; have HB := n1_; clear n0_ n1_; (try clear hb); (try clear hb2); (try clear hk); (try clear hi); (try clear ho0); obtain ⟨Ao9, co9, eo9⟩ := Kd.R_slice HO307.out; subst eo9) | (go_at_call 15; (with_reducible refine (impl_ShrShare.calls k t304 _ _ t305 t308 _ ?side1 ?side2 A4.out).mono ?_); (case side1 => repeat (first | exact (Kd.R_reads' HO307.out).2.2 | (with_reducible refine Kd.C_alloc ?_ _) | (with_reducible refine Kd.C_drewN ?_ _) | (with_reducible refine Kd.C_drew ?_))); (case side2 => exact (Kd.R_reads' HO307.out).2.1); rintro e w10 ⟨v309, rfl, ho0, hb⟩; have n0_ := Aside0.mk (Kd.R_elder' (by (with_reducible repeat (first | apply Kd.R_alloc | apply Kd.R_drewN | apply Kd.R_drew)); exact HO307.out) (Kd.R_base ho0) hb); have n1_ := Aside0.mk (Kd.R_lower (Kd.R_new' ho0 (Kd.R_lt (by (with_reducible repeat (first | apply Kd.R_alloc | apply Kd.R_drewN | apply Kd.R_drew)); exact HO307.out))) (below_size (by repeat (first | (with_reducible first | exact HB.out | apply below_alloc | apply pw_below_drewN | apply below_drew1) | exact HB.out)))); have n2_ := Aside0.mk (below_step (by repeat (first | (with_reducible first | exact HB.out | apply below_alloc | apply pw_below_drewN | apply below_drew1) | exact HB.out)) hb); clear HO307; clear HB; have HO307 := n0_; have HO310 := n1_; have HB := n2_; clear n0_ n1_ n2_; (try clear hb); (try clear hb2); (try clear hk); (try clear hi); (try clear ho0)) | (go_at_call 17; (with_reducible refine (spec_ShrShare.calls k t304 _ _ t305 t311 _ ?side1 ?side2 A5.out).mono ?_); (case side1 => repeat (first | exact (Kd.R_reads' HO307.out).2.2 | (with_reducible refine Kd.C_alloc ?_ _) | (with_reducible refine Kd.C_drewN ?_ _) | (with_reducible refine Kd.C_drew ?_))); (case side2 => exact (Kd.R_reads' HO307.out).2.1); rintro e w11 ⟨v312, rfl, ho0, hb⟩; have n0_ := Aside0.mk (Kd.R_elder' (by (with_reducible repeat (first | apply Kd.R_alloc | apply Kd.R_drewN | apply Kd.R_drew)); exact HO307.out) (Kd.R_base ho0) hb); have n1_ := Aside0.mk (Kd.R_elder' (by (with_reducible repeat (first | apply Kd.R_alloc | apply Kd.R_drewN | apply Kd.R_drew)); exact HO310.out) (Kd.R_base ho0) hb); have n2_ := Aside0.mk (Kd.R_lower (Kd.R_new' (Kd.R_new' ho0 (Kd.R_lt (by (with_reducible repeat (first | apply Kd.R_alloc | apply Kd.R_drewN | apply Kd.R_drew)); exact HO307.out))) (Kd.R_lt (by (with_reducible repeat (first | apply Kd.R_alloc | apply Kd.R_drewN | apply Kd.R_drew)); exact HO310.out))) (below_size (by repeat (first | (with_reducible first | exact HB.out | apply below_alloc | apply pw_below_drewN | apply below_drew1) | exact HB.out)))); have n3_ := Aside0.mk (below_step (by repeat (first | (with_reducible first | exact HB.out | apply below_alloc | apply pw_below_drewN | apply below_drew1) | exact HB.out)) hb); clear HO307; clear HO310; clear HB; have HO307 := n0_; have HO310 := n1_; have HO313 := n2_; have HB := n3_; clear n0_ n1_ n2_ n3_; (try clear hb); (try clear hb2); (try clear hk); (try clear hi); (try clear ho0); obtain ⟨Ao12, co12, eo12⟩ := Kd.R_slice HO310.out; subst eo12; obtain ⟨Ao13, co13, eo13⟩ := Kd.R_slice HO313.out; subst eo13) | (go_at_call 16; (with_reducible refine (laws_pwInts.calls k _ _ t308 _ _ t311 true _ ?side1 ?side2 ?side3 ?side4 A6.out).mono ?_); (case side1 => repeat (first | exact (Kd.R_reads' HO310.out).2.2 | (with_reducible refine Kd.C_alloc ?_ _) | (with_reducible refine Kd.C_drewN ?_ _) | (with_reducible refine Kd.C_drew ?_))); (case side2 => exact (Kd.R_reads' HO310.out).2.1); (case side3 => repeat (first | exact (Kd.R_reads' HO313.out).2.2 | (with_reducible refine Kd.C_alloc ?_ _) | (with_reducible refine Kd.C_drewN ?_ _) | (with_reducible refine Kd.C_drew ?_))); (case side4 => exact (Kd.R_reads' HO313.out).2.1); rintro e w' ⟨rfl, ⟨nd, rfl⟩⟩; (try first | exact ⟨rfl, _, World.drewN_drewN _ _ _⟩ | exact ⟨rfl, _, Eq.trans (World.drewN_drewN _ _ _) (congrArg (World.drewN _) (Nat.add_assoc _ _ _))⟩))); try go_wp2_with (first | (go_at_call 14; (with_reducible refine (spec_DrawShrShare.calls k _ _ l0 t304 t305 _ ?side1 ?side2 A3.out).mono ?_); (case side1 => repeat (first | exact HR0.out | (with_reducible refine Kd.C_alloc ?_ _) | (with_reducible refine Kd.C_drewN ?_ _) | (with_reducible refine Kd.C_drew ?_))); (case side2 => exact HC0.out); rintro e w8 ⟨v306, rfl, ho0, hb⟩; have n0_ := Aside0.mk (Kd.R_lower ho0 (below_size (by repeat (first | (with_reducible first | exact HB.out | apply below_alloc | apply pw_below_drewN | apply below_drew1) | exact HB.out)))); have n1_ := Aside0.mk (below_step (by repeat (first | (with_reducible first | exact HB.out | apply below_alloc | apply pw_below_drewN | apply below_drew1) | exact HB.out)) hb); clear HB; have HO307 := n0_; have HB := n1_; clear n0_ n1_; (try clear hb); (try clear hb2); (try clear hk); (try clear hi); (try clear ho0); obtain ⟨Ao9, co9, eo9⟩ := Kd.R_slice HO307.out; subst eo9) | (go_at_call 15; (with_reducible refine (impl_ShrShare.calls k t304 _ _ t305 t308 _ ?side1 ?side2 A4.out).mono ?_); (case side1 => repeat (first | exact (Kd.R_reads' HO307.out).2.2 | (with_reducible refine Kd.C_alloc ?_ _) | (with_reducible refine Kd.C_drewN ?_ _) | (with_reducible refine Kd.C_drew ?_))); (case side2 => exact (Kd.R_reads' HO307.out).2.1); rintro e w10 ⟨v309, rfl, ho0, hb⟩; have n0_ := Aside0.mk (Kd.R_elder' (by (with_reducible repeat (first | apply Kd.R_alloc | apply Kd.R_drewN | apply Kd.R_drew)); exact HO307.out) (Kd.R_base ho0) hb); have n1_ := Aside0.mk (Kd.R_lower (Kd.R_new' ho0 (Kd.R_lt (by (with_reducible repeat (first | apply Kd.R_alloc | apply Kd.R_drewN | apply Kd.R_drew)); exact HO307.out))) (below_size (by repeat (first | (with_reducible first | exact HB.out | apply below_alloc | apply pw_below_drewN | apply below_drew1) | exact HB.out)))); have n2_ := Aside0.mk (below_step (by repeat (first | (with_reducible first | exact HB.out | apply below_alloc | apply pw_below_drewN | apply below_drew1) | exact HB.out)) hb); clear HO307; clear HB; have HO307 := n0_; have HO310 := n1_; have HB := n2_; clear n0_ n1_ n2_; (try clear hb); (try clear hb2); (try clear hk); (try clear hi); (try clear ho0)) | (go_at_call 17; (with_reducible refine (spec_ShrShare.calls k t304 _ _ t305 t311 _ ?side1 ?side2 A5.out).mono ?_); (case side1 => repeat (first | exact (Kd.R_reads' HO307.out).2.2 | (with_reducible refine Kd.C_alloc ?_ _) | (with_reducible refine Kd.C_drewN ?_ _) | (with_reducible refine Kd.C_drew ?_))); (case side2 => exact (Kd.R_reads' HO307.out).2.1); rintro e w11 ⟨v312, rfl, ho0, hb⟩; have n0_ := Aside0.mk (Kd.R_elder' (by (with_reducible repeat (first | apply Kd.R_alloc | apply Kd.R_drewN | apply Kd.R_drew)); exact HO307.out) (Kd.R_base ho0) hb); have n1_ := Aside0.mk (Kd.R_elder' (by (with_reducible repeat (first | apply Kd.R_alloc | apply Kd.R_drewN | apply Kd.R_drew)); exact HO310.out) (Kd.R_base ho0) hb); have n2_ := Aside0.mk (Kd.R_lower (Kd.R_new' (Kd.R_new' ho0 (Kd.R_lt (by (with_reducible repeat (first | apply Kd.R_alloc | apply Kd.R_drewN | apply Kd.R_drew)); exact HO307.out))) (Kd.R_lt (by (with_reducible repeat (first | apply Kd.R_alloc | apply Kd.R_drewN | apply Kd.R_drew)); exact HO310.out))) (below_size (by repeat (first | (with_reducible first | exact HB.out | apply below_alloc | apply pw_below_drewN | apply below_drew1) | exact HB.out)))); have n3_ := Aside0.mk (below_step (by repeat (first | (with_reducible first | exact HB.out | apply below_alloc | apply pw_below_drewN | apply below_drew1) | exact HB.out)) hb); clear HO307; clear HO310; clear HB; have HO307 := n0_; have HO310 := n1_; have HO313 := n2_; have HB := n3_; clear n0_ n1_ n2_ n3_; (try clear hb); (try clear hb2); (try clear hk); (try clear hi); (try clear ho0); obtain ⟨Ao12, co12, eo12⟩ := Kd.R_slice HO310.out; subst eo12; obtain ⟨Ao13, co13, eo13⟩ := Kd.R_slice HO313.out; subst eo13) | (go_at_call 16; (with_reducible refine (laws_pwInts.calls k _ _ t308 _ _ t311 true _ ?side1 ?side2 ?side3 ?side4 A6.out).mono ?_); (case side1 => repeat (first | exact (Kd.R_reads' HO310.out).2.2 | (with_reducible refine Kd.C_alloc ?_ _) | (with_reducible refine Kd.C_drewN ?_ _) | (with_reducible refine Kd.C_drew ?_))); (case side2 => exact (Kd.R_reads' HO310.out).2.1); (case side3 => repeat (first | exact (Kd.R_reads' HO313.out).2.2 | (with_reducible refine Kd.C_alloc ?_ _) | (with_reducible refine Kd.C_drewN ?_ _) | (with_reducible refine Kd.C_drew ?_))); (case side4 => exact (Kd.R_reads' HO313.out).2.1); rintro e w' ⟨rfl, ⟨nd, rfl⟩⟩; (try first | exact ⟨rfl, _, World.drewN_drewN _ _ _⟩ | exact ⟨rfl, _, Eq.trans (World.drewN_drewN _ _ _) (congrArg (World.drewN _) (Nat.add_assoc _ _ _))⟩))))
      go_loopg [6] k (fun kq v6 w' => ∃ (x6_1 : Int), v6 = .int .i64 x6_1 ∧ Aside0 (laws_FnShrOrder.l0 kq t305 t308 x6_1 = some r) ∧ Aside0 (kq ≤ k) ∧ Aside0 (Kd.R (Kd.int .i64) 3 w' w.heap.size (fun k_ => some k_ ≠ ((.slice Ao12 t308.length co12) : Value).ownBlock) (.slice Ao9 t305.length co9) t305) ∧ Aside0 (Kd.R (Kd.int .i64) 3 w' w.heap.size (fun k_ => some k_ ≠ ((.slice Ao9 t305.length co9) : Value).ownBlock) (.slice Ao12 t308.length co12) t308) ∧ Aside0 (Below w.heap.size w w'))
      case atStart => exact ⟨(0), (by first | rfl | (simp; done) | (simp [*]; done)), H', ⟨Nat.le_refl _⟩, ⟨by (with_reducible repeat (first | apply Kd.R_alloc | apply Kd.R_drewN | apply Kd.R_drew)); exact Kd.R_mono HO307.out (fun _ hk => hk.1.2)⟩, ⟨by (with_reducible repeat (first | apply Kd.R_alloc | apply Kd.R_drewN | apply Kd.R_drew)); exact Kd.R_mono HO310.out (fun _ hk => hk.1.2)⟩, ⟨by repeat (first | (with_reducible first | exact HB.out | apply below_alloc | apply pw_below_drewN | apply below_drew1) | exact HB.out)⟩⟩
      case round =>
        clear H'
        try clear c2
        try clear c2b0
        try clear c2b1
        try clear p2
        try clear c5
        try clear c7
        obtain ⟨x6_1, rfl, HA, HK1, HO_4, HO_5, HB⟩ := hrel
        cases gk with
        | zero => exact absurd HA.out (by simp [laws_FnShrOrder.l0])
        | succ k1 =>
          have H := HA.out
          clear HA
          simp only [laws_FnShrOrder.l0] at H
          by_cases c14 : x6_1 < (t308.length : Int)
          · rw [if_pos c14] at H
            have c14b0 : decide (x6_1 < (t308.length : Int)) = true := decide_eq_true c14
            clear c14
            have H' := Aside0.mk H
            clear H
            go_wp2
            repeat (go_quiet (fail); try go_wp2)
            go_loopg [7] k1 (fun kq v7 w' => ∃ (x7_2 : Int), v7 = .int .i64 x7_2 ∧ Aside0 (laws_FnShrOrder.l1 kq t305 t308 x6_1 x7_2 = some r) ∧ Aside0 (kq ≤ k1) ∧ Aside0 (Kd.R (Kd.int .i64) 3 w' w.heap.size (fun k_ => some k_ ≠ ((.slice Ao12 t308.length co12) : Value).ownBlock) (.slice Ao9 t305.length co9) t305) ∧ Aside0 (Kd.R (Kd.int .i64) 3 w' w.heap.size (fun k_ => some k_ ≠ ((.slice Ao9 t305.length co9) : Value).ownBlock) (.slice Ao12 t308.length co12) t308) ∧ Aside0 (Below w.heap.size w w'))
            case atStart => exact ⟨(0), (by first | rfl | (simp; done) | (simp [*]; done)), H', ⟨Nat.le_refl _⟩, ⟨by (with_reducible repeat (first | apply Kd.R_alloc | apply Kd.R_drewN | apply Kd.R_drew)); exact HO_4.out⟩, ⟨by (with_reducible repeat (first | apply Kd.R_alloc | apply Kd.R_drewN | apply Kd.R_drew)); exact HO_5.out⟩, ⟨by repeat (first | (with_reducible first | exact HB.out | apply below_alloc | apply pw_below_drewN | apply below_drew1) | exact HB.out)⟩⟩
            case round =>
              clear H'
              try clear c1
              try clear c2
              try clear c2b0
              try clear c2b1
              try clear p2
              try clear c5
              try clear c7
              try clear c14
              try clear c14b0
              try clear p2
              obtain ⟨x7_2, rfl, HA, HK2, HO_4, HO_5, HB⟩ := hrel
              cases gk with
              | zero => exact absurd HA.out (by simp [laws_FnShrOrder.l1])
              | succ k2 =>
                have H := HA.out
                clear HA
                simp only [laws_FnShrOrder.l1] at H
                by_cases c15 : x7_2 < (t308.length : Int)
                · rw [if_pos c15] at H
                  have c15b0 : decide (x7_2 < (t308.length : Int)) = true := decide_eq_true c15
                  clear c15
                  by_cases c16 : 0 ≤ x6_1
                  · rw [if_pos c16] at H
                    have c16b0 : decide (0 ≤ x6_1) = true := decide_eq_true c16
                    clear c16
                    by_cases c17 : x6_1 < (t305.length : Int)
                    · rw [if_pos c17] at H
                      have c17b0 : decide (x6_1 < (t305.length : Int)) = true := decide_eq_true c17
                      clear c17
                      by_cases c18 : 0 ≤ x7_2
                      · rw [if_pos c18] at H
                        have c18b0 : decide (0 ≤ x7_2) = true := decide_eq_true c18
                        clear c18
                        by_cases c19 : x7_2 < (t305.length : Int)
                        · rw [if_pos c19] at H
                          have c19b0 : decide (x7_2 < (t305.length : Int)) = true := decide_eq_true c19
                          clear c19
                          by_cases c20 : (rd t305 x6_1) > (rd t305 x7_2)
                          · rw [if_pos c20] at H
                            have c20b0 : decide ((rd t305 x7_2) < (rd t305 x6_1)) = true := decide_eq_true c20
                            clear c20
                            by_cases c21 : x6_1 < (t308.length : Int)
                            · rw [if_pos c21] at H
                              have c21b0 : decide (x6_1 < (t308.length : Int)) = true := decide_eq_true c21
                              clear c21
                              by_cases c22 : (rd t308 x6_1) < (rd t308 x7_2)
                              · rw [if_pos c22] at H
                                have c22b0 : decide ((rd t308 x6_1) < (rd t308 x7_2)) = true := decide_eq_true c22
                                clear c22
                                obtain rfl := Option.some.inj H
                                have p316 : 0 ≤ (x6_1 : Int) := of_decide_eq_true (by first | (with_reducible assumption) | assumption)
                                have q316 : x6_1 < (t305.length : Int) := of_decide_eq_true (by first | (with_reducible assumption) | assumption)
                                obtain ⟨ad316, e316, hx316_0⟩ := Kd.at_int (Kd.R_reads' HO_4.out).2.2 x6_1 p316 q316
                                cases e316
                                replace p316 := eq_true p316
                                replace q316 := eq_true q316
                                have p317 : 0 ≤ (x7_2 : Int) := of_decide_eq_true (by first | (with_reducible assumption) | assumption)
                                have q317 : x7_2 < (t305.length : Int) := of_decide_eq_true (by first | (with_reducible assumption) | assumption)
                                obtain ⟨ad317, e317, hx317_0⟩ := Kd.at_int (Kd.R_reads' HO_4.out).2.2 x7_2 p317 q317
                                obtain rfl : ad316 = ad317 := (by injection e317)
                                replace p317 := eq_true p317
                                replace q317 := eq_true q317
                                have p318 : 0 ≤ (x6_1 : Int) := of_decide_eq_true (by first | (with_reducible assumption) | assumption)
                                have q318 : x6_1 < (t308.length : Int) := of_decide_eq_true (by first | (with_reducible assumption) | assumption)
                                obtain ⟨ad318, e318, hx318_0⟩ := Kd.at_int (Kd.R_reads' HO_5.out).2.2 x6_1 p318 q318
                                cases e318
                                replace p318 := eq_true p318
                                replace q318 := eq_true q318
                                have p319 : 0 ≤ (x7_2 : Int) := of_decide_eq_true (by first | (with_reducible assumption) | assumption)
                                have q319 : x7_2 < (t308.length : Int) := of_decide_eq_true (by first | (with_reducible assumption) | assumption)
                                obtain ⟨ad319, e319, hx319_0⟩ := Kd.at_int (Kd.R_reads' HO_5.out).2.2 x7_2 p319 q319
                                obtain rfl : ad318 = ad319 := (by injection e319)
                                replace p319 := eq_true p319
                                replace q319 := eq_true q319
                                go_wp2
                                repeat (go_quiet (fail); try go_wp2)
                                go_ret
                                exact ⟨by first | rfl | (simp [errW_none, errW_some] <;> rfl) | (simp [*, errW_none, errW_some] <;> rfl), by repeat (first | (with_reducible first | exact HB.out | apply below_alloc | apply pw_below_drewN | apply below_drew1) | exact HB.out)⟩
                              · rw [if_neg c22] at H
                                have c22b0 : decide ((rd t308 x6_1) < (rd t308 x7_2)) = false := decide_eq_false c22
                                clear c22
                                by_cases c23 : (rd t305 x6_1) = (rd t305 x7_2)
                                · rw [if_pos c23] at H
                                  have c23b0 : ((rd t305 x6_1) == (rd t305 x7_2)) = true := beq_iff_eq.mpr c23
                                  have c23b1 : ((rd t305 x6_1) != (rd t305 x7_2)) = false := bne_eq_false_iff_eq.mpr c23
                                  clear c23
                                  by_cases c24 : x6_1 < x7_2
                                  · rw [if_pos c24] at H
                                    have c24b0 : decide (x6_1 < x7_2) = true := decide_eq_true c24
                                    clear c24
                                    by_cases c25 : (rd t308 x6_1) > (wrap64 ((rd t308 x7_2) + 1))
                                    · rw [if_pos c25] at H
                                      have c25b0 : decide ((wrap64 ((rd t308 x7_2) + 1)) < (rd t308 x6_1)) = true := decide_eq_true c25
                                      clear c25
                                      obtain rfl := Option.some.inj H
                                      have p316 : 0 ≤ (x6_1 : Int) := of_decide_eq_true (by first | (with_reducible assumption) | assumption)
                                      have q316 : x6_1 < (t305.length : Int) := of_decide_eq_true (by first | (with_reducible assumption) | assumption)
                                      obtain ⟨ad316, e316, hx316_0⟩ := Kd.at_int (Kd.R_reads' HO_4.out).2.2 x6_1 p316 q316
                                      cases e316
                                      replace p316 := eq_true p316
                                      replace q316 := eq_true q316
                                      have p317 : 0 ≤ (x7_2 : Int) := of_decide_eq_true (by first | (with_reducible assumption) | assumption)
                                      have q317 : x7_2 < (t305.length : Int) := of_decide_eq_true (by first | (with_reducible assumption) | assumption)
                                      obtain ⟨ad317, e317, hx317_0⟩ := Kd.at_int (Kd.R_reads' HO_4.out).2.2 x7_2 p317 q317
                                      obtain rfl : ad316 = ad317 := (by injection e317)
                                      replace p317 := eq_true p317
                                      replace q317 := eq_true q317
                                      have p318 : 0 ≤ (x6_1 : Int) := of_decide_eq_true (by first | (with_reducible assumption) | assumption)
                                      have q318 : x6_1 < (t308.length : Int) := of_decide_eq_true (by first | (with_reducible assumption) | assumption)
                                      obtain ⟨ad318, e318, hx318_0⟩ := Kd.at_int (Kd.R_reads' HO_5.out).2.2 x6_1 p318 q318
                                      cases e318
                                      replace p318 := eq_true p318
                                      replace q318 := eq_true q318
                                      have p319 : 0 ≤ (x7_2 : Int) := of_decide_eq_true (by first | (with_reducible assumption) | assumption)
                                      have q319 : x7_2 < (t308.length : Int) := of_decide_eq_true (by first | (with_reducible assumption) | assumption)
                                      obtain ⟨ad319, e319, hx319_0⟩ := Kd.at_int (Kd.R_reads' HO_5.out).2.2 x7_2 p319 q319
                                      obtain rfl : ad318 = ad319 := (by injection e319)
                                      replace p319 := eq_true p319
                                      replace q319 := eq_true q319
                                      have p320 : 0 ≤ (x6_1 : Int) := of_decide_eq_true (by first | (with_reducible assumption) | assumption)
                                      have q320 : x6_1 < (t305.length : Int) := of_decide_eq_true (by first | (with_reducible assumption) | assumption)
                                      obtain ⟨ad320, e320, hx320_0⟩ := Kd.at_int (Kd.R_reads' HO_4.out).2.2 x6_1 p320 q320
                                      obtain rfl : ad316 = ad320 := (by injection e320)
                                      replace p320 := eq_true p320
                                      replace q320 := eq_true q320
                                      have p321 : 0 ≤ (x7_2 : Int) := of_decide_eq_true (by first | (with_reducible assumption) | assumption)
                                      have q321 : x7_2 < (t305.length : Int) := of_decide_eq_true (by first | (with_reducible assumption) | assumption)
                                      obtain ⟨ad321, e321, hx321_0⟩ := Kd.at_int (Kd.R_reads' HO_4.out).2.2 x7_2 p321 q321
                                      obtain rfl : ad316 = ad321 := (by injection e321)
                                      replace p321 := eq_true p321
                                      replace q321 := eq_true q321
                                      have p322 : 0 ≤ (x6_1 : Int) := of_decide_eq_true (by first | (with_reducible assumption) | assumption)
                                      have q322 : x6_1 < (t308.length : Int) := of_decide_eq_true (by first | (with_reducible assumption) | assumption)
                                      obtain ⟨ad322, e322, hx322_0⟩ := Kd.at_int (Kd.R_reads' HO_5.out).2.2 x6_1 p322 q322
                                      obtain rfl : ad318 = ad322 := (by injection e322)
                                      replace p322 := eq_true p322
                                      replace q322 := eq_true q322
                                      have p323 : 0 ≤ (x7_2 : Int) := of_decide_eq_true (by first | (with_reducible assumption) | assumption)
                                      have q323 : x7_2 < (t308.length : Int) := of_decide_eq_true (by first | (with_reducible assumption) | assumption)
                                      obtain ⟨ad323, e323, hx323_0⟩ := Kd.at_int (Kd.R_reads' HO_5.out).2.2 x7_2 p323 q323
                                      obtain rfl : ad318 = ad323 := (by injection e323)
                                      replace p323 := eq_true p323
                                      replace q323 := eq_true q323
                                      have p324 : 0 ≤ (x6_1 : Int) := of_decide_eq_true (by first | (with_reducible assumption) | assumption)
                                      have q324 : x6_1 < (t308.length : Int) := of_decide_eq_true (by first | (with_reducible assumption) | assumption)
                                      obtain ⟨ad324, e324, hx324_0⟩ := Kd.at_int (Kd.R_reads' HO_5.out).2.2 x6_1 p324 q324
                                      obtain rfl : ad318 = ad324 := (by injection e324)
                                      replace p324 := eq_true p324
                                      replace q324 := eq_true q324
                                      have p325 : 0 ≤ (x7_2 : Int) := of_decide_eq_true (by first | (with_reducible assumption) | assumption)
                                      have q325 : x7_2 < (t308.length : Int) := of_decide_eq_true (by first | (with_reducible assumption) | assumption)
                                      obtain ⟨ad325, e325, hx325_0⟩ := Kd.at_int (Kd.R_reads' HO_5.out).2.2 x7_2 p325 q325
                                      obtain rfl : ad318 = ad325 := (by injection e325)
                                      replace p325 := eq_true p325
                                      replace q325 := eq_true q325
                                      go_wp2
                                      repeat (go_quiet (fail); try go_wp2)
                                      go_ret
                                      exact ⟨by first | rfl | (simp [errW_none, errW_some] <;> rfl) | (simp [*, errW_none, errW_some] <;> rfl), by repeat (first | (with_reducible first | exact HB.out | apply below_alloc | apply pw_below_drewN | apply below_drew1) | exact HB.out)⟩
                                    · rw [if_neg c25] at H
                                      have c25b0 : decide ((wrap64 ((rd t308 x7_2) + 1)) < (rd t308 x6_1)) = false := decide_eq_false c25
                                      clear c25
                                      have H' := Aside0.mk H
                                      clear H
                                      have p316 : 0 ≤ (x6_1 : Int) := of_decide_eq_true (by first | (with_reducible assumption) | assumption)
                                      have q316 : x6_1 < (t305.length : Int) := of_decide_eq_true (by first | (with_reducible assumption) | assumption)
                                      obtain ⟨ad316, e316, hx316_0⟩ := Kd.at_int (Kd.R_reads' HO_4.out).2.2 x6_1 p316 q316
                                      cases e316
                                      replace p316 := eq_true p316
                                      replace q316 := eq_true q316
                                      have p317 : 0 ≤ (x7_2 : Int) := of_decide_eq_true (by first | (with_reducible assumption) | assumption)
                                      have q317 : x7_2 < (t305.length : Int) := of_decide_eq_true (by first | (with_reducible assumption) | assumption)
                                      obtain ⟨ad317, e317, hx317_0⟩ := Kd.at_int (Kd.R_reads' HO_4.out).2.2 x7_2 p317 q317
                                      obtain rfl : ad316 = ad317 := (by injection e317)
                                      replace p317 := eq_true p317
                                      replace q317 := eq_true q317
                                      have p318 : 0 ≤ (x6_1 : Int) := of_decide_eq_true (by first | (with_reducible assumption) | assumption)
                                      have q318 : x6_1 < (t308.length : Int) := of_decide_eq_true (by first | (with_reducible assumption) | assumption)
                                      obtain ⟨ad318, e318, hx318_0⟩ := Kd.at_int (Kd.R_reads' HO_5.out).2.2 x6_1 p318 q318
                                      cases e318
                                      replace p318 := eq_true p318
                                      replace q318 := eq_true q318
                                      have p319 : 0 ≤ (x7_2 : Int) := of_decide_eq_true (by first | (with_reducible assumption) | assumption)
                                      have q319 : x7_2 < (t308.length : Int) := of_decide_eq_true (by first | (with_reducible assumption) | assumption)
                                      obtain ⟨ad319, e319, hx319_0⟩ := Kd.at_int (Kd.R_reads' HO_5.out).2.2 x7_2 p319 q319
                                      obtain rfl : ad318 = ad319 := (by injection e319)
                                      replace p319 := eq_true p319
                                      replace q319 := eq_true q319
                                      have p320 : 0 ≤ (x6_1 : Int) := of_decide_eq_true (by first | (with_reducible assumption) | assumption)
                                      have q320 : x6_1 < (t305.length : Int) := of_decide_eq_true (by first | (with_reducible assumption) | assumption)
                                      obtain ⟨ad320, e320, hx320_0⟩ := Kd.at_int (Kd.R_reads' HO_4.out).2.2 x6_1 p320 q320
                                      obtain rfl : ad316 = ad320 := (by injection e320)
                                      replace p320 := eq_true p320
                                      replace q320 := eq_true q320
                                      have p321 : 0 ≤ (x7_2 : Int) := of_decide_eq_true (by first | (with_reducible assumption) | assumption)
                                      have q321 : x7_2 < (t305.length : Int) := of_decide_eq_true (by first | (with_reducible assumption) | assumption)
                                      obtain ⟨ad321, e321, hx321_0⟩ := Kd.at_int (Kd.R_reads' HO_4.out).2.2 x7_2 p321 q321
                                      obtain rfl : ad316 = ad321 := (by injection e321)
                                      replace p321 := eq_true p321
                                      replace q321 := eq_true q321
                                      have p322 : 0 ≤ (x6_1 : Int) := of_decide_eq_true (by first | (with_reducible assumption) | assumption)
                                      have q322 : x6_1 < (t308.length : Int) := of_decide_eq_true (by first | (with_reducible assumption) | assumption)
                                      obtain ⟨ad322, e322, hx322_0⟩ := Kd.at_int (Kd.R_reads' HO_5.out).2.2 x6_1 p322 q322
                                      obtain rfl : ad318 = ad322 := (by injection e322)
                                      replace p322 := eq_true p322
                                      replace q322 := eq_true q322
                                      have p323 : 0 ≤ (x7_2 : Int) := of_decide_eq_true (by first | (with_reducible assumption) | assumption)
                                      have q323 : x7_2 < (t308.length : Int) := of_decide_eq_true (by first | (with_reducible assumption) | assumption)
                                      obtain ⟨ad323, e323, hx323_0⟩ := Kd.at_int (Kd.R_reads' HO_5.out).2.2 x7_2 p323 q323
                                      obtain rfl : ad318 = ad323 := (by injection e323)
                                      replace p323 := eq_true p323
                                      replace q323 := eq_true q323
                                      have p324 : 0 ≤ (x6_1 : Int) := of_decide_eq_true (by first | (with_reducible assumption) | assumption)
                                      have q324 : x6_1 < (t308.length : Int) := of_decide_eq_true (by first | (with_reducible assumption) | assumption)
                                      obtain ⟨ad324, e324, hx324_0⟩ := Kd.at_int (Kd.R_reads' HO_5.out).2.2 x6_1 p324 q324
                                      obtain rfl : ad318 = ad324 := (by injection e324)
                                      replace p324 := eq_true p324
                                      replace q324 := eq_true q324
                                      have p325 : 0 ≤ (x7_2 : Int) := of_decide_eq_true (by first | (with_reducible assumption) | assumption)
                                      have q325 : x7_2 < (t308.length : Int) := of_decide_eq_true (by first | (with_reducible assumption) | assumption)
                                      obtain ⟨ad325, e325, hx325_0⟩ := Kd.at_int (Kd.R_reads' HO_5.out).2.2 x7_2 p325 q325
                                      obtain rfl : ad318 = ad325 := (by injection e325)
                                      replace p325 := eq_true p325
                                      replace q325 := eq_true q325
                                      go_wp2
                                      repeat (go_quiet (fail); try go_wp2)
                                      go_roundg k2
                                      case measure => have := HK1.out; have := HK2.out; omega
                                      case rel => exact ⟨(wrap64 (x7_2 + 1)), (by first | rfl | (simp; done) | (simp [*]; done)), H', ⟨by have := HK1.out; have := HK2.out; omega⟩, ⟨by (with_reducible repeat (first | apply Kd.R_alloc | apply Kd.R_drewN | apply Kd.R_drew)); exact HO_4.out⟩, ⟨by (with_reducible repeat (first | apply Kd.R_alloc | apply Kd.R_drewN | apply Kd.R_drew)); exact HO_5.out⟩, ⟨by repeat (first | (with_reducible first | exact HB.out | apply below_alloc | apply pw_below_drewN | apply below_drew1) | exact HB.out)⟩⟩
                                  · rw [if_neg c24] at H
                                    have c24b0 : decide (x6_1 < x7_2) = false := decide_eq_false c24
                                    clear c24
                                    have H' := Aside0.mk H
                                    clear H
                                    have p316 : 0 ≤ (x6_1 : Int) := of_decide_eq_true (by first | (with_reducible assumption) | assumption)
                                    have q316 : x6_1 < (t305.length : Int) := of_decide_eq_true (by first | (with_reducible assumption) | assumption)
                                    obtain ⟨ad316, e316, hx316_0⟩ := Kd.at_int (Kd.R_reads' HO_4.out).2.2 x6_1 p316 q316
                                    cases e316
                                    replace p316 := eq_true p316
                                    replace q316 := eq_true q316
                                    have p317 : 0 ≤ (x7_2 : Int) := of_decide_eq_true (by first | (with_reducible assumption) | assumption)
                                    have q317 : x7_2 < (t305.length : Int) := of_decide_eq_true (by first | (with_reducible assumption) | assumption)
                                    obtain ⟨ad317, e317, hx317_0⟩ := Kd.at_int (Kd.R_reads' HO_4.out).2.2 x7_2 p317 q317
                                    obtain rfl : ad316 = ad317 := (by injection e317)
                                    replace p317 := eq_true p317
                                    replace q317 := eq_true q317
                                    have p318 : 0 ≤ (x6_1 : Int) := of_decide_eq_true (by first | (with_reducible assumption) | assumption)
                                    have q318 : x6_1 < (t308.length : Int) := of_decide_eq_true (by first | (with_reducible assumption) | assumption)
                                    obtain ⟨ad318, e318, hx318_0⟩ := Kd.at_int (Kd.R_reads' HO_5.out).2.2 x6_1 p318 q318
                                    cases e318
                                    replace p318 := eq_true p318
                                    replace q318 := eq_true q318
                                    have p319 : 0 ≤ (x7_2 : Int) := of_decide_eq_true (by first | (with_reducible assumption) | assumption)
                                    have q319 : x7_2 < (t308.length : Int) := of_decide_eq_true (by first | (with_reducible assumption) | assumption)
                                    obtain ⟨ad319, e319, hx319_0⟩ := Kd.at_int (Kd.R_reads' HO_5.out).2.2 x7_2 p319 q319
                                    obtain rfl : ad318 = ad319 := (by injection e319)
                                    replace p319 := eq_true p319
                                    replace q319 := eq_true q319
                                    have p320 : 0 ≤ (x6_1 : Int) := of_decide_eq_true (by first | (with_reducible assumption) | assumption)
                                    have q320 : x6_1 < (t305.length : Int) := of_decide_eq_true (by first | (with_reducible assumption) | assumption)
                                    obtain ⟨ad320, e320, hx320_0⟩ := Kd.at_int (Kd.R_reads' HO_4.out).2.2 x6_1 p320 q320
                                    obtain rfl : ad316 = ad320 := (by injection e320)
                                    replace p320 := eq_true p320
                                    replace q320 := eq_true q320
                                    have p321 : 0 ≤ (x7_2 : Int) := of_decide_eq_true (by first | (with_reducible assumption) | assumption)
                                    have q321 : x7_2 < (t305.length : Int) := of_decide_eq_true (by first | (with_reducible assumption) | assumption)
                                    obtain ⟨ad321, e321, hx321_0⟩ := Kd.at_int (Kd.R_reads' HO_4.out).2.2 x7_2 p321 q321
                                    obtain rfl : ad316 = ad321 := (by injection e321)
                                    replace p321 := eq_true p321
                                    replace q321 := eq_true q321
                                    go_wp2
                                    repeat (go_quiet (fail); try go_wp2)
                                    go_roundg k2
                                    case measure => have := HK1.out; have := HK2.out; omega
                                    case rel => exact ⟨(wrap64 (x7_2 + 1)), (by first | rfl | (simp; done) | (simp [*]; done)), H', ⟨by have := HK1.out; have := HK2.out; omega⟩, ⟨by (with_reducible repeat (first | apply Kd.R_alloc | apply Kd.R_drewN | apply Kd.R_drew)); exact HO_4.out⟩, ⟨by (with_reducible repeat (first | apply Kd.R_alloc | apply Kd.R_drewN | apply Kd.R_drew)); exact HO_5.out⟩, ⟨by repeat (first | (with_reducible first | exact HB.out | apply below_alloc | apply pw_below_drewN | apply below_drew1) | exact HB.out)⟩⟩
                                · rw [if_neg c23] at H
                                  have c23b0 : ((rd t305 x6_1) == (rd t305 x7_2)) = false := beq_eq_false_iff_ne.mpr c23
                                  have c23b1 : ((rd t305 x6_1) != (rd t305 x7_2)) = true := bne_iff_ne.mpr c23
                                  have H' := Aside0.mk H
                                  clear H
                                  have p316 : 0 ≤ (x6_1 : Int) := of_decide_eq_true (by first | (with_reducible assumption) | assumption)
                                  have q316 : x6_1 < (t305.length : Int) := of_decide_eq_true (by first | (with_reducible assumption) | assumption)
                                  obtain ⟨ad316, e316, hx316_0⟩ := Kd.at_int (Kd.R_reads' HO_4.out).2.2 x6_1 p316 q316
                                  cases e316
                                  replace p316 := eq_true p316
                                  replace q316 := eq_true q316
                                  have p317 : 0 ≤ (x7_2 : Int) := of_decide_eq_true (by first | (with_reducible assumption) | assumption)
                                  have q317 : x7_2 < (t305.length : Int) := of_decide_eq_true (by first | (with_reducible assumption) | assumption)
                                  obtain ⟨ad317, e317, hx317_0⟩ := Kd.at_int (Kd.R_reads' HO_4.out).2.2 x7_2 p317 q317
                                  obtain rfl : ad316 = ad317 := (by injection e317)
                                  replace p317 := eq_true p317
                                  replace q317 := eq_true q317
                                  have p318 : 0 ≤ (x6_1 : Int) := of_decide_eq_true (by first | (with_reducible assumption) | assumption)
                                  have q318 : x6_1 < (t308.length : Int) := of_decide_eq_true (by first | (with_reducible assumption) | assumption)
                                  obtain ⟨ad318, e318, hx318_0⟩ := Kd.at_int (Kd.R_reads' HO_5.out).2.2 x6_1 p318 q318
                                  cases e318
                                  replace p318 := eq_true p318
                                  replace q318 := eq_true q318
                                  have p319 : 0 ≤ (x7_2 : Int) := of_decide_eq_true (by first | (with_reducible assumption) | assumption)
                                  have q319 : x7_2 < (t308.length : Int) := of_decide_eq_true (by first | (with_reducible assumption) | assumption)
                                  obtain ⟨ad319, e319, hx319_0⟩ := Kd.at_int (Kd.R_reads' HO_5.out).2.2 x7_2 p319 q319
                                  obtain rfl : ad318 = ad319 := (by injection e319)
                                  replace p319 := eq_true p319
                                  replace q319 := eq_true q319
                                  have p320 : 0 ≤ (x6_1 : Int) := of_decide_eq_true (by first | (with_reducible assumption) | assumption)
                                  have q320 : x6_1 < (t305.length : Int) := of_decide_eq_true (by first | (with_reducible assumption) | assumption)
                                  obtain ⟨ad320, e320, hx320_0⟩ := Kd.at_int (Kd.R_reads' HO_4.out).2.2 x6_1 p320 q320
                                  obtain rfl : ad316 = ad320 := (by injection e320)
                                  replace p320 := eq_true p320
                                  replace q320 := eq_true q320
                                  have p321 : 0 ≤ (x7_2 : Int) := of_decide_eq_true (by first | (with_reducible assumption) | assumption)
                                  have q321 : x7_2 < (t305.length : Int) := of_decide_eq_true (by first | (with_reducible assumption) | assumption)
                                  obtain ⟨ad321, e321, hx321_0⟩ := Kd.at_int (Kd.R_reads' HO_4.out).2.2 x7_2 p321 q321
                                  obtain rfl : ad316 = ad321 := (by injection e321)
                                  replace p321 := eq_true p321
                                  replace q321 := eq_true q321
                                  go_wp2
                                  repeat (go_quiet (fail); try go_wp2)
                                  go_roundg k2
                                  case measure => have := HK1.out; have := HK2.out; omega
                                  case rel => exact ⟨(wrap64 (x7_2 + 1)), (by first | rfl | (simp; done) | (simp [*]; done)), H', ⟨by have := HK1.out; have := HK2.out; omega⟩, ⟨by (with_reducible repeat (first | apply Kd.R_alloc | apply Kd.R_drewN | apply Kd.R_drew)); exact HO_4.out⟩, ⟨by (with_reducible repeat (first | apply Kd.R_alloc | apply Kd.R_drewN | apply Kd.R_drew)); exact HO_5.out⟩, ⟨by repeat (first | (with_reducible first | exact HB.out | apply below_alloc | apply pw_below_drewN | apply below_drew1) | exact HB.out)⟩⟩
                            · rw [if_neg c21] at H
                              exact absurd H (by simp)
                          · rw [if_neg c20] at H
                            have c20b0 : decide ((rd t305 x7_2) < (rd t305 x6_1)) = false := decide_eq_false c20
                            clear c20
                            by_cases c26 : (rd t305 x6_1) = (rd t305 x7_2)
                            · rw [if_pos c26] at H
                              have c26b0 : ((rd t305 x6_1) == (rd t305 x7_2)) = true := beq_iff_eq.mpr c26
                              have c26b1 : ((rd t305 x6_1) != (rd t305 x7_2)) = false := bne_eq_false_iff_eq.mpr c26
                              clear c26
                              by_cases c27 : x6_1 < x7_2
                              · rw [if_pos c27] at H
                                have c27b0 : decide (x6_1 < x7_2) = true := decide_eq_true c27
                                clear c27
                                by_cases c28 : x6_1 < (t308.length : Int)
                                · rw [if_pos c28] at H
                                  have c28b0 : decide (x6_1 < (t308.length : Int)) = true := decide_eq_true c28
                                  clear c28
                                  by_cases c29 : (rd t308 x6_1) < (rd t308 x7_2)
                                  · rw [if_pos c29] at H
                                    have c29b0 : decide ((rd t308 x6_1) < (rd t308 x7_2)) = true := decide_eq_true c29
                                    clear c29
                                    obtain rfl := Option.some.inj H
                                    have p316 : 0 ≤ (x6_1 : Int) := of_decide_eq_true (by first | (with_reducible assumption) | assumption)
                                    have q316 : x6_1 < (t305.length : Int) := of_decide_eq_true (by first | (with_reducible assumption) | assumption)
                                    obtain ⟨ad316, e316, hx316_0⟩ := Kd.at_int (Kd.R_reads' HO_4.out).2.2 x6_1 p316 q316
                                    cases e316
                                    replace p316 := eq_true p316
                                    replace q316 := eq_true q316
                                    have p317 : 0 ≤ (x7_2 : Int) := of_decide_eq_true (by first | (with_reducible assumption) | assumption)
                                    have q317 : x7_2 < (t305.length : Int) := of_decide_eq_true (by first | (with_reducible assumption) | assumption)
                                    obtain ⟨ad317, e317, hx317_0⟩ := Kd.at_int (Kd.R_reads' HO_4.out).2.2 x7_2 p317 q317
                                    obtain rfl : ad316 = ad317 := (by injection e317)
                                    replace p317 := eq_true p317
                                    replace q317 := eq_true q317
                                    have p326 : 0 ≤ (x6_1 : Int) := of_decide_eq_true (by first | (with_reducible assumption) | assumption)
                                    have q326 : x6_1 < (t305.length : Int) := of_decide_eq_true (by first | (with_reducible assumption) | assumption)
                                    obtain ⟨ad326, e326, hx326_0⟩ := Kd.at_int (Kd.R_reads' HO_4.out).2.2 x6_1 p326 q326
                                    obtain rfl : ad316 = ad326 := (by injection e326)
                                    replace p326 := eq_true p326
                                    replace q326 := eq_true q326
                                    have p327 : 0 ≤ (x7_2 : Int) := of_decide_eq_true (by first | (with_reducible assumption) | assumption)
                                    have q327 : x7_2 < (t305.length : Int) := of_decide_eq_true (by first | (with_reducible assumption) | assumption)
                                    obtain ⟨ad327, e327, hx327_0⟩ := Kd.at_int (Kd.R_reads' HO_4.out).2.2 x7_2 p327 q327
                                    obtain rfl : ad316 = ad327 := (by injection e327)
                                    replace p327 := eq_true p327
                                    replace q327 := eq_true q327
                                    have p328 : 0 ≤ (x6_1 : Int) := of_decide_eq_true (by first | (with_reducible assumption) | assumption)
                                    have q328 : x6_1 < (t308.length : Int) := of_decide_eq_true (by first | (with_reducible assumption) | assumption)
                                    obtain ⟨ad328, e328, hx328_0⟩ := Kd.at_int (Kd.R_reads' HO_5.out).2.2 x6_1 p328 q328
                                    cases e328
                                    replace p328 := eq_true p328
                                    replace q328 := eq_true q328
                                    have p329 : 0 ≤ (x7_2 : Int) := of_decide_eq_true (by first | (with_reducible assumption) | assumption)
                                    have q329 : x7_2 < (t308.length : Int) := of_decide_eq_true (by first | (with_reducible assumption) | assumption)
                                    obtain ⟨ad329, e329, hx329_0⟩ := Kd.at_int (Kd.R_reads' HO_5.out).2.2 x7_2 p329 q329
                                    obtain rfl : ad328 = ad329 := (by injection e329)
                                    replace p329 := eq_true p329
                                    replace q329 := eq_true q329
                                    go_wp2
                                    repeat (go_quiet (fail); try go_wp2)
                                    go_ret
                                    exact ⟨by first | rfl | (simp [errW_none, errW_some] <;> rfl) | (simp [*, errW_none, errW_some] <;> rfl), by repeat (first | (with_reducible first | exact HB.out | apply below_alloc | apply pw_below_drewN | apply below_drew1) | exact HB.out)⟩
                                  · rw [if_neg c29] at H
                                    have c29b0 : decide ((rd t308 x6_1) < (rd t308 x7_2)) = false := decide_eq_false c29
                                    clear c29
                                    by_cases c30 : (rd t308 x6_1) > (wrap64 ((rd t308 x7_2) + 1))
                                    · rw [if_pos c30] at H
                                      have c30b0 : decide ((wrap64 ((rd t308 x7_2) + 1)) < (rd t308 x6_1)) = true := decide_eq_true c30
                                      clear c30
                                      obtain rfl := Option.some.inj H
                                      have p316 : 0 ≤ (x6_1 : Int) := of_decide_eq_true (by first | (with_reducible assumption) | assumption)
                                      have q316 : x6_1 < (t305.length : Int) := of_decide_eq_true (by first | (with_reducible assumption) | assumption)
                                      obtain ⟨ad316, e316, hx316_0⟩ := Kd.at_int (Kd.R_reads' HO_4.out).2.2 x6_1 p316 q316
                                      cases e316
                                      replace p316 := eq_true p316
                                      replace q316 := eq_true q316
                                      have p317 : 0 ≤ (x7_2 : Int) := of_decide_eq_true (by first | (with_reducible assumption) | assumption)
                                      have q317 : x7_2 < (t305.length : Int) := of_decide_eq_true (by first | (with_reducible assumption) | assumption)
                                      obtain ⟨ad317, e317, hx317_0⟩ := Kd.at_int (Kd.R_reads' HO_4.out).2.2 x7_2 p317 q317
                                      obtain rfl : ad316 = ad317 := (by injection e317)
                                      replace p317 := eq_true p317
                                      replace q317 := eq_true q317
                                      have p326 : 0 ≤ (x6_1 : Int) := of_decide_eq_true (by first | (with_reducible assumption) | assumption)
                                      have q326 : x6_1 < (t305.length : Int) := of_decide_eq_true (by first | (with_reducible assumption) | assumption)
                                      obtain ⟨ad326, e326, hx326_0⟩ := Kd.at_int (Kd.R_reads' HO_4.out).2.2 x6_1 p326 q326
                                      obtain rfl : ad316 = ad326 := (by injection e326)
                                      replace p326 := eq_true p326
                                      replace q326 := eq_true q326
                                      have p327 : 0 ≤ (x7_2 : Int) := of_decide_eq_true (by first | (with_reducible assumption) | assumption)
                                      have q327 : x7_2 < (t305.length : Int) := of_decide_eq_true (by first | (with_reducible assumption) | assumption)
                                      obtain ⟨ad327, e327, hx327_0⟩ := Kd.at_int (Kd.R_reads' HO_4.out).2.2 x7_2 p327 q327
                                      obtain rfl : ad316 = ad327 := (by injection e327)
                                      replace p327 := eq_true p327
                                      replace q327 := eq_true q327
                                      have p328 : 0 ≤ (x6_1 : Int) := of_decide_eq_true (by first | (with_reducible assumption) | assumption)
                                      have q328 : x6_1 < (t308.length : Int) := of_decide_eq_true (by first | (with_reducible assumption) | assumption)
                                      obtain ⟨ad328, e328, hx328_0⟩ := Kd.at_int (Kd.R_reads' HO_5.out).2.2 x6_1 p328 q328
                                      cases e328
                                      replace p328 := eq_true p328
                                      replace q328 := eq_true q328
                                      have p329 : 0 ≤ (x7_2 : Int) := of_decide_eq_true (by first | (with_reducible assumption) | assumption)
                                      have q329 : x7_2 < (t308.length : Int) := of_decide_eq_true (by first | (with_reducible assumption) | assumption)
                                      obtain ⟨ad329, e329, hx329_0⟩ := Kd.at_int (Kd.R_reads' HO_5.out).2.2 x7_2 p329 q329
                                      obtain rfl : ad328 = ad329 := (by injection e329)
                                      replace p329 := eq_true p329
                                      replace q329 := eq_true q329
                                      have p330 : 0 ≤ (x6_1 : Int) := of_decide_eq_true (by first | (with_reducible assumption) | assumption)
                                      have q330 : x6_1 < (t308.length : Int) := of_decide_eq_true (by first | (with_reducible assumption) | assumption)
                                      obtain ⟨ad330, e330, hx330_0⟩ := Kd.at_int (Kd.R_reads' HO_5.out).2.2 x6_1 p330 q330
                                      obtain rfl : ad328 = ad330 := (by injection e330)
                                      replace p330 := eq_true p330
                                      replace q330 := eq_true q330
                                      have p331 : 0 ≤ (x7_2 : Int) := of_decide_eq_true (by first | (with_reducible assumption) | assumption)
                                      have q331 : x7_2 < (t308.length : Int) := of_decide_eq_true (by first | (with_reducible assumption) | assumption)
                                      obtain ⟨ad331, e331, hx331_0⟩ := Kd.at_int (Kd.R_reads' HO_5.out).2.2 x7_2 p331 q331
                                      obtain rfl : ad328 = ad331 := (by injection e331)
                                      replace p331 := eq_true p331
                                      replace q331 := eq_true q331
                                      go_wp2
                                      repeat (go_quiet (fail); try go_wp2)
                                      go_ret
                                      exact ⟨by first | rfl | (simp [errW_none, errW_some] <;> rfl) | (simp [*, errW_none, errW_some] <;> rfl), by repeat (first | (with_reducible first | exact HB.out | apply below_alloc | apply pw_below_drewN | apply below_drew1) | exact HB.out)⟩
                                    · rw [if_neg c30] at H
                                      have c30b0 : decide ((wrap64 ((rd t308 x7_2) + 1)) < (rd t308 x6_1)) = false := decide_eq_false c30
                                      clear c30
                                      have H' := Aside0.mk H
                                      clear H
                                      have p316 : 0 ≤ (x6_1 : Int) := of_decide_eq_true (by first | (with_reducible assumption) | assumption)
                                      have q316 : x6_1 < (t305.length : Int) := of_decide_eq_true (by first | (with_reducible assumption) | assumption)
                                      obtain ⟨ad316, e316, hx316_0⟩ := Kd.at_int (Kd.R_reads' HO_4.out).2.2 x6_1 p316 q316
                                      cases e316
                                      replace p316 := eq_true p316
                                      replace q316 := eq_true q316
                                      have p317 : 0 ≤ (x7_2 : Int) := of_decide_eq_true (by first | (with_reducible assumption) | assumption)
                                      have q317 : x7_2 < (t305.length : Int) := of_decide_eq_true (by first | (with_reducible assumption) | assumption)
                                      obtain ⟨ad317, e317, hx317_0⟩ := Kd.at_int (Kd.R_reads' HO_4.out).2.2 x7_2 p317 q317
                                      obtain rfl : ad316 = ad317 := (by injection e317)
                                      replace p317 := eq_true p317
                                      replace q317 := eq_true q317
                                      have p326 : 0 ≤ (x6_1 : Int) := of_decide_eq_true (by first | (with_reducible assumption) | assumption)
                                      have q326 : x6_1 < (t305.length : Int) := of_decide_eq_true (by first | (with_reducible assumption) | assumption)
                                      obtain ⟨ad326, e326, hx326_0⟩ := Kd.at_int (Kd.R_reads' HO_4.out).2.2 x6_1 p326 q326
                                      obtain rfl : ad316 = ad326 := (by injection e326)
                                      replace p326 := eq_true p326
                                      replace q326 := eq_true q326
                                      have p327 : 0 ≤ (x7_2 : Int) := of_decide_eq_true (by first | (with_reducible assumption) | assumption)
                                      have q327 : x7_2 < (t305.length : Int) := of_decide_eq_true (by first | (with_reducible assumption) | assumption)
                                      obtain ⟨ad327, e327, hx327_0⟩ := Kd.at_int (Kd.R_reads' HO_4.out).2.2 x7_2 p327 q327
                                      obtain rfl : ad316 = ad327 := (by injection e327)
                                      replace p327 := eq_true p327
                                      replace q327 := eq_true q327
                                      have p328 : 0 ≤ (x6_1 : Int) := of_decide_eq_true (by first | (with_reducible assumption) | assumption)
                                      have q328 : x6_1 < (t308.length : Int) := of_decide_eq_true (by first | (with_reducible assumption) | assumption)
                                      obtain ⟨ad328, e328, hx328_0⟩ := Kd.at_int (Kd.R_reads' HO_5.out).2.2 x6_1 p328 q328
                                      cases e328
                                      replace p328 := eq_true p328
                                      replace q328 := eq_true q328
                                      have p329 : 0 ≤ (x7_2 : Int) := of_decide_eq_true (by first | (with_reducible assumption) | assumption)
                                      have q329 : x7_2 < (t308.length : Int) := of_decide_eq_true (by first | (with_reducible assumption) | assumption)
                                      obtain ⟨ad329, e329, hx329_0⟩ := Kd.at_int (Kd.R_reads' HO_5.out).2.2 x7_2 p329 q329
                                      obtain rfl : ad328 = ad329 := (by injection e329)
                                      replace p329 := eq_true p329
                                      replace q329 := eq_true q329
                                      have p330 : 0 ≤ (x6_1 : Int) := of_decide_eq_true (by first | (with_reducible assumption) | assumption)
                                      have q330 : x6_1 < (t308.length : Int) := of_decide_eq_true (by first | (with_reducible assumption) | assumption)
                                      obtain ⟨ad330, e330, hx330_0⟩ := Kd.at_int (Kd.R_reads' HO_5.out).2.2 x6_1 p330 q330
                                      obtain rfl : ad328 = ad330 := (by injection e330)
                                      replace p330 := eq_true p330
                                      replace q330 := eq_true q330
                                      have p331 : 0 ≤ (x7_2 : Int) := of_decide_eq_true (by first | (with_reducible assumption) | assumption)
                                      have q331 : x7_2 < (t308.length : Int) := of_decide_eq_true (by first | (with_reducible assumption) | assumption)
                                      obtain ⟨ad331, e331, hx331_0⟩ := Kd.at_int (Kd.R_reads' HO_5.out).2.2 x7_2 p331 q331
                                      obtain rfl : ad328 = ad331 := (by injection e331)
                                      replace p331 := eq_true p331
                                      replace q331 := eq_true q331
                                      go_wp2
                                      repeat (go_quiet (fail); try go_wp2)
                                      go_roundg k2
                                      case measure => have := HK1.out; have := HK2.out; omega
                                      case rel => exact ⟨(wrap64 (x7_2 + 1)), (by first | rfl | (simp; done) | (simp [*]; done)), H', ⟨by have := HK1.out; have := HK2.out; omega⟩, ⟨by (with_reducible repeat (first | apply Kd.R_alloc | apply Kd.R_drewN | apply Kd.R_drew)); exact HO_4.out⟩, ⟨by (with_reducible repeat (first | apply Kd.R_alloc | apply Kd.R_drewN | apply Kd.R_drew)); exact HO_5.out⟩, ⟨by repeat (first | (with_reducible first | exact HB.out | apply below_alloc | apply pw_below_drewN | apply below_drew1) | exact HB.out)⟩⟩
                                · rw [if_neg c28] at H
                                  exact absurd H (by simp)
                              · rw [if_neg c27] at H
                                have c27b0 : decide (x6_1 < x7_2) = false := decide_eq_false c27
                                clear c27
                                have H' := Aside0.mk H
                                clear H
                                have p316 : 0 ≤ (x6_1 : Int) := of_decide_eq_true (by first | (with_reducible assumption) | assumption)
                                have q316 : x6_1 < (t305.length : Int) := of_decide_eq_true (by first | (with_reducible assumption) | assumption)
                                obtain ⟨ad316, e316, hx316_0⟩ := Kd.at_int (Kd.R_reads' HO_4.out).2.2 x6_1 p316 q316
                                cases e316
                                replace p316 := eq_true p316
                                replace q316 := eq_true q316
                                have p317 : 0 ≤ (x7_2 : Int) := of_decide_eq_true (by first | (with_reducible assumption) | assumption)
                                have q317 : x7_2 < (t305.length : Int) := of_decide_eq_true (by first | (with_reducible assumption) | assumption)
                                obtain ⟨ad317, e317, hx317_0⟩ := Kd.at_int (Kd.R_reads' HO_4.out).2.2 x7_2 p317 q317
                                obtain rfl : ad316 = ad317 := (by injection e317)
                                replace p317 := eq_true p317
                                replace q317 := eq_true q317
                                have p326 : 0 ≤ (x6_1 : Int) := of_decide_eq_true (by first | (with_reducible assumption) | assumption)
                                have q326 : x6_1 < (t305.length : Int) := of_decide_eq_true (by first | (with_reducible assumption) | assumption)
                                obtain ⟨ad326, e326, hx326_0⟩ := Kd.at_int (Kd.R_reads' HO_4.out).2.2 x6_1 p326 q326
                                obtain rfl : ad316 = ad326 := (by injection e326)
                                replace p326 := eq_true p326
                                replace q326 := eq_true q326
                                have p327 : 0 ≤ (x7_2 : Int) := of_decide_eq_true (by first | (with_reducible assumption) | assumption)
                                have q327 : x7_2 < (t305.length : Int) := of_decide_eq_true (by first | (with_reducible assumption) | assumption)
                                obtain ⟨ad327, e327, hx327_0⟩ := Kd.at_int (Kd.R_reads' HO_4.out).2.2 x7_2 p327 q327
                                obtain rfl : ad316 = ad327 := (by injection e327)
                                replace p327 := eq_true p327
                                replace q327 := eq_true q327
                                go_wp2
                                repeat (go_quiet (fail); try go_wp2)
                                go_roundg k2
                                case measure => have := HK1.out; have := HK2.out; omega
                                case rel => exact ⟨(wrap64 (x7_2 + 1)), (by first | rfl | (simp; done) | (simp [*]; done)), H', ⟨by have := HK1.out; have := HK2.out; omega⟩, ⟨by (with_reducible repeat (first | apply Kd.R_alloc | apply Kd.R_drewN | apply Kd.R_drew)); exact HO_4.out⟩, ⟨by (with_reducible repeat (first | apply Kd.R_alloc | apply Kd.R_drewN | apply Kd.R_drew)); exact HO_5.out⟩, ⟨by repeat (first | (with_reducible first | exact HB.out | apply below_alloc | apply pw_below_drewN | apply below_drew1) | exact HB.out)⟩⟩
                            · rw [if_neg c26] at H
                              have c26b0 : ((rd t305 x6_1) == (rd t305 x7_2)) = false := beq_eq_false_iff_ne.mpr c26
                              have c26b1 : ((rd t305 x6_1) != (rd t305 x7_2)) = true := bne_iff_ne.mpr c26
                              have H' := Aside0.mk H
                              clear H
                              have p316 : 0 ≤ (x6_1 : Int) := of_decide_eq_true (by first | (with_reducible assumption) | assumption)
                              have q316 : x6_1 < (t305.length : Int) := of_decide_eq_true (by first | (with_reducible assumption) | assumption)
                              obtain ⟨ad316, e316, hx316_0⟩ := Kd.at_int (Kd.R_reads' HO_4.out).2.2 x6_1 p316 q316
                              cases e316
                              replace p316 := eq_true p316
                              replace q316 := eq_true q316
                              have p317 : 0 ≤ (x7_2 : Int) := of_decide_eq_true (by first | (with_reducible assumption) | assumption)
                              have q317 : x7_2 < (t305.length : Int) := of_decide_eq_true (by first | (with_reducible assumption) | assumption)
                              obtain ⟨ad317, e317, hx317_0⟩ := Kd.at_int (Kd.R_reads' HO_4.out).2.2 x7_2 p317 q317
                              obtain rfl : ad316 = ad317 := (by injection e317)
                              replace p317 := eq_true p317
                              replace q317 := eq_true q317
                              have p326 : 0 ≤ (x6_1 : Int) := of_decide_eq_true (by first | (with_reducible assumption) | assumption)
                              have q326 : x6_1 < (t305.length : Int) := of_decide_eq_true (by first | (with_reducible assumption) | assumption)
                              obtain ⟨ad326, e326, hx326_0⟩ := Kd.at_int (Kd.R_reads' HO_4.out).2.2 x6_1 p326 q326
                              obtain rfl : ad316 = ad326 := (by injection e326)
                              replace p326 := eq_true p326
                              replace q326 := eq_true q326
                              have p327 : 0 ≤ (x7_2 : Int) := of_decide_eq_true (by first | (with_reducible assumption) | assumption)
                              have q327 : x7_2 < (t305.length : Int) := of_decide_eq_true (by first | (with_reducible assumption) | assumption)
                              obtain ⟨ad327, e327, hx327_0⟩ := Kd.at_int (Kd.R_reads' HO_4.out).2.2 x7_2 p327 q327
                              obtain rfl : ad316 = ad327 := (by injection e327)
                              replace p327 := eq_true p327
                              replace q327 := eq_true q327
                              go_wp2
                              repeat (go_quiet (fail); try go_wp2)
                              go_roundg k2
                              case measure => have := HK1.out; have := HK2.out; omega
                              case rel => exact ⟨(wrap64 (x7_2 + 1)), (by first | rfl | (simp; done) | (simp [*]; done)), H', ⟨by have := HK1.out; have := HK2.out; omega⟩, ⟨by (with_reducible repeat (first | apply Kd.R_alloc | apply Kd.R_drewN | apply Kd.R_drew)); exact HO_4.out⟩, ⟨by (with_reducible repeat (first | apply Kd.R_alloc | apply Kd.R_drewN | apply Kd.R_drew)); exact HO_5.out⟩, ⟨by repeat (first | (with_reducible first | exact HB.out | apply below_alloc | apply pw_below_drewN | apply below_drew1) | exact HB.out)⟩⟩
                        · rw [if_neg c19] at H
                          exact absurd H (by simp)
                      · rw [if_neg c18] at H
                        exact absurd H (by simp)
                    · rw [if_neg c17] at H
                      exact absurd H (by simp)
                  · rw [if_neg c16] at H
                    exact absurd H (by simp)
                · rw [if_neg c15] at H
                  have c15b0 : decide (x7_2 < (t308.length : Int)) = false := decide_eq_false c15
                  clear c15
                  have H' := Aside0.mk H
                  clear H
                  go_wp2
                  repeat (go_quiet (fail); try go_wp2)
                  go_roundg k2
                  case measure => have := HK1.out; have := HK2.out; omega
                  case rel => exact ⟨(wrap64 (x6_1 + 1)), (by first | rfl | (simp; done) | (simp [*]; done)), H', ⟨by have := HK1.out; have := HK2.out; omega⟩, ⟨by (with_reducible repeat (first | apply Kd.R_alloc | apply Kd.R_drewN | apply Kd.R_drew)); exact HO_4.out⟩, ⟨by (with_reducible repeat (first | apply Kd.R_alloc | apply Kd.R_drewN | apply Kd.R_drew)); exact HO_5.out⟩, ⟨by repeat (first | (with_reducible first | exact HB.out | apply below_alloc | apply pw_below_drewN | apply below_drew1) | exact HB.out)⟩⟩
          · rw [if_neg c14] at H
            have c14b0 : decide (x6_1 < (t308.length : Int)) = false := decide_eq_false c14
            clear c14
            replace H := Option.bind_eq_some_iff.mp H
            obtain ⟨t315, A310, H⟩ := H
            replace H : (some t315) = some r := H
            have A31 := Aside0.mk A310
            clear A310
            obtain rfl := Option.some.inj H
            go_wp2_with (first | (go_at_call 20; (with_reducible refine (laws_pwOk.calls k1  t315 _ A31.out).mono ?_); rintro e w32 ⟨rfl, hb⟩; have n0_ := Aside0.mk (Kd.R_below (by (with_reducible repeat (first | apply Kd.R_alloc | apply Kd.R_drewN | apply Kd.R_drew)); exact HO_4.out) hb); have n1_ := Aside0.mk (Kd.R_below (by (with_reducible repeat (first | apply Kd.R_alloc | apply Kd.R_drewN | apply Kd.R_drew)); exact HO_5.out) hb); have n2_ := Aside0.mk (below_step (by repeat (first | (with_reducible first | exact HB.out | apply below_alloc | apply pw_below_drewN | apply below_drew1) | exact HB.out)) hb); clear HO_4; clear HO_5; clear HB; have HO_4 := n0_; have HO_5 := n1_; have HB := n2_; clear n0_ n1_ n2_; (try clear hb); (try clear hb2); (try clear hk); (try clear hi)))
            repeat (go_quiet (first | (go_at_call 20; (with_reducible refine (laws_pwOk.calls k1  t315 _ A31.out).mono ?_); rintro e w32 ⟨rfl, hb⟩; have n0_ := Aside0.mk (Kd.R_below (by (with_reducible repeat (first | apply Kd.R_alloc | apply Kd.R_drewN | apply Kd.R_drew)); exact HO_4.out) hb); have n1_ := Aside0.mk (Kd.R_below (by (with_reducible repeat (first | apply Kd.R_alloc | apply Kd.R_drewN | apply Kd.R_drew)); exact HO_5.out) hb); have n2_ := Aside0.mk (below_step (by repeat (first | (with_reducible first | exact HB.out | apply below_alloc | apply pw_below_drewN | apply below_drew1) | exact HB.out)) hb); clear HO_4; clear HO_5; clear HB; have HO_4 := n0_; have HO_5 := n1_; have HB := n2_; clear n0_ n1_ n2_; (try clear hb); (try clear hb2); (try clear hk); (try clear hi))); try go_wp2_with (first | (go_at_call 20; (with_reducible refine (laws_pwOk.calls k1  t315 _ A31.out).mono ?_); rintro e w32 ⟨rfl, hb⟩; have n0_ := Aside0.mk (Kd.R_below (by (with_reducible repeat (first | apply Kd.R_alloc | apply Kd.R_drewN | apply Kd.R_drew)); exact HO_4.out) hb); have n1_ := Aside0.mk (Kd.R_below (by (with_reducible repeat (first | apply Kd.R_alloc | apply Kd.R_drewN | apply Kd.R_drew)); exact HO_5.out) hb); have n2_ := Aside0.mk (below_step (by repeat (first | (with_reducible first | exact HB.out | apply below_alloc | apply pw_below_drewN | apply below_drew1) | exact HB.out)) hb); clear HO_4; clear HO_5; clear HB; have HO_4 := n0_; have HO_5 := n1_; have HB := n2_; clear n0_ n1_ n2_; (try clear hb); (try clear hb2); (try clear hk); (try clear hi))))
            go_ret
            exact ⟨by first | rfl | (simp [errW_none, errW_some] <;> rfl) | (simp [*, errW_none, errW_some] <;> rfl), by repeat (first | (with_reducible first | exact HB.out | apply below_alloc | apply pw_below_drewN | apply below_drew1) | exact HB.out)⟩
    · replace c7 := Bool.eq_false_iff.mpr c7
      subst c7
      have H1 : (some false) = some r := by rw [if_neg (show ¬ (false = true) by decide)] at H; exact H
      clear H
      have H := H1
      clear H1
      obtain rfl := Option.some.inj H
      go_enter Tryd.func5, Tryd.ntmps5
      go_wp2_with (first | (go_at_call 14; (with_reducible refine (spec_DrawShrShare.calls k _ _ l0 t304 t305 _ ?side1 ?side2 A3.out).mono ?_); (case side1 => repeat (first | exact HR0.out | (with_reducible refine Kd.C_alloc ?_ _) | (with_reducible refine Kd.C_drewN ?_ _) | (with_reducible refine Kd.C_drew ?_))); (case side2 => exact HC0.out); rintro e w33 ⟨v306, rfl, ho0, hb⟩; have n0_ := Aside0.mk (Kd.R_lower ho0 (below_size (by repeat (first | (with_reducible first | exact HB.out | apply below_alloc | apply pw_below_drewN | apply below_drew1) | exact HB.out)))); have n1_ := Aside0.mk (below_step (by repeat (first | (with_reducible first | exact HB.out | apply below_alloc | apply pw_below_drewN | apply below_drew1) | exact HB.out)) hb); clear HB; have HO307 := n0_; have HB := n1_; clear n0_ n1_; (try clear hb); (try clear hb2); (try clear hk); (try clear hi); (try clear ho0); obtain ⟨Ao34, co34, eo34⟩ := Kd.R_slice HO307.out; subst eo34) | (go_at_call 15; (with_reducible refine (impl_ShrShare.calls k t304 _ _ t305 t308 _ ?side1 ?side2 A4.out).mono ?_); (case side1 => repeat (first | exact (Kd.R_reads' HO307.out).2.2 | (with_reducible refine Kd.C_alloc ?_ _) | (with_reducible refine Kd.C_drewN ?_ _) | (with_reducible refine Kd.C_drew ?_))); (case side2 => exact (Kd.R_reads' HO307.out).2.1); rintro e w35 ⟨v309, rfl, ho0, hb⟩; have n0_ := Aside0.mk (Kd.R_elder' (by (with_reducible repeat (first | apply Kd.R_alloc | apply Kd.R_drewN | apply Kd.R_drew)); exact HO307.out) (Kd.R_base ho0) hb); have n1_ := Aside0.mk (Kd.R_lower (Kd.R_new' ho0 (Kd.R_lt (by (with_reducible repeat (first | apply Kd.R_alloc | apply Kd.R_drewN | apply Kd.R_drew)); exact HO307.out))) (below_size (by repeat (first | (with_reducible first | exact HB.out | apply below_alloc | apply pw_below_drewN | apply below_drew1) | exact HB.out)))); have n2_ := Aside0.mk (below_step (by repeat (first | (with_reducible first | exact HB.out | apply below_alloc | apply pw_below_drewN | apply below_drew1) | exact HB.out)) hb); clear HO307; clear HB; have HO307 := n0_; have HO310 := n1_; have HB := n2_; clear n0_ n1_ n2_; (try clear hb); (try clear hb2); (try clear hk); (try clear hi); (try clear ho0)) | (go_at_call 17; (with_reducible refine (spec_ShrShare.calls k t304 _ _ t305 t311 _ ?side1 ?side2 A5.out).mono ?_); (case side1 => repeat (first | exact (Kd.R_reads' HO307.out).2.2 | (with_reducible refine Kd.C_alloc ?_ _) | (with_reducible refine Kd.C_drewN ?_ _) | (with_reducible refine Kd.C_drew ?_))); (case side2 => exact (Kd.R_reads' HO307.out).2.1); rintro e w36 ⟨v312, rfl, ho0, hb⟩; have n0_ := Aside0.mk (Kd.R_elder' (by (with_reducible repeat (first | apply Kd.R_alloc | apply Kd.R_drewN | apply Kd.R_drew)); exact HO307.out) (Kd.R_base ho0) hb); have n1_ := Aside0.mk (Kd.R_elder' (by (with_reducible repeat (first | apply Kd.R_alloc | apply Kd.R_drewN | apply Kd.R_drew)); exact HO310.out) (Kd.R_base ho0) hb); have n2_ := Aside0.mk (Kd.R_lower (Kd.R_new' (Kd.R_new' ho0 (Kd.R_lt (by (with_reducible repeat (first | apply Kd.R_alloc | apply Kd.R_drewN | apply Kd.R_drew)); exact HO307.out))) (Kd.R_lt (by (with_reducible repeat (first | apply Kd.R_alloc | apply Kd.R_drewN | apply Kd.R_drew)); exact HO310.out))) (below_size (by repeat (first | (with_reducible first | exact HB.out | apply below_alloc | apply pw_below_drewN | apply below_drew1) | exact HB.out)))); have n3_ := Aside0.mk (below_step (by repeat (first | (with_reducible first | exact HB.out | apply below_alloc | apply pw_below_drewN | apply below_drew1) | exact HB.out)) hb); clear HO307; clear HO310; clear HB; have HO307 := n0_; have HO310 := n1_; have HO313 := n2_; have HB := n3_; clear n0_ n1_ n2_ n3_; (try clear hb); (try clear hb2); (try clear hk); (try clear hi); (try clear ho0); obtain ⟨Ao37, co37, eo37⟩ := Kd.R_slice HO310.out; subst eo37; obtain ⟨Ao38, co38, eo38⟩ := Kd.R_slice HO313.out; subst eo38) | (go_at_call 16; (with_reducible refine (laws_pwInts.calls k _ _ t308 _ _ t311 false _ ?side1 ?side2 ?side3 ?side4 A6.out).mono ?_); (case side1 => repeat (first | exact (Kd.R_reads' HO310.out).2.2 | (with_reducible refine Kd.C_alloc ?_ _) | (with_reducible refine Kd.C_drewN ?_ _) | (with_reducible refine Kd.C_drew ?_))); (case side2 => exact (Kd.R_reads' HO310.out).2.1); (case side3 => repeat (first | exact (Kd.R_reads' HO313.out).2.2 | (with_reducible refine Kd.C_alloc ?_ _) | (with_reducible refine Kd.C_drewN ?_ _) | (with_reducible refine Kd.C_drew ?_))); (case side4 => exact (Kd.R_reads' HO313.out).2.1); rintro e w' ⟨rfl, ⟨nd, rfl⟩⟩; (try first | exact ⟨rfl, _, World.drewN_drewN _ _ _⟩ | exact ⟨rfl, _, Eq.trans (World.drewN_drewN _ _ _) (congrArg (World.drewN _) (Nat.add_assoc _ _ _))⟩)))
      repeat (go_quiet (first | (go_at_call 14; (with_reducible refine (spec_DrawShrShare.calls k _ _ l0 t304 t305 _ ?side1 ?side2 A3.out).mono ?_); (case side1 => repeat (first | exact HR0.out | (with_reducible refine Kd.C_alloc ?_ _) | (with_reducible refine Kd.C_drewN ?_ _) | (with_reducible refine Kd.C_drew ?_))); (case side2 => exact HC0.out); rintro e w33 ⟨v306, rfl, ho0, hb⟩; have n0_ := Aside0.mk (Kd.R_lower ho0 (below_size (by repeat (first | (with_reducible first | exact HB.out | apply below_alloc | apply pw_below_drewN | apply below_drew1) | exact HB.out)))); have n1_ := Aside0.mk (below_step (by repeat (first | (with_reducible first | exact HB.out | apply below_alloc | apply pw_below_drewN | apply below_drew1) | exact HB.out)) hb); clear HB; have HO307 := n0_; have HB := n1_; clear n0_ n1_; (try clear hb); (try clear hb2); (try clear hk); (try clear hi); (try clear ho0); obtain ⟨Ao34, co34, eo34⟩ := Kd.R_slice HO307.out; subst eo34) | (go_at_call 15; (with_reducible refine (impl_ShrShare.calls k t304 _ _ t305 t308 _ ?side1 ?side2 A4.out).mono ?_); (case side1 => repeat (first | exact (Kd.R_reads' HO307.out).2.2 | (with_reducible refine Kd.C_alloc ?_ _) | (with_reducible refine Kd.C_drewN ?_ _) | (with_reducible refine Kd.C_drew ?_))); (case side2 => exact (Kd.R_reads' HO307.out).2.1); rintro e w35 ⟨v309, rfl, ho0, hb⟩; have n0_ := Aside0.mk (Kd.R_elder' (by (with_reducible repeat (first | apply Kd.R_alloc | apply Kd.R_drewN | apply Kd.R_drew)); exact HO307.out) (Kd.R_base ho0) hb); have n1_ := Aside0.mk (Kd.R_lower (Kd.R_new' ho0 (Kd.R_lt (by (with_reducible repeat (first | apply Kd.R_alloc | apply Kd.R_drewN | apply Kd.R_drew)); exact HO307.out))) (below_size (by repeat (first | (with_reducible first | exact HB.out | apply below_alloc | apply pw_below_drewN | apply below_drew1) | exact HB.out)))); have n2_ := Aside0.mk (below_step (by repeat (first | (with_reducible first | exact HB.out | apply below_alloc | apply pw_below_drewN | apply below_drew1) | exact HB.out)) hb); clear HO307; clear HB; have HO307 := n0_; have HO310 := n1_; have HB := n2_; clear n0_ n1_ n2_; (try clear hb); (try clear hb2); (try clear hk); (try clear hi); (try clear ho0)) | (go_at_call 17; (with_reducible refine (spec_ShrShare.calls k t304 _ _ t305 t311 _ ?side1 ?side2 A5.out).mono ?_); (case side1 => repeat (first | exact (Kd.R_reads' HO307.out).2.2 | (with_reducible refine Kd.C_alloc ?_ _) | (with_reducible refine Kd.C_drewN ?_ _) | (with_reducible refine Kd.C_drew ?_))); (case side2 => exact (Kd.R_reads' HO307.out).2.1); rintro e w36 ⟨v312, rfl, ho0, hb⟩; have n0_ := Aside0.mk (Kd.R_elder' (by (with_reducible repeat (first | apply Kd.R_alloc | apply Kd.R_drewN | apply Kd.R_drew)); exact HO307.out) (Kd.R_base ho0) hb); have n1_ := Aside0.mk (Kd.R_elder' (by (with_reducible repeat (first | apply Kd.R_alloc | apply Kd.R_drewN | apply Kd.R_drew)); exact HO310.out) (Kd.R_base ho0) hb); have n2_ := Aside0.mk (Kd.R_lower (Kd.R_new' (Kd.R_new' ho0 (Kd.R_lt (by (with_reducible repeat (first | apply Kd.R_alloc | apply Kd.R_drewN | apply Kd.R_drew)); exact HO307.out))) (Kd.R_lt (by (with_reducible repeat (first | apply Kd.R_alloc | apply Kd.R_drewN | apply Kd.R_drew)); exact HO310.out))) (below_size (by repeat (first | (with_reducible first | exact HB.out | apply below_alloc | apply pw_below_drewN | apply below_drew1) | exact HB.out)))); have n3_ := Aside0.mk (below_step (by repeat (first | (with_reducible first | exact HB.out | apply below_alloc | apply pw_below_drewN | apply below_drew1) | exact HB.out)) hb); clear HO307; clear HO310; clear HB; have HO307 := n0_; have HO310 := n1_; have HO313 := n2_; have HB := n3_; clear n0_ n1_ n2_ n3_; (try clear hb); (try clear hb2); (try clear hk); (try clear hi); (try clear ho0); obtain ⟨Ao37, co37, eo37⟩ := Kd.R_slice HO310.out; subst eo37; obtain ⟨Ao38, co38, eo38⟩ := Kd.R_slice HO313.out; subst eo38) | (go_at_call 16; (with_reducible refine (laws_pwInts.calls k _ _ t308 _ _ t311 false _ ?side1 ?side2 ?side3 ?side4 A6.out).mono ?_); (case side1 => repeat (first | exact (Kd.R_reads' HO310.out).2.2 | (with_reducible refine Kd.C_alloc ?_ _) | (with_reducible refine Kd.C_drewN ?_ _) | (with_reducible refine Kd.C_drew ?_))); (case side2 => exact (Kd.R_reads' HO310.out).2.1); (case side3 => repeat (first | exact (Kd.R_reads' HO313.out).2.2 | (with_reducible refine Kd.C_alloc ?_ _) | (with_reducible refine Kd.C_drewN ?_ _) | (with_reducible refine Kd.C_drew ?_))); (case side4 => exact (Kd.R_reads' HO313.out).2.1); rintro e w' ⟨rfl, ⟨nd, rfl⟩⟩; (try first | exact ⟨rfl, _, World.drewN_drewN _ _ _⟩ | exact ⟨rfl, _, Eq.trans (World.drewN_drewN _ _ _) (congrArg (World.drewN _) (Nat.add_assoc _ _ _))⟩))); try go_wp2_with (first | (go_at_call 14; (with_reducible refine (spec_DrawShrShare.calls k _ _ l0 t304 t305 _ ?side1 ?side2 A3.out).mono ?_); (case side1 => repeat (first | exact HR0.out | (with_reducible refine Kd.C_alloc ?_ _) | (with_reducible refine Kd.C_drewN ?_ _) | (with_reducible refine Kd.C_drew ?_))); (case side2 => exact HC0.out); rintro e w33 ⟨v306, rfl, ho0, hb⟩; have n0_ := Aside0.mk (Kd.R_lower ho0 (below_size (by repeat (first | (with_reducible first | exact HB.out | apply below_alloc | apply pw_below_drewN | apply below_drew1) | exact HB.out)))); have n1_ := Aside0.mk (below_step (by repeat (first | (with_reducible first | exact HB.out | apply below_alloc | apply pw_below_drewN | apply below_drew1) | exact HB.out)) hb); clear HB; have HO307 := n0_; have HB := n1_; clear n0_ n1_; (try clear hb); (try clear hb2); (try clear hk); (try clear hi); (try clear ho0); obtain ⟨Ao34, co34, eo34⟩ := Kd.R_slice HO307.out; subst eo34) | (go_at_call 15; (with_reducible refine (impl_ShrShare.calls k t304 _ _ t305 t308 _ ?side1 ?side2 A4.out).mono ?_); (case side1 => repeat (first | exact (Kd.R_reads' HO307.out).2.2 | (with_reducible refine Kd.C_alloc ?_ _) | (with_reducible refine Kd.C_drewN ?_ _) | (with_reducible refine Kd.C_drew ?_))); (case side2 => exact (Kd.R_reads' HO307.out).2.1); rintro e w35 ⟨v309, rfl, ho0, hb⟩; have n0_ := Aside0.mk (Kd.R_elder' (by (with_reducible repeat (first | apply Kd.R_alloc | apply Kd.R_drewN | apply Kd.R_drew)); exact HO307.out) (Kd.R_base ho0) hb); have n1_ := Aside0.mk (Kd.R_lower (Kd.R_new' ho0 (Kd.R_lt (by (with_reducible repeat (first | apply Kd.R_alloc | apply Kd.R_drewN | apply Kd.R_drew)); exact HO307.out))) (below_size (by repeat (first | (with_reducible first | exact HB.out | apply below_alloc | apply pw_below_drewN | apply below_drew1) | exact HB.out)))); have n2_ := Aside0.mk (below_step (by repeat (first | (with_reducible first | exact HB.out | apply below_alloc | apply pw_below_drewN | apply below_drew1) | exact HB.out)) hb); clear HO307; clear HB; have HO307 := n0_; have HO310 := n1_; have HB := n2_; clear n0_ n1_ n2_; (try clear hb); (try clear hb2); (try clear hk); (try clear hi); (try clear ho0)) | (go_at_call 17; (with_reducible refine (spec_ShrShare.calls k t304 _ _ t305 t311 _ ?side1 ?side2 A5.out).mono ?_); (case side1 => repeat (first | exact (Kd.R_reads' HO307.out).2.2 | (with_reducible refine Kd.C_alloc ?_ _) | (with_reducible refine Kd.C_drewN ?_ _) | (with_reducible refine Kd.C_drew ?_))); (case side2 => exact (Kd.R_reads' HO307.out).2.1); rintro e w36 ⟨v312, rfl, ho0, hb⟩; have n0_ := Aside0.mk (Kd.R_elder' (by (with_reducible repeat (first | apply Kd.R_alloc | apply Kd.R_drewN | apply Kd.R_drew)); exact HO307.out) (Kd.R_base ho0) hb); have n1_ := Aside0.mk (Kd.R_elder' (by (with_reducible repeat (first | apply Kd.R_alloc | apply Kd.R_drewN | apply Kd.R_drew)); exact HO310.out) (Kd.R_base ho0) hb); have n2_ := Aside0.mk (Kd.R_lower (Kd.R_new' (Kd.R_new' ho0 (Kd.R_lt (by (with_reducible repeat (first | apply Kd.R_alloc | apply Kd.R_drewN | apply Kd.R_drew)); exact HO307.out))) (Kd.R_lt (by (with_reducible repeat (first | apply Kd.R_alloc | apply Kd.R_drewN | apply Kd.R_drew)); exact HO310.out))) (below_size (by repeat (first | (with_reducible first | exact HB.out | apply below_alloc | apply pw_below_drewN | apply below_drew1) | exact HB.out)))); have n3_ := Aside0.mk (below_step (by repeat (first | (with_reducible first | exact HB.out | apply below_alloc | apply pw_below_drewN | apply below_drew1) | exact HB.out)) hb); clear HO307; clear HO310; clear HB; have HO307 := n0_; have HO310 := n1_; have HO313 := n2_; have HB := n3_; clear n0_ n1_ n2_ n3_; (try clear hb); (try clear hb2); (try clear hk); (try clear hi); (try clear ho0); obtain ⟨Ao37, co37, eo37⟩ := Kd.R_slice HO310.out; subst eo37; obtain ⟨Ao38, co38, eo38⟩ := Kd.R_slice HO313.out; subst eo38) | (go_at_call 16; (with_reducible refine (laws_pwInts.calls k _ _ t308 _ _ t311 false _ ?side1 ?side2 ?side3 ?side4 A6.out).mono ?_); (case side1 => repeat (first | exact (Kd.R_reads' HO310.out).2.2 | (with_reducible refine Kd.C_alloc ?_ _) | (with_reducible refine Kd.C_drewN ?_ _) | (with_reducible refine Kd.C_drew ?_))); (case side2 => exact (Kd.R_reads' HO310.out).2.1); (case side3 => repeat (first | exact (Kd.R_reads' HO313.out).2.2 | (with_reducible refine Kd.C_alloc ?_ _) | (with_reducible refine Kd.C_drewN ?_ _) | (with_reducible refine Kd.C_drew ?_))); (case side4 => exact (Kd.R_reads' HO313.out).2.1); rintro e w' ⟨rfl, ⟨nd, rfl⟩⟩; (try first | exact ⟨rfl, _, World.drewN_drewN _ _ _⟩ | exact ⟨rfl, _, Eq.trans (World.drewN_drewN _ _ _) (congrArg (World.drewN _) (Nat.add_assoc _ _ _))⟩))))
      go_ret
      exact ⟨by first | rfl | (simp [errW_none, errW_some] <;> rfl) | (simp [*, errW_none, errW_some] <;> rfl), by repeat (first | (with_reducible first | exact HB.out | apply below_alloc | apply pw_below_drewN | apply below_drew1) | exact HB.out)⟩
def laws_FnShrOrder.Pure : Prop := ∀ (l0 : List Int), l0.length ≤ maxLen → l0.length * 1 ≤ 140737488351232 → (∀ x ∈ l0, (Lit.int .u8 x).wf = true) → ∃ k, laws_FnShrOrder.f k l0 = some true
end Go.Proofs.YtcjpojppbmlfaaaDoor.Pr
