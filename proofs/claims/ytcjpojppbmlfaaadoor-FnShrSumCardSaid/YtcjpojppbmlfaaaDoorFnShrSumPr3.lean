/- A part of what the claim of 'FnShrSum' leans on. -/
import Derived.Test.YtcjpojppbmlfaaaDoorFnShrSumP0
import Derived.Test.YtcjpojppbmlfaaaDoorFnShrSumP3
import Derived.Test.YtcjpojppbmlfaaaDoorFnShrSumP4
import Derived.Test.YtcjpojppbmlfaaaDoorFnShrSumP5
namespace Go.Proofs.YtcjpojppbmlfaaaDoor.Pr
open Go.RowKit Go.Proofs.YtcjpojppbmlfaaaDoorW.PrintWords Go.Proofs.YtcjpojppbmlfaaaDoorW.PrintLast Go.Proofs.YtcjpojppbmlfaaaDoorW.PrintMore
attribute [local go_sem] max2_int min2_int max_two min_two max_three min_three max_four min_four
set_option linter.unusedVariables false
set_option linter.unusedSimpArgs false
mutual
def laws_FnShrSum.j0 : Nat → Int → List Int → List Int → Bool → Option (Bool)
  | 0, _, _, _, _ => none
  | k + 1, x3, x4, x5, x34 => if x34 = true then (some false) else ((spec_ShrOk.f k x3 x4).bind fun t270 => (if t270 = true then (if (x4.length : Int) = 0 then (if (x5.length : Int) = 0 then ((laws_pwOk.f k).bind fun t272 => (some t272)) else (some false)) else ((laws_pwSum.f k x4).bind fun t273 => (laws_FnShrSum.l0 k x3 x4 x5 (decide (t273 > 0)) 0))) else (if (x5.length : Int) = 0 then ((laws_pwOk.f k).bind fun t271 => (some t271)) else (some false))))
def laws_FnShrSum.l0 : Nat → Int → List Int → List Int → Bool → Int → Option (Bool)
  | 0, _, _, _, _, _ => none
  | k + 1, x3, x4, x5, x6, x7 => if x7 < (x5.length : Int) then ((impl_ShrDue.f k x3 x4 x7).bind fun t274 => (if x6 = true then (if 0 ≤ x7 then (if (rd x5 x7) = t274 then (if x7 < (x4.length : Int) then (if (rd x4 x7) = 0 then (if (rd x5 x7) = 0 then (laws_FnShrSum.l0 k x3 x4 x5 x6 (wrap64 (x7 + 1))) else (some false)) else (laws_FnShrSum.l0 k x3 x4 x5 x6 (wrap64 (x7 + 1)))) else (none)) else (if (rd x5 x7) = (wrap64 (t274 + 1)) then (if x7 < (x4.length : Int) then (if (rd x4 x7) = 0 then (if (rd x5 x7) = 0 then (laws_FnShrSum.l0 k x3 x4 x5 x6 (wrap64 (x7 + 1))) else (some false)) else (laws_FnShrSum.l0 k x3 x4 x5 x6 (wrap64 (x7 + 1)))) else (none)) else (some false))) else (none)) else (laws_FnShrSum.l0 k x3 x4 x5 x6 (wrap64 (x7 + 1))))) else ((laws_pwSum.f k x5).bind fun t281 => (if t281 = x3 then (some ((x5.length : Int) == (x4.length : Int))) else (some false)))
end
def laws_FnShrSum.f (k : Nat) (l0 : List Int) : Option (Bool) := if (l0.length : Int) > 1048576 then (some true) else ((spec_DrawShrShare.f k l0).bind fun bt257 => ((impl_ShrShare.f k bt257.1 bt257.2).bind fun t261 => ((spec_ShrShare.f k bt257.1 bt257.2).bind fun t264 => ((laws_pwInts.f k t261 t264).bind fun t267 => (if t267 = true then ((impl_ShrOk.f bt257.1 bt257.2).bind fun t268 => ((spec_ShrOk.f k bt257.1 bt257.2).bind fun t269 => (laws_FnShrSum.j0 k bt257.1 bt257.2 t261 (t268 != t269)))) else (laws_FnShrSum.j0 k bt257.1 bt257.2 t261 true))))))
theorem laws_FnShrSum.mono_l : ∀ k, (∀ y0 y1 y2 y3, LeO (laws_FnShrSum.j0 k y0 y1 y2 y3) (laws_FnShrSum.j0 (k + 1) y0 y1 y2 y3)) ∧ (∀ y0 y1 y2 y3 y4, LeO (laws_FnShrSum.l0 k y0 y1 y2 y3 y4) (laws_FnShrSum.l0 (k + 1) y0 y1 y2 y3 y4))
  | 0 => ⟨fun _ _ _ _ r h => by simp [laws_FnShrSum.j0] at h, fun _ _ _ _ _ r h => by simp [laws_FnShrSum.l0] at h⟩
  | k + 1 => by
    obtain ⟨ih0, ih1⟩ := laws_FnShrSum.mono_l k
    refine ⟨?_, ?_⟩
    · intro y0 y1 y2 y3
      unfold laws_FnShrSum.j0
      repeat' first
      | (with_reducible exact ih0 _ _ _ _)
      | (with_reducible exact ih1 _ _ _ _ _)
      | (with_reducible exact impl_ShrDue.mono _ _ _ _)
      | (with_reducible exact impl_ShrShare.mono _ _ _)
      | (with_reducible exact laws_pwInts.mono _ _ _)
      | (with_reducible exact laws_pwOk.mono _)
      | (with_reducible exact laws_pwSum.mono _ _)
      | (with_reducible exact spec_DrawShrShare.mono _ _)
      | (with_reducible exact spec_ShrOk.mono _ _ _)
      | (with_reducible exact spec_ShrShare.mono _ _ _)
      | (with_reducible exact LeO.refl _)
      | (with_reducible exact LeO.none _)
      | (with_reducible refine LeO.ite ?_ ?_)
      | (with_reducible refine LeO.bind ?_ (fun _ => ?_))
      | exact ih0 _ _ _ _
      | exact ih1 _ _ _ _ _
      | exact impl_ShrDue.mono _ _ _ _
      | exact impl_ShrShare.mono _ _ _
      | exact laws_pwInts.mono _ _ _
      | exact laws_pwOk.mono _
      | exact laws_pwSum.mono _ _
      | exact spec_DrawShrShare.mono _ _
      | exact spec_ShrOk.mono _ _ _
      | exact spec_ShrShare.mono _ _ _
      | exact LeO.none _
      | refine LeO.ite ?_ ?_
      | refine LeO.bind ?_ (fun _ => ?_)
    · intro y0 y1 y2 y3 y4
      unfold laws_FnShrSum.l0
      repeat' first
      | (with_reducible exact ih0 _ _ _ _)
      | (with_reducible exact ih1 _ _ _ _ _)
      | (with_reducible exact impl_ShrDue.mono _ _ _ _)
      | (with_reducible exact impl_ShrShare.mono _ _ _)
      | (with_reducible exact laws_pwInts.mono _ _ _)
      | (with_reducible exact laws_pwOk.mono _)
      | (with_reducible exact laws_pwSum.mono _ _)
      | (with_reducible exact spec_DrawShrShare.mono _ _)
      | (with_reducible exact spec_ShrOk.mono _ _ _)
      | (with_reducible exact spec_ShrShare.mono _ _ _)
      | (with_reducible exact LeO.refl _)
      | (with_reducible exact LeO.none _)
      | (with_reducible refine LeO.ite ?_ ?_)
      | (with_reducible refine LeO.bind ?_ (fun _ => ?_))
      | exact ih0 _ _ _ _
      | exact ih1 _ _ _ _ _
      | exact impl_ShrDue.mono _ _ _ _
      | exact impl_ShrShare.mono _ _ _
      | exact laws_pwInts.mono _ _ _
      | exact laws_pwOk.mono _
      | exact laws_pwSum.mono _ _
      | exact spec_DrawShrShare.mono _ _
      | exact spec_ShrOk.mono _ _ _
      | exact spec_ShrShare.mono _ _ _
      | exact LeO.none _
      | refine LeO.ite ?_ ?_
      | refine LeO.bind ?_ (fun _ => ?_)
theorem laws_FnShrSum.mono : ∀ a0 k, LeO (laws_FnShrSum.f k a0) (laws_FnShrSum.f (k + 1) a0) := by
  intro a0 k
  obtain ⟨ih0, ih1⟩ := laws_FnShrSum.mono_l k
  unfold laws_FnShrSum.f
  repeat' first
      | (with_reducible exact ih0 _ _ _ _)
      | (with_reducible exact ih1 _ _ _ _ _)
      | (with_reducible exact impl_ShrDue.mono _ _ _ _)
      | (with_reducible exact impl_ShrShare.mono _ _ _)
      | (with_reducible exact laws_pwInts.mono _ _ _)
      | (with_reducible exact laws_pwOk.mono _)
      | (with_reducible exact laws_pwSum.mono _ _)
      | (with_reducible exact spec_DrawShrShare.mono _ _)
      | (with_reducible exact spec_ShrOk.mono _ _ _)
      | (with_reducible exact spec_ShrShare.mono _ _ _)
      | (with_reducible exact LeO.refl _)
      | (with_reducible exact LeO.none _)
      | (with_reducible refine LeO.ite ?_ ?_)
      | (with_reducible refine LeO.bind ?_ (fun _ => ?_))
      | exact ih0 _ _ _ _
      | exact ih1 _ _ _ _ _
      | exact impl_ShrDue.mono _ _ _ _
      | exact impl_ShrShare.mono _ _ _
      | exact laws_pwInts.mono _ _ _
      | exact laws_pwOk.mono _
      | exact laws_pwSum.mono _ _
      | exact spec_DrawShrShare.mono _ _
      | exact spec_ShrOk.mono _ _ _
      | exact spec_ShrShare.mono _ _ _
      | exact LeO.none _
      | refine LeO.ite ?_ ?_
      | refine LeO.bind ?_ (fun _ => ?_)
set_option maxHeartbeats 8000000 in
set_option maxRecDepth 100000 in
theorem laws_FnShrSum.calls (k : Nat) (A0 : Option Addr) (c0 : Nat) (l0 : List Int) (r : Bool) (w : World) (hr0 : Kd.C (Kd.int .u8) w A0 l0.length l0) (hc0 : l0.length ≤ c0) (h : laws_FnShrSum.f k l0 = some r) :
    Calls Tryd.prog 3 #[.slice A0 l0.length c0] w fun e w' => e = .returned (.bool r) ∧ Below w.heap.size w w' := by
  have HR0 := Aside0.mk hr0
  have HC0 := Aside0.mk hc0
  clear hr0 hc0
  have HB := Aside0.mk (Below.refl w.heap.size w)
  have H : (if (l0.length : Int) > 1048576 then (some true) else ((spec_DrawShrShare.f k l0).bind fun bt257 => ((impl_ShrShare.f k bt257.1 bt257.2).bind fun t261 => ((spec_ShrShare.f k bt257.1 bt257.2).bind fun t264 => ((laws_pwInts.f k t261 t264).bind fun t267 => (if t267 = true then ((impl_ShrOk.f bt257.1 bt257.2).bind fun t268 => ((spec_ShrOk.f k bt257.1 bt257.2).bind fun t269 => (laws_FnShrSum.j0 k bt257.1 bt257.2 t261 (t268 != t269)))) else (laws_FnShrSum.j0 k bt257.1 bt257.2 t261 true))))))) = some r := h
  clear h
  by_cases c2 : (l0.length : Int) > 1048576
  · rw [if_pos c2] at H
    have c2b0 : decide (1048576 < (l0.length : Int)) = true := decide_eq_true c2
    have c2b1 : decide (1048576 < l0.length) = true := decide_eq_true (by omega)
    clear c2
    obtain rfl := Option.some.inj H
    go_enter Tryd.func3, Tryd.ntmps3
    go_wp2
    go_ret
    exact ⟨by first | rfl | (simp [errW_none, errW_some] <;> rfl) | (simp [*, errW_none, errW_some] <;> rfl), by repeat (first | (with_reducible first | exact HB.out | apply below_alloc | apply pw_below_drewN | apply below_drew1) | exact HB.out)⟩
  · rw [if_neg c2] at H
    have c2b0 : decide (1048576 < (l0.length : Int)) = false := decide_eq_false c2
    have c2b1 : decide (1048576 < l0.length) = false := decide_eq_false (by omega)
    clear c2
    replace H := Option.bind_eq_some_iff.mp H
    obtain ⟨⟨t257, t258⟩, A30, H⟩ := H
    replace H : ((impl_ShrShare.f k t257 t258).bind fun t261 => ((spec_ShrShare.f k t257 t258).bind fun t264 => ((laws_pwInts.f k t261 t264).bind fun t267 => (if t267 = true then ((impl_ShrOk.f t257 t258).bind fun t268 => ((spec_ShrOk.f k t257 t258).bind fun t269 => (laws_FnShrSum.j0 k t257 t258 t261 (t268 != t269)))) else (laws_FnShrSum.j0 k t257 t258 t261 true))))) = some r := H
    have A3 := Aside0.mk A30
    clear A30
    replace H := Option.bind_eq_some_iff.mp H
    obtain ⟨t261, A40, H⟩ := H
    replace H : ((spec_ShrShare.f k t257 t258).bind fun t264 => ((laws_pwInts.f k t261 t264).bind fun t267 => (if t267 = true then ((impl_ShrOk.f t257 t258).bind fun t268 => ((spec_ShrOk.f k t257 t258).bind fun t269 => (laws_FnShrSum.j0 k t257 t258 t261 (t268 != t269)))) else (laws_FnShrSum.j0 k t257 t258 t261 true)))) = some r := H
    have A4 := Aside0.mk A40
    clear A40
    have HC5 := Aside0.mk H
    clear H
    go_enter Tryd.func3, Tryd.ntmps3
    go_upto_region 5 with (first | ((with_reducible refine gate_callee (f := 14) rfl ?_); refine goesL_ (some 14) rfl rfl Tryd.func14 (by kernel_rfl) rfl #[.slice A0 l0.length c0] rfl (by (try simp only [List.map_toArray, List.map_cons, List.map_nil]); first | done | rfl | (simp only [List.length_drop, List.length_take]; rfl)) ?_; (with_reducible refine (spec_DrawShrShare.calls k _ _ l0 t257 t258 _ ?side1 ?side2 A3.out).mono ?_); (case side1 => repeat (first | exact HR0.out | (with_reducible refine Kd.C_alloc ?_ _) | (with_reducible refine Kd.C_drewN ?_ _) | (with_reducible refine Kd.C_drew ?_))); (case side2 => exact HC0.out); rintro e w6 ⟨v259, rfl, ho0, hb⟩; refine ⟨_, rfl, ?_⟩; have n0_ := Aside0.mk (Kd.R_lower ho0 (below_size (by repeat (first | (with_reducible first | exact HB.out | apply below_alloc | apply pw_below_drewN | apply below_drew1) | exact HB.out)))); have n1_ := Aside0.mk (below_step (by repeat (first | (with_reducible first | exact HB.out | apply below_alloc | apply pw_below_drewN | apply below_drew1) | exact HB.out)) hb); clear HB; have HO260 := n0_; have HB := n1_; clear n0_ n1_; (try clear hb); (try clear hb2); (try clear hk); (try clear hi); (try clear ho0); obtain ⟨Ao7, co7, eo7⟩ := Kd.R_slice HO260.out; subst eo7) | ((with_reducible refine gate_callee (f := 15) rfl ?_); refine goesL_ (some 19) rfl rfl Tryd.func15 (by kernel_rfl) rfl #[.int .i64 t257, .slice Ao7 t258.length co7] rfl (by (try simp only [List.map_toArray, List.map_cons, List.map_nil]); first | done | rfl | (simp only [List.length_drop, List.length_take]; rfl)) ?_; (with_reducible refine (impl_ShrShare.calls k t257 _ _ t258 t261 _ ?side1 ?side2 A4.out).mono ?_); (case side1 => repeat (first | exact (Kd.R_reads' HO260.out).2.2 | (with_reducible refine Kd.C_alloc ?_ _) | (with_reducible refine Kd.C_drewN ?_ _) | (with_reducible refine Kd.C_drew ?_))); (case side2 => exact (Kd.R_reads' HO260.out).2.1); rintro e w8 ⟨v262, rfl, ho0, hb⟩; refine ⟨_, rfl, ?_⟩; have n0_ := Aside0.mk (Kd.R_elder' (by (with_reducible repeat (first | apply Kd.R_alloc | apply Kd.R_drewN | apply Kd.R_drew)); exact HO260.out) (Kd.R_base ho0) hb); have n1_ := Aside0.mk (Kd.R_lower (Kd.R_new' ho0 (Kd.R_lt (by (with_reducible repeat (first | apply Kd.R_alloc | apply Kd.R_drewN | apply Kd.R_drew)); exact HO260.out))) (below_size (by repeat (first | (with_reducible first | exact HB.out | apply below_alloc | apply pw_below_drewN | apply below_drew1) | exact HB.out)))); have n2_ := Aside0.mk (below_step (by repeat (first | (with_reducible first | exact HB.out | apply below_alloc | apply pw_below_drewN | apply below_drew1) | exact HB.out)) hb); clear HO260; clear HB; have HO260 := n0_; have HO263 := n1_; have HB := n2_; clear n0_ n1_ n2_; (try clear hb); (try clear hb2); (try clear hk); (try clear hi); (try clear ho0)))
    (try simp only [Act.put, List.setIfInBounds_toArray, List.set_cons_zero, List.set_cons_succ])
    go_cut [34] (fun v34 wc => ∃ (kq : Nat) (x34_4 : Bool), v34 = .bool x34_4 ∧ Aside0 (laws_FnShrSum.j0 kq t257 t258 t261 x34_4 = some r) ∧ Aside0 (kq ≤ k) ∧ Aside0 (Kd.R (Kd.int .i64) 3 wc w.heap.size (fun k_ => some k_ ≠ (v262 : Value).ownBlock) (.slice Ao7 t258.length co7) t258) ∧ Aside0 (Kd.R (Kd.int .i64) 3 wc w.heap.size (fun k_ => some k_ ≠ ((.slice Ao7 t258.length co7) : Value).ownBlock) v262 t261) ∧ Aside0 (Below w.heap.size w wc))
    case first =>
      have H := HC5.out
      clear HC5
      replace H := Option.bind_eq_some_iff.mp H
      obtain ⟨t264, A90, H⟩ := H
      replace H : ((laws_pwInts.f k t261 t264).bind fun t267 => (if t267 = true then ((impl_ShrOk.f t257 t258).bind fun t268 => ((spec_ShrOk.f k t257 t258).bind fun t269 => (laws_FnShrSum.j0 k t257 t258 t261 (t268 != t269)))) else (laws_FnShrSum.j0 k t257 t258 t261 true))) = some r := H
      have A9 := Aside0.mk A90
      clear A90
      replace H := Option.bind_eq_some_iff.mp H
      obtain ⟨t267, A100, H⟩ := H
      replace H : (if t267 = true then ((impl_ShrOk.f t257 t258).bind fun t268 => ((spec_ShrOk.f k t257 t258).bind fun t269 => (laws_FnShrSum.j0 k t257 t258 t261 (t268 != t269)))) else (laws_FnShrSum.j0 k t257 t258 t261 true)) = some r := H
      have A10 := Aside0.mk A100
      clear A100
      by_cases c11 : t267 = true
      · subst c11
        have H1 : ((impl_ShrOk.f t257 t258).bind fun t268 => ((spec_ShrOk.f k t257 t258).bind fun t269 => (laws_FnShrSum.j0 k t257 t258 t261 (t268 != t269)))) = some r := by rw [if_pos rfl] at H; exact H
        clear H
        have H := H1
        clear H1
        replace H := Option.bind_eq_some_iff.mp H
        obtain ⟨t268, A120, H⟩ := H
        replace H : ((spec_ShrOk.f k t257 t258).bind fun t269 => (laws_FnShrSum.j0 k t257 t258 t261 (t268 != t269))) = some r := H
        have A12 := Aside0.mk A120
        clear A120
        replace H := Option.bind_eq_some_iff.mp H
        obtain ⟨t269, A130, H⟩ := H
        replace H : (laws_FnShrSum.j0 k t257 t258 t261 (t268 != t269)) = some r := H
        have A13 := Aside0.mk A130
        clear A130
        have H' := Aside0.mk H
        clear H
        go_wp2_with (first | ((with_reducible refine gate_callee (f := 17) rfl ?_); refine goesL_ (some 23) rfl rfl Tryd.func17 (by kernel_rfl) rfl #[.int .i64 t257, .slice Ao7 t258.length co7] rfl (by (try simp only [List.map_toArray, List.map_cons, List.map_nil]); first | done | rfl | (simp only [List.length_drop, List.length_take]; rfl)) ?_; (with_reducible refine (spec_ShrShare.calls k t257 _ _ t258 t264 _ ?side1 ?side2 A9.out).mono ?_); (case side1 => repeat (first | exact (Kd.R_reads' HO260.out).2.2 | (with_reducible refine Kd.C_alloc ?_ _) | (with_reducible refine Kd.C_drewN ?_ _) | (with_reducible refine Kd.C_drew ?_))); (case side2 => exact (Kd.R_reads' HO260.out).2.1); rintro e w14 ⟨v265, rfl, ho0, hb⟩; refine ⟨_, rfl, ?_⟩; have n0_ := Aside0.mk (Kd.R_elder' (by (with_reducible repeat (first | apply Kd.R_alloc | apply Kd.R_drewN | apply Kd.R_drew)); exact HO260.out) (Kd.R_base ho0) hb); have n1_ := Aside0.mk (Kd.R_elder' (by (with_reducible repeat (first | apply Kd.R_alloc | apply Kd.R_drewN | apply Kd.R_drew)); exact HO263.out) (Kd.R_base ho0) hb); have n2_ := Aside0.mk (Kd.R_lower (Kd.R_new' (Kd.R_new' ho0 (Kd.R_lt (by (with_reducible repeat (first | apply Kd.R_alloc | apply Kd.R_drewN | apply Kd.R_drew)); exact HO260.out))) (Kd.R_lt (by (with_reducible repeat (first | apply Kd.R_alloc | apply Kd.R_drewN | apply Kd.R_drew)); exact HO263.out))) (below_size (by repeat (first | (with_reducible first | exact HB.out | apply below_alloc | apply pw_below_drewN | apply below_drew1) | exact HB.out)))); have n3_ := Aside0.mk (below_step (by repeat (first | (with_reducible first | exact HB.out | apply below_alloc | apply pw_below_drewN | apply below_drew1) | exact HB.out)) hb); clear HO260; clear HO263; clear HB; have HO260 := n0_; have HO263 := n1_; have HO266 := n2_; have HB := n3_; clear n0_ n1_ n2_ n3_; (try clear hb); (try clear hb2); (try clear hk); (try clear hi); (try clear ho0); obtain ⟨Ao15, co15, eo15⟩ := Kd.R_slice HO263.out; subst eo15; obtain ⟨Ao16, co16, eo16⟩ := Kd.R_slice HO266.out; subst eo16) | ((with_reducible refine gate_callee (f := 16) rfl ?_); refine goesL_ (some 24) rfl rfl Tryd.func16 (by kernel_rfl) rfl #[.slice Ao15 t261.length co15, .slice Ao16 t264.length co16] rfl (by (try simp only [List.map_toArray, List.map_cons, List.map_nil]); first | done | rfl | (simp only [List.length_drop, List.length_take]; rfl)) ?_; (with_reducible refine (laws_pwInts.calls k _ _ t261 _ _ t264 true _ ?side1 ?side2 ?side3 ?side4 A10.out).mono ?_); (case side1 => repeat (first | exact (Kd.R_reads' HO263.out).2.2 | (with_reducible refine Kd.C_alloc ?_ _) | (with_reducible refine Kd.C_drewN ?_ _) | (with_reducible refine Kd.C_drew ?_))); (case side2 => exact (Kd.R_reads' HO263.out).2.1); (case side3 => repeat (first | exact (Kd.R_reads' HO266.out).2.2 | (with_reducible refine Kd.C_alloc ?_ _) | (with_reducible refine Kd.C_drewN ?_ _) | (with_reducible refine Kd.C_drew ?_))); (case side4 => exact (Kd.R_reads' HO266.out).2.1); rintro e w' ⟨rfl, ⟨nd, rfl⟩⟩; refine ⟨_, rfl, ?_⟩) | (go_at_call 18; (with_reducible refine (impl_ShrOk.calls t257 _ _ t258 t268 _ ?side1 ?side2 A12.out).mono ?_); (case side1 => repeat (first | exact (Kd.R_reads' HO260.out).2.2 | (with_reducible refine Kd.C_alloc ?_ _) | (with_reducible refine Kd.C_drewN ?_ _) | (with_reducible refine Kd.C_drew ?_))); (case side2 => exact (Kd.R_reads' HO260.out).2.1); rintro e w17 ⟨rfl, hb⟩; have n0_ := Aside0.mk (Kd.R_below (by (with_reducible repeat (first | apply Kd.R_alloc | apply Kd.R_drewN | apply Kd.R_drew)); exact HO260.out) hb); have n1_ := Aside0.mk (Kd.R_below (by (with_reducible repeat (first | apply Kd.R_alloc | apply Kd.R_drewN | apply Kd.R_drew)); exact HO263.out) hb); have n2_ := Aside0.mk (Kd.R_below (by (with_reducible repeat (first | apply Kd.R_alloc | apply Kd.R_drewN | apply Kd.R_drew)); exact HO266.out) hb); have n3_ := Aside0.mk (below_step (by repeat (first | (with_reducible first | exact HB.out | apply below_alloc | apply pw_below_drewN | apply below_drew1) | exact HB.out)) hb); clear HO260; clear HO263; clear HO266; clear HB; have HO260 := n0_; have HO263 := n1_; have HO266 := n2_; have HB := n3_; clear n0_ n1_ n2_ n3_; (try clear hb); (try clear hb2); (try clear hk); (try clear hi)) | (go_at_call 19; (with_reducible refine (spec_ShrOk.calls k t257 _ _ t258 t269 _ ?side1 ?side2 A13.out).mono ?_); (case side1 => repeat (first | exact (Kd.R_reads' HO260.out).2.2 | (with_reducible refine Kd.C_alloc ?_ _) | (with_reducible refine Kd.C_drewN ?_ _) | (with_reducible refine Kd.C_drew ?_))); (case side2 => exact (Kd.R_reads' HO260.out).2.1); rintro e w' ⟨rfl, ⟨nd, rfl⟩⟩))
        go_meet
        case rel => exact ⟨_, ((t268 != t269)), (by first | rfl | (simp; done) | (simp [*]; done)), H', ⟨by first | omega | exact Nat.le_refl _⟩, ⟨by (with_reducible repeat (first | apply Kd.R_alloc | apply Kd.R_drewN | apply Kd.R_drew)); exact Kd.R_mono HO260.out (fun _ hk => hk.1.2)⟩, ⟨by (with_reducible repeat (first | apply Kd.R_alloc | apply Kd.R_drewN | apply Kd.R_drew)); exact Kd.R_mono HO263.out (fun _ hk => hk.1.2)⟩, ⟨by repeat (first | (with_reducible first | exact HB.out | apply below_alloc | apply pw_below_drewN | apply below_drew1) | exact HB.out)⟩⟩
      · replace c11 := Bool.eq_false_iff.mpr c11
        subst c11
        have H1 : (laws_FnShrSum.j0 k t257 t258 t261 true) = some r := by rw [if_neg (show ¬ (false = true) by decide)] at H; exact H
        clear H
        have H := H1
        clear H1
        have H' := Aside0.mk H
        clear H
        go_wp2_with (first | ((with_reducible refine gate_callee (f := 17) rfl ?_); refine goesL_ (some 23) rfl rfl Tryd.func17 (by kernel_rfl) rfl #[.int .i64 t257, .slice Ao7 t258.length co7] rfl (by (try simp only [List.map_toArray, List.map_cons, List.map_nil]); first | done | rfl | (simp only [List.length_drop, List.length_take]; rfl)) ?_; (with_reducible refine (spec_ShrShare.calls k t257 _ _ t258 t264 _ ?side1 ?side2 A9.out).mono ?_); (case side1 => repeat (first | exact (Kd.R_reads' HO260.out).2.2 | (with_reducible refine Kd.C_alloc ?_ _) | (with_reducible refine Kd.C_drewN ?_ _) | (with_reducible refine Kd.C_drew ?_))); (case side2 => exact (Kd.R_reads' HO260.out).2.1); rintro e w18 ⟨v265, rfl, ho0, hb⟩; refine ⟨_, rfl, ?_⟩; have n0_ := Aside0.mk (Kd.R_elder' (by (with_reducible repeat (first | apply Kd.R_alloc | apply Kd.R_drewN | apply Kd.R_drew)); exact HO260.out) (Kd.R_base ho0) hb); have n1_ := Aside0.mk (Kd.R_elder' (by (with_reducible repeat (first | apply Kd.R_alloc | apply Kd.R_drewN | apply Kd.R_drew)); exact HO263.out) (Kd.R_base ho0) hb); have n2_ := Aside0.mk (Kd.R_lower (Kd.R_new' (Kd.R_new' ho0 (Kd.R_lt (by (with_reducible repeat (first | apply Kd.R_alloc | apply Kd.R_drewN | apply Kd.R_drew)); exact HO260.out))) (Kd.R_lt (by (with_reducible repeat (first | apply Kd.R_alloc | apply Kd.R_drewN | apply Kd.R_drew)); exact HO263.out))) (below_size (by repeat (first | (with_reducible first | exact HB.out | apply below_alloc | apply pw_below_drewN | apply below_drew1) | exact HB.out)))); have n3_ := Aside0.mk (below_step (by repeat (first | (with_reducible first | exact HB.out | apply below_alloc | apply pw_below_drewN | apply below_drew1) | exact HB.out)) hb); clear HO260; clear HO263; clear HB; have HO260 := n0_; have HO263 := n1_; have HO266 := n2_; have HB := n3_; clear n0_ n1_ n2_ n3_; (try clear hb); (try clear hb2); (try clear hk); (try clear hi); (try clear ho0); obtain ⟨Ao19, co19, eo19⟩ := Kd.R_slice HO263.out; subst eo19; obtain ⟨Ao20, co20, eo20⟩ := Kd.R_slice HO266.out; subst eo20) | ((with_reducible refine gate_callee (f := 16) rfl ?_); refine goesL_ (some 24) rfl rfl Tryd.func16 (by kernel_rfl) rfl #[.slice Ao19 t261.length co19, .slice Ao20 t264.length co20] rfl (by (try simp only [List.map_toArray, List.map_cons, List.map_nil]); first | done | rfl | (simp only [List.length_drop, List.length_take]; rfl)) ?_; (with_reducible refine (laws_pwInts.calls k _ _ t261 _ _ t264 false _ ?side1 ?side2 ?side3 ?side4 A10.out).mono ?_); (case side1 => repeat (first | exact (Kd.R_reads' HO263.out).2.2 | (with_reducible refine Kd.C_alloc ?_ _) | (with_reducible refine Kd.C_drewN ?_ _) | (with_reducible refine Kd.C_drew ?_))); (case side2 => exact (Kd.R_reads' HO263.out).2.1); (case side3 => repeat (first | exact (Kd.R_reads' HO266.out).2.2 | (with_reducible refine Kd.C_alloc ?_ _) | (with_reducible refine Kd.C_drewN ?_ _) | (with_reducible refine Kd.C_drew ?_))); (case side4 => exact (Kd.R_reads' HO266.out).2.1); rintro e w' ⟨rfl, ⟨nd, rfl⟩⟩; refine ⟨_, rfl, ?_⟩))
        go_meet
        case rel => exact ⟨_, (true), (by first | rfl | (simp; done) | (simp [*]; done)), H', ⟨by first | omega | exact Nat.le_refl _⟩, ⟨by (with_reducible repeat (first | apply Kd.R_alloc | apply Kd.R_drewN | apply Kd.R_drew)); exact Kd.R_mono HO260.out (fun _ hk => hk.1.2)⟩, ⟨by (with_reducible repeat (first | apply Kd.R_alloc | apply Kd.R_drewN | apply Kd.R_drew)); exact Kd.R_mono HO263.out (fun _ hk => hk.1.2)⟩, ⟨by repeat (first | (with_reducible first | exact HB.out | apply below_alloc | apply pw_below_drewN | apply below_drew1) | exact HB.out)⟩⟩
    case rest =>
      clear HC5
      try clear c1
      try clear c2
      try clear c2b0
      try clear c2b1
      try clear p2
      try clear c3
      try clear c11
      try clear c14
      try clear c15
      try clear c16
      try clear c17
      obtain ⟨kq, x34_4, rfl, HA, HJ4, HO_4, HO_5, HB⟩ := hcut
      cases kq with
      | zero => exact absurd HA.out (by simp [laws_FnShrSum.j0])
      | succ kj4 =>
        have H := HA.out
        clear HA
        simp only [laws_FnShrSum.j0] at H
        by_cases c21 : x34_4 = true
        · subst c21
          have H1 : (some false) = some r := by rw [if_pos rfl] at H; exact H
          clear H
          have H := H1
          clear H1
          obtain rfl := Option.some.inj H
          go_wp2
          go_ret
          exact ⟨by first | rfl | (simp [errW_none, errW_some] <;> rfl) | (simp [*, errW_none, errW_some] <;> rfl), by repeat (first | (with_reducible first | exact HB.out | apply below_alloc | apply pw_below_drewN | apply below_drew1) | exact HB.out)⟩
        · replace c21 := Bool.eq_false_iff.mpr c21
          subst c21
          have H1 : ((spec_ShrOk.f kj4 t257 t258).bind fun t270 => (if t270 = true then (if (t258.length : Int) = 0 then (if (t261.length : Int) = 0 then ((laws_pwOk.f kj4).bind fun t272 => (some t272)) else (some false)) else ((laws_pwSum.f kj4 t258).bind fun t273 => (laws_FnShrSum.l0 kj4 t257 t258 t261 (decide (t273 > 0)) 0))) else (if (t261.length : Int) = 0 then ((laws_pwOk.f kj4).bind fun t271 => (some t271)) else (some false)))) = some r := by rw [if_neg (show ¬ (false = true) by decide)] at H; exact H
          clear H
          have H := H1
          clear H1
          replace H := Option.bind_eq_some_iff.mp H
          obtain ⟨t270, A220, H⟩ := H
          replace H : (if t270 = true then (if (t258.length : Int) = 0 then (if (t261.length : Int) = 0 then ((laws_pwOk.f kj4).bind fun t272 => (some t272)) else (some false)) else ((laws_pwSum.f kj4 t258).bind fun t273 => (laws_FnShrSum.l0 kj4 t257 t258 t261 (decide (t273 > 0)) 0))) else (if (t261.length : Int) = 0 then ((laws_pwOk.f kj4).bind fun t271 => (some t271)) else (some false))) = some r := H
          have A22 := Aside0.mk A220
          clear A220
          by_cases c23 : t270 = true
          · subst c23
            have H1 : (if (t258.length : Int) = 0 then (if (t261.length : Int) = 0 then ((laws_pwOk.f kj4).bind fun t272 => (some t272)) else (some false)) else ((laws_pwSum.f kj4 t258).bind fun t273 => (laws_FnShrSum.l0 kj4 t257 t258 t261 (decide (t273 > 0)) 0))) = some r := by rw [if_pos rfl] at H; exact H
            clear H
            have H := H1
            clear H1
            by_cases c24 : (t258.length : Int) = 0
            · rw [if_pos c24] at H
              have c24b0 : ((t258.length : Int) == 0) = true := beq_iff_eq.mpr c24
              have c24b1 : ((t258.length : Int) != 0) = false := bne_eq_false_iff_eq.mpr c24
              clear c24
              by_cases c25 : (t261.length : Int) = 0
              · rw [if_pos c25] at H
                have c25b0 : ((t261.length : Int) == 0) = true := beq_iff_eq.mpr c25
                have c25b1 : ((t261.length : Int) != 0) = false := bne_eq_false_iff_eq.mpr c25
                clear c25
                replace H := Option.bind_eq_some_iff.mp H
                obtain ⟨t272, A260, H⟩ := H
                replace H : (some t272) = some r := H
                have A26 := Aside0.mk A260
                clear A260
                obtain rfl := Option.some.inj H
                go_wp2_with (first | ((with_reducible refine gate_callee (f := 19) rfl ?_); refine goesL_ (some 37) rfl rfl Tryd.func19 (by kernel_rfl) rfl #[.int .i64 t257, .slice Ao7 t258.length co7] rfl (by (try simp only [List.map_toArray, List.map_cons, List.map_nil]); first | done | rfl | (simp only [List.length_drop, List.length_take]; rfl)) ?_; (with_reducible refine (spec_ShrOk.calls kj4 t257 _ _ t258 true _ ?side1 ?side2 A22.out).mono ?_); (case side1 => repeat (first | exact (Kd.R_reads' HO_4.out).2.2 | (with_reducible refine Kd.C_alloc ?_ _) | (with_reducible refine Kd.C_drewN ?_ _) | (with_reducible refine Kd.C_drew ?_))); (case side2 => exact (Kd.R_reads' HO_4.out).2.1); rintro e w' ⟨rfl, ⟨nd, rfl⟩⟩; refine ⟨_, rfl, ?_⟩; obtain ⟨Ao27, co27, eo27⟩ := Kd.R_slice HO_5.out; subst eo27) | (go_at_call 20; (with_reducible refine (laws_pwOk.calls kj4  t272 _ A26.out).mono ?_); rintro e w28 ⟨rfl, hb⟩; have n0_ := Aside0.mk (Kd.R_below (by (with_reducible repeat (first | apply Kd.R_alloc | apply Kd.R_drewN | apply Kd.R_drew)); exact HO_4.out) hb); have n1_ := Aside0.mk (Kd.R_below (by (with_reducible repeat (first | apply Kd.R_alloc | apply Kd.R_drewN | apply Kd.R_drew)); exact HO_5.out) hb); have n2_ := Aside0.mk (below_step (by repeat (first | (with_reducible first | exact HB.out | apply below_alloc | apply pw_below_drewN | apply below_drew1) | exact HB.out)) hb); clear HO_4; clear HO_5; clear HB; have HO_4 := n0_; have HO_5 := n1_; have HB := n2_; clear n0_ n1_ n2_; (try clear hb); (try clear hb2); (try clear hk); (try clear hi)))
                go_ret
                exact ⟨by first | rfl | (simp [errW_none, errW_some] <;> rfl) | (simp [*, errW_none, errW_some] <;> rfl), by repeat (first | (with_reducible first | exact HB.out | apply below_alloc | apply pw_below_drewN | apply below_drew1) | exact HB.out)⟩
              · rw [if_neg c25] at H
                have c25b0 : ((t261.length : Int) == 0) = false := beq_eq_false_iff_ne.mpr c25
                have c25b1 : ((t261.length : Int) != 0) = true := bne_iff_ne.mpr c25
                have c25b2 : ¬ (t261 = []) := fun h_ => c25 (by rw [h_]; rfl)
                obtain rfl := Option.some.inj H
                go_wp2_with (first | ((with_reducible refine gate_callee (f := 19) rfl ?_); refine goesL_ (some 37) rfl rfl Tryd.func19 (by kernel_rfl) rfl #[.int .i64 t257, .slice Ao7 t258.length co7] rfl (by (try simp only [List.map_toArray, List.map_cons, List.map_nil]); first | done | rfl | (simp only [List.length_drop, List.length_take]; rfl)) ?_; (with_reducible refine (spec_ShrOk.calls kj4 t257 _ _ t258 true _ ?side1 ?side2 A22.out).mono ?_); (case side1 => repeat (first | exact (Kd.R_reads' HO_4.out).2.2 | (with_reducible refine Kd.C_alloc ?_ _) | (with_reducible refine Kd.C_drewN ?_ _) | (with_reducible refine Kd.C_drew ?_))); (case side2 => exact (Kd.R_reads' HO_4.out).2.1); rintro e w' ⟨rfl, ⟨nd, rfl⟩⟩; refine ⟨_, rfl, ?_⟩; obtain ⟨Ao29, co29, eo29⟩ := Kd.R_slice HO_5.out; subst eo29))
                go_ret
                exact ⟨by first | rfl | (simp [errW_none, errW_some] <;> rfl) | (simp [*, errW_none, errW_some] <;> rfl), by repeat (first | (with_reducible first | exact HB.out | apply below_alloc | apply pw_below_drewN | apply below_drew1) | exact HB.out)⟩
            · rw [if_neg c24] at H
              have c24b0 : ((t258.length : Int) == 0) = false := beq_eq_false_iff_ne.mpr c24
              have c24b1 : ((t258.length : Int) != 0) = true := bne_iff_ne.mpr c24
              have c24b2 : ¬ (t258 = []) := fun h_ => c24 (by rw [h_]; rfl)
              replace H := Option.bind_eq_some_iff.mp H
              obtain ⟨t273, A300, H⟩ := H
              replace H : (laws_FnShrSum.l0 kj4 t257 t258 t261 (decide (t273 > 0)) 0) = some r := H
              have A30 := Aside0.mk A300
              clear A300
              have H' := Aside0.mk H
              clear H
              go_wp2_with (first | ((with_reducible refine gate_callee (f := 19) rfl ?_); refine goesL_ (some 37) rfl rfl Tryd.func19 (by kernel_rfl) rfl #[.int .i64 t257, .slice Ao7 t258.length co7] rfl (by (try simp only [List.map_toArray, List.map_cons, List.map_nil]); first | done | rfl | (simp only [List.length_drop, List.length_take]; rfl)) ?_; (with_reducible refine (spec_ShrOk.calls kj4 t257 _ _ t258 true _ ?side1 ?side2 A22.out).mono ?_); (case side1 => repeat (first | exact (Kd.R_reads' HO_4.out).2.2 | (with_reducible refine Kd.C_alloc ?_ _) | (with_reducible refine Kd.C_drewN ?_ _) | (with_reducible refine Kd.C_drew ?_))); (case side2 => exact (Kd.R_reads' HO_4.out).2.1); rintro e w' ⟨rfl, ⟨nd, rfl⟩⟩; refine ⟨_, rfl, ?_⟩) | ((with_reducible refine gate_callee (f := 21) rfl ?_); refine goesL_ (some 55) rfl rfl Tryd.func21 (by kernel_rfl) rfl #[.slice Ao7 t258.length co7] rfl (by (try simp only [List.map_toArray, List.map_cons, List.map_nil]); first | done | rfl | (simp only [List.length_drop, List.length_take]; rfl)) ?_; (with_reducible refine (laws_pwSum.calls kj4 _ _ t258 t273 _ ?side1 ?side2 A30.out).mono ?_); (case side1 => repeat (first | exact (Kd.R_reads' HO_4.out).2.2 | (with_reducible refine Kd.C_alloc ?_ _) | (with_reducible refine Kd.C_drewN ?_ _) | (with_reducible refine Kd.C_drew ?_))); (case side2 => exact (Kd.R_reads' HO_4.out).2.1); rintro e w' ⟨rfl, ⟨nd, rfl⟩⟩; refine ⟨_, rfl, ?_⟩))
              go_loopg [7] kj4 (fun kq v7 w' => ∃ (x7_2 : Int), v7 = .int .i64 x7_2 ∧ Aside0 (laws_FnShrSum.l0 kq t257 t258 t261 (decide (t273 > 0)) x7_2 = some r) ∧ Aside0 (kq ≤ kj4) ∧ Aside0 (Kd.R (Kd.int .i64) 3 w' w.heap.size (fun k_ => some k_ ≠ (v262 : Value).ownBlock) (.slice Ao7 t258.length co7) t258) ∧ Aside0 (Kd.R (Kd.int .i64) 3 w' w.heap.size (fun k_ => some k_ ≠ ((.slice Ao7 t258.length co7) : Value).ownBlock) v262 t261) ∧ Aside0 (Below w.heap.size w w'))
              case atStart => exact ⟨(0), (by first | rfl | (simp; done) | (simp [*]; done)), H', ⟨Nat.le_refl _⟩, ⟨by (with_reducible repeat (first | apply Kd.R_alloc | apply Kd.R_drewN | apply Kd.R_drew)); exact HO_4.out⟩, ⟨by (with_reducible repeat (first | apply Kd.R_alloc | apply Kd.R_drewN | apply Kd.R_drew)); exact HO_5.out⟩, ⟨by repeat (first | (with_reducible first | exact HB.out | apply below_alloc | apply pw_below_drewN | apply below_drew1) | exact HB.out)⟩⟩
              case round =>
                clear H'
                try clear c1
                try clear c2
                try clear c2b0
                try clear c2b1
                try clear p2
                try clear c3
                try clear c11
                try clear c14
                try clear c15
                try clear c16
                try clear c17
                try clear c19
                try clear c21
                try clear c23
                try clear c24
                try clear c24b0
                try clear c24b1
                try clear c24b2
                try clear c25
                try clear c25b0
                try clear c25b1
                try clear c25b2
                try clear p2
                obtain ⟨x7_2, rfl, HA, HK2, HO_4, HO_5, HB⟩ := hrel
                cases gk with
                | zero => exact absurd HA.out (by simp [laws_FnShrSum.l0])
                | succ k2 =>
                  have H := HA.out
                  clear HA
                  simp only [laws_FnShrSum.l0] at H
                  by_cases c31 : x7_2 < (t261.length : Int)
                  · rw [if_pos c31] at H
                    have c31b0 : decide (x7_2 < (t261.length : Int)) = true := decide_eq_true c31
                    clear c31
                    replace H := Option.bind_eq_some_iff.mp H
                    obtain ⟨t274, A320, H⟩ := H
                    replace H : (if (decide (t273 > 0)) = true then (if 0 ≤ x7_2 then (if (rd t261 x7_2) = t274 then (if x7_2 < (t258.length : Int) then (if (rd t258 x7_2) = 0 then (if (rd t261 x7_2) = 0 then (laws_FnShrSum.l0 k2 t257 t258 t261 (decide (t273 > 0)) (wrap64 (x7_2 + 1))) else (some false)) else (laws_FnShrSum.l0 k2 t257 t258 t261 (decide (t273 > 0)) (wrap64 (x7_2 + 1)))) else (none)) else (if (rd t261 x7_2) = (wrap64 (t274 + 1)) then (if x7_2 < (t258.length : Int) then (if (rd t258 x7_2) = 0 then (if (rd t261 x7_2) = 0 then (laws_FnShrSum.l0 k2 t257 t258 t261 (decide (t273 > 0)) (wrap64 (x7_2 + 1))) else (some false)) else (laws_FnShrSum.l0 k2 t257 t258 t261 (decide (t273 > 0)) (wrap64 (x7_2 + 1)))) else (none)) else (some false))) else (none)) else (laws_FnShrSum.l0 k2 t257 t258 t261 (decide (t273 > 0)) (wrap64 (x7_2 + 1)))) = some r := H
                    have A32 := Aside0.mk A320
                    clear A320
                    by_cases c33 : (decide (t273 > 0)) = true
                    · rw [if_pos c33] at H
                      have c33b0 : (decide (t273 > 0)) = true := c33
                      clear c33
                      by_cases c34 : 0 ≤ x7_2
                      · rw [if_pos c34] at H
                        have c34b0 : decide (0 ≤ x7_2) = true := decide_eq_true c34
                        clear c34
                        by_cases c35 : (rd t261 x7_2) = t274
                        · rw [if_pos c35] at H
                          have c35b0 : ((rd t261 x7_2) == t274) = true := beq_iff_eq.mpr c35
                          have c35b1 : ((rd t261 x7_2) != t274) = false := bne_eq_false_iff_eq.mpr c35
                          clear c35
                          by_cases c36 : x7_2 < (t258.length : Int)
                          · rw [if_pos c36] at H
                            have c36b0 : decide (x7_2 < (t258.length : Int)) = true := decide_eq_true c36
                            clear c36
                            by_cases c37 : (rd t258 x7_2) = 0
                            · rw [if_pos c37] at H
                              have c37b0 : ((rd t258 x7_2) == 0) = true := beq_iff_eq.mpr c37
                              have c37b1 : ((rd t258 x7_2) != 0) = false := bne_eq_false_iff_eq.mpr c37
                              clear c37
                              by_cases c38 : (rd t261 x7_2) = 0
                              · rw [if_pos c38] at H
                                have c38b0 : ((rd t261 x7_2) == 0) = true := beq_iff_eq.mpr c38
                                have c38b1 : ((rd t261 x7_2) != 0) = false := bne_eq_false_iff_eq.mpr c38
                                clear c38
                                have H' := Aside0.mk H
                                clear H
                                obtain ⟨Ao39, co39, eo39⟩ := Kd.R_slice HO_5.out
                                subst eo39
                                go_wp2_with (first | ((with_reducible refine gate_callee (f := 22) rfl ?_); refine goesL_ (some 66) rfl rfl Tryd.func22 (by kernel_rfl) rfl #[.int .i64 t257, .slice Ao7 t258.length co7, .int .i64 x7_2] rfl (by (try simp only [List.map_toArray, List.map_cons, List.map_nil]); first | done | rfl | (simp only [List.length_drop, List.length_take]; rfl)) ?_; (with_reducible refine (impl_ShrDue.calls k2 t257 _ _ t258 x7_2 t274 _ ?side1 ?side2 A32.out).mono ?_); (case side1 => repeat (first | exact (Kd.R_reads' HO_4.out).2.2 | (with_reducible refine Kd.C_alloc ?_ _) | (with_reducible refine Kd.C_drewN ?_ _) | (with_reducible refine Kd.C_drew ?_))); (case side2 => exact (Kd.R_reads' HO_4.out).2.1); rintro e w40 ⟨rfl, hb⟩; refine ⟨_, rfl, ?_⟩; have n0_ := Aside0.mk (Kd.R_below (by (with_reducible repeat (first | apply Kd.R_alloc | apply Kd.R_drewN | apply Kd.R_drew)); exact HO_4.out) hb); have n1_ := Aside0.mk (Kd.R_below (by (with_reducible repeat (first | apply Kd.R_alloc | apply Kd.R_drewN | apply Kd.R_drew)); exact HO_5.out) hb); have n2_ := Aside0.mk (below_step (by repeat (first | (with_reducible first | exact HB.out | apply below_alloc | apply pw_below_drewN | apply below_drew1) | exact HB.out)) hb); clear HO_4; clear HO_5; clear HB; have HO_4 := n0_; have HO_5 := n1_; have HB := n2_; clear n0_ n1_ n2_; (try clear hb); (try clear hb2); (try clear hk); (try clear hi); have p275 : 0 ≤ (x7_2 : Int) := of_decide_eq_true (by first | (with_reducible assumption) | assumption); have q275 : x7_2 < (t261.length : Int) := of_decide_eq_true (by first | (with_reducible assumption) | assumption); obtain ⟨ad275, e275, hx275_0⟩ := Kd.at_int (Kd.R_reads' HO_5.out).2.2 x7_2 p275 q275; cases e275; replace p275 := eq_true p275; replace q275 := eq_true q275; have p276 : 0 ≤ (x7_2 : Int) := of_decide_eq_true (by first | (with_reducible assumption) | assumption); have q276 : x7_2 < (t258.length : Int) := of_decide_eq_true (by first | (with_reducible assumption) | assumption); obtain ⟨ad276, e276, hx276_0⟩ := Kd.at_int (Kd.R_reads' HO_4.out).2.2 x7_2 p276 q276; cases e276; replace p276 := eq_true p276; replace q276 := eq_true q276; have p277 : 0 ≤ (x7_2 : Int) := of_decide_eq_true (by first | (with_reducible assumption) | assumption); have q277 : x7_2 < (t261.length : Int) := of_decide_eq_true (by first | (with_reducible assumption) | assumption); obtain ⟨ad277, e277, hx277_0⟩ := Kd.at_int (Kd.R_reads' HO_5.out).2.2 x7_2 p277 q277; obtain rfl : ad275 = ad277 := (by injection e277); replace p277 := eq_true p277; replace q277 := eq_true q277))
                                (conv => arg 3; arg 1; arg 1; arg 2; arg 2; arg 2; arg 2; arg 2; arg 2; arg 1; rw [← (show decide (0 < t273) = _ from c33b0)])
                                (conv => arg 3; arg 1; arg 1; arg 2; arg 2; arg 2; arg 2; arg 2; arg 2; arg 2; arg 2; arg 2; arg 2; arg 2; arg 2; arg 2; arg 2; arg 2; arg 2; arg 2; arg 2; arg 2; arg 2; arg 2; arg 2; arg 2; arg 2; arg 2; arg 2; arg 2; arg 2; arg 2; arg 2; arg 2; arg 2; arg 2; arg 2; arg 2; arg 2; arg 2; arg 2; arg 2; arg 2; arg 2; arg 2; arg 2; arg 2; arg 2; arg 2; arg 2; arg 2; arg 2; arg 2; arg 2; arg 2; arg 2; arg 2; arg 2; arg 2; arg 1; rw [← (show decide (0 < t273) = _ from c33b0)])
                                go_roundg k2
                                case measure => have := HJ4.out; have := HK2.out; omega
                                case rel => exact ⟨(wrap64 (x7_2 + 1)), (by first | rfl | (simp; done) | (simp [*]; done)), H', ⟨by have := HJ4.out; have := HK2.out; omega⟩, ⟨by (with_reducible repeat (first | apply Kd.R_alloc | apply Kd.R_drewN | apply Kd.R_drew)); exact HO_4.out⟩, ⟨by (with_reducible repeat (first | apply Kd.R_alloc | apply Kd.R_drewN | apply Kd.R_drew)); exact HO_5.out⟩, ⟨by repeat (first | (with_reducible first | exact HB.out | apply below_alloc | apply pw_below_drewN | apply below_drew1) | exact HB.out)⟩⟩
                              · rw [if_neg c38] at H
                                have c38b0 : ((rd t261 x7_2) == 0) = false := beq_eq_false_iff_ne.mpr c38
                                have c38b1 : ((rd t261 x7_2) != 0) = true := bne_iff_ne.mpr c38
                                obtain rfl := Option.some.inj H
                                obtain ⟨Ao41, co41, eo41⟩ := Kd.R_slice HO_5.out
                                subst eo41
                                go_wp2_with (first | ((with_reducible refine gate_callee (f := 22) rfl ?_); refine goesL_ (some 66) rfl rfl Tryd.func22 (by kernel_rfl) rfl #[.int .i64 t257, .slice Ao7 t258.length co7, .int .i64 x7_2] rfl (by (try simp only [List.map_toArray, List.map_cons, List.map_nil]); first | done | rfl | (simp only [List.length_drop, List.length_take]; rfl)) ?_; (with_reducible refine (impl_ShrDue.calls k2 t257 _ _ t258 x7_2 t274 _ ?side1 ?side2 A32.out).mono ?_); (case side1 => repeat (first | exact (Kd.R_reads' HO_4.out).2.2 | (with_reducible refine Kd.C_alloc ?_ _) | (with_reducible refine Kd.C_drewN ?_ _) | (with_reducible refine Kd.C_drew ?_))); (case side2 => exact (Kd.R_reads' HO_4.out).2.1); rintro e w42 ⟨rfl, hb⟩; refine ⟨_, rfl, ?_⟩; have n0_ := Aside0.mk (Kd.R_below (by (with_reducible repeat (first | apply Kd.R_alloc | apply Kd.R_drewN | apply Kd.R_drew)); exact HO_4.out) hb); have n1_ := Aside0.mk (Kd.R_below (by (with_reducible repeat (first | apply Kd.R_alloc | apply Kd.R_drewN | apply Kd.R_drew)); exact HO_5.out) hb); have n2_ := Aside0.mk (below_step (by repeat (first | (with_reducible first | exact HB.out | apply below_alloc | apply pw_below_drewN | apply below_drew1) | exact HB.out)) hb); clear HO_4; clear HO_5; clear HB; have HO_4 := n0_; have HO_5 := n1_; have HB := n2_; clear n0_ n1_ n2_; (try clear hb); (try clear hb2); (try clear hk); (try clear hi); have p275 : 0 ≤ (x7_2 : Int) := of_decide_eq_true (by first | (with_reducible assumption) | assumption); have q275 : x7_2 < (t261.length : Int) := of_decide_eq_true (by first | (with_reducible assumption) | assumption); obtain ⟨ad275, e275, hx275_0⟩ := Kd.at_int (Kd.R_reads' HO_5.out).2.2 x7_2 p275 q275; cases e275; replace p275 := eq_true p275; replace q275 := eq_true q275; have p276 : 0 ≤ (x7_2 : Int) := of_decide_eq_true (by first | (with_reducible assumption) | assumption); have q276 : x7_2 < (t258.length : Int) := of_decide_eq_true (by first | (with_reducible assumption) | assumption); obtain ⟨ad276, e276, hx276_0⟩ := Kd.at_int (Kd.R_reads' HO_4.out).2.2 x7_2 p276 q276; cases e276; replace p276 := eq_true p276; replace q276 := eq_true q276; have p277 : 0 ≤ (x7_2 : Int) := of_decide_eq_true (by first | (with_reducible assumption) | assumption); have q277 : x7_2 < (t261.length : Int) := of_decide_eq_true (by first | (with_reducible assumption) | assumption); obtain ⟨ad277, e277, hx277_0⟩ := Kd.at_int (Kd.R_reads' HO_5.out).2.2 x7_2 p277 q277; obtain rfl : ad275 = ad277 := (by injection e277); replace p277 := eq_true p277; replace q277 := eq_true q277))
                                go_ret
                                exact ⟨by first | rfl | (simp [errW_none, errW_some] <;> rfl) | (simp [*, errW_none, errW_some] <;> rfl), by repeat (first | (with_reducible first | exact HB.out | apply below_alloc | apply pw_below_drewN | apply below_drew1) | exact HB.out)⟩
                            · rw [if_neg c37] at H
                              have c37b0 : ((rd t258 x7_2) == 0) = false := beq_eq_false_iff_ne.mpr c37
                              have c37b1 : ((rd t258 x7_2) != 0) = true := bne_iff_ne.mpr c37
                              have H' := Aside0.mk H
                              clear H
                              obtain ⟨Ao43, co43, eo43⟩ := Kd.R_slice HO_5.out
                              subst eo43
                              go_wp2_with (first | ((with_reducible refine gate_callee (f := 22) rfl ?_); refine goesL_ (some 66) rfl rfl Tryd.func22 (by kernel_rfl) rfl #[.int .i64 t257, .slice Ao7 t258.length co7, .int .i64 x7_2] rfl (by (try simp only [List.map_toArray, List.map_cons, List.map_nil]); first | done | rfl | (simp only [List.length_drop, List.length_take]; rfl)) ?_; (with_reducible refine (impl_ShrDue.calls k2 t257 _ _ t258 x7_2 t274 _ ?side1 ?side2 A32.out).mono ?_); (case side1 => repeat (first | exact (Kd.R_reads' HO_4.out).2.2 | (with_reducible refine Kd.C_alloc ?_ _) | (with_reducible refine Kd.C_drewN ?_ _) | (with_reducible refine Kd.C_drew ?_))); (case side2 => exact (Kd.R_reads' HO_4.out).2.1); rintro e w44 ⟨rfl, hb⟩; refine ⟨_, rfl, ?_⟩; have n0_ := Aside0.mk (Kd.R_below (by (with_reducible repeat (first | apply Kd.R_alloc | apply Kd.R_drewN | apply Kd.R_drew)); exact HO_4.out) hb); have n1_ := Aside0.mk (Kd.R_below (by (with_reducible repeat (first | apply Kd.R_alloc | apply Kd.R_drewN | apply Kd.R_drew)); exact HO_5.out) hb); have n2_ := Aside0.mk (below_step (by repeat (first | (with_reducible first | exact HB.out | apply below_alloc | apply pw_below_drewN | apply below_drew1) | exact HB.out)) hb); clear HO_4; clear HO_5; clear HB; have HO_4 := n0_; have HO_5 := n1_; have HB := n2_; clear n0_ n1_ n2_; (try clear hb); (try clear hb2); (try clear hk); (try clear hi); have p275 : 0 ≤ (x7_2 : Int) := of_decide_eq_true (by first | (with_reducible assumption) | assumption); have q275 : x7_2 < (t261.length : Int) := of_decide_eq_true (by first | (with_reducible assumption) | assumption); obtain ⟨ad275, e275, hx275_0⟩ := Kd.at_int (Kd.R_reads' HO_5.out).2.2 x7_2 p275 q275; cases e275; replace p275 := eq_true p275; replace q275 := eq_true q275; have p276 : 0 ≤ (x7_2 : Int) := of_decide_eq_true (by first | (with_reducible assumption) | assumption); have q276 : x7_2 < (t258.length : Int) := of_decide_eq_true (by first | (with_reducible assumption) | assumption); obtain ⟨ad276, e276, hx276_0⟩ := Kd.at_int (Kd.R_reads' HO_4.out).2.2 x7_2 p276 q276; cases e276; replace p276 := eq_true p276; replace q276 := eq_true q276))
                              (conv => arg 3; arg 1; arg 1; arg 2; arg 2; arg 2; arg 2; arg 2; arg 2; arg 1; rw [← (show decide (0 < t273) = _ from c33b0)])
                              (conv => arg 3; arg 1; arg 1; arg 2; arg 2; arg 2; arg 2; arg 2; arg 2; arg 2; arg 2; arg 2; arg 2; arg 2; arg 2; arg 2; arg 2; arg 2; arg 2; arg 2; arg 2; arg 2; arg 2; arg 2; arg 2; arg 2; arg 2; arg 2; arg 2; arg 2; arg 2; arg 2; arg 2; arg 2; arg 2; arg 2; arg 2; arg 2; arg 2; arg 2; arg 2; arg 2; arg 2; arg 2; arg 2; arg 2; arg 2; arg 2; arg 2; arg 2; arg 2; arg 2; arg 2; arg 2; arg 2; arg 2; arg 2; arg 2; arg 2; arg 1; rw [← (show decide (0 < t273) = _ from c33b0)])
                              go_roundg k2
                              case measure => have := HJ4.out; have := HK2.out; omega
                              case rel => exact ⟨(wrap64 (x7_2 + 1)), (by first | rfl | (simp; done) | (simp [*]; done)), H', ⟨by have := HJ4.out; have := HK2.out; omega⟩, ⟨by (with_reducible repeat (first | apply Kd.R_alloc | apply Kd.R_drewN | apply Kd.R_drew)); exact HO_4.out⟩, ⟨by (with_reducible repeat (first | apply Kd.R_alloc | apply Kd.R_drewN | apply Kd.R_drew)); exact HO_5.out⟩, ⟨by repeat (first | (with_reducible first | exact HB.out | apply below_alloc | apply pw_below_drewN | apply below_drew1) | exact HB.out)⟩⟩
                          · rw [if_neg c36] at H
                            exact absurd H (by simp)
                        · rw [if_neg c35] at H
                          have c35b0 : ((rd t261 x7_2) == t274) = false := beq_eq_false_iff_ne.mpr c35
                          have c35b1 : ((rd t261 x7_2) != t274) = true := bne_iff_ne.mpr c35
                          by_cases c45 : (rd t261 x7_2) = (wrap64 (t274 + 1))
                          · rw [if_pos c45] at H
                            have c45b0 : ((rd t261 x7_2) == (wrap64 (t274 + 1))) = true := beq_iff_eq.mpr c45
                            have c45b1 : ((rd t261 x7_2) != (wrap64 (t274 + 1))) = false := bne_eq_false_iff_eq.mpr c45
                            clear c45
                            by_cases c46 : x7_2 < (t258.length : Int)
                            · rw [if_pos c46] at H
                              have c46b0 : decide (x7_2 < (t258.length : Int)) = true := decide_eq_true c46
                              clear c46
                              by_cases c47 : (rd t258 x7_2) = 0
                              · rw [if_pos c47] at H
                                have c47b0 : ((rd t258 x7_2) == 0) = true := beq_iff_eq.mpr c47
                                have c47b1 : ((rd t258 x7_2) != 0) = false := bne_eq_false_iff_eq.mpr c47
                                clear c47
                                by_cases c48 : (rd t261 x7_2) = 0
                                · rw [if_pos c48] at H
                                  have c48b0 : ((rd t261 x7_2) == 0) = true := beq_iff_eq.mpr c48
                                  have c48b1 : ((rd t261 x7_2) != 0) = false := bne_eq_false_iff_eq.mpr c48
                                  clear c48
                                  have H' := Aside0.mk H
                                  clear H
                                  obtain ⟨Ao49, co49, eo49⟩ := Kd.R_slice HO_5.out
                                  subst eo49
                                  go_wp2_with (first | ((with_reducible refine gate_callee (f := 22) rfl ?_); refine goesL_ (some 66) rfl rfl Tryd.func22 (by kernel_rfl) rfl #[.int .i64 t257, .slice Ao7 t258.length co7, .int .i64 x7_2] rfl (by (try simp only [List.map_toArray, List.map_cons, List.map_nil]); first | done | rfl | (simp only [List.length_drop, List.length_take]; rfl)) ?_; (with_reducible refine (impl_ShrDue.calls k2 t257 _ _ t258 x7_2 t274 _ ?side1 ?side2 A32.out).mono ?_); (case side1 => repeat (first | exact (Kd.R_reads' HO_4.out).2.2 | (with_reducible refine Kd.C_alloc ?_ _) | (with_reducible refine Kd.C_drewN ?_ _) | (with_reducible refine Kd.C_drew ?_))); (case side2 => exact (Kd.R_reads' HO_4.out).2.1); rintro e w50 ⟨rfl, hb⟩; refine ⟨_, rfl, ?_⟩; have n0_ := Aside0.mk (Kd.R_below (by (with_reducible repeat (first | apply Kd.R_alloc | apply Kd.R_drewN | apply Kd.R_drew)); exact HO_4.out) hb); have n1_ := Aside0.mk (Kd.R_below (by (with_reducible repeat (first | apply Kd.R_alloc | apply Kd.R_drewN | apply Kd.R_drew)); exact HO_5.out) hb); have n2_ := Aside0.mk (below_step (by repeat (first | (with_reducible first | exact HB.out | apply below_alloc | apply pw_below_drewN | apply below_drew1) | exact HB.out)) hb); clear HO_4; clear HO_5; clear HB; have HO_4 := n0_; have HO_5 := n1_; have HB := n2_; clear n0_ n1_ n2_; (try clear hb); (try clear hb2); (try clear hk); (try clear hi); have p275 : 0 ≤ (x7_2 : Int) := of_decide_eq_true (by first | (with_reducible assumption) | assumption); have q275 : x7_2 < (t261.length : Int) := of_decide_eq_true (by first | (with_reducible assumption) | assumption); obtain ⟨ad275, e275, hx275_0⟩ := Kd.at_int (Kd.R_reads' HO_5.out).2.2 x7_2 p275 q275; cases e275; replace p275 := eq_true p275; replace q275 := eq_true q275; have p278 : 0 ≤ (x7_2 : Int) := of_decide_eq_true (by first | (with_reducible assumption) | assumption); have q278 : x7_2 < (t261.length : Int) := of_decide_eq_true (by first | (with_reducible assumption) | assumption); obtain ⟨ad278, e278, hx278_0⟩ := Kd.at_int (Kd.R_reads' HO_5.out).2.2 x7_2 p278 q278; obtain rfl : ad275 = ad278 := (by injection e278); replace p278 := eq_true p278; replace q278 := eq_true q278; have p279 : 0 ≤ (x7_2 : Int) := of_decide_eq_true (by first | (with_reducible assumption) | assumption); have q279 : x7_2 < (t258.length : Int) := of_decide_eq_true (by first | (with_reducible assumption) | assumption); obtain ⟨ad279, e279, hx279_0⟩ := Kd.at_int (Kd.R_reads' HO_4.out).2.2 x7_2 p279 q279; cases e279; replace p279 := eq_true p279; replace q279 := eq_true q279; have p280 : 0 ≤ (x7_2 : Int) := of_decide_eq_true (by first | (with_reducible assumption) | assumption); have q280 : x7_2 < (t261.length : Int) := of_decide_eq_true (by first | (with_reducible assumption) | assumption); obtain ⟨ad280, e280, hx280_0⟩ := Kd.at_int (Kd.R_reads' HO_5.out).2.2 x7_2 p280 q280; obtain rfl : ad275 = ad280 := (by injection e280); replace p280 := eq_true p280; replace q280 := eq_true q280))
                                  (conv => arg 3; arg 1; arg 1; arg 2; arg 2; arg 2; arg 2; arg 2; arg 2; arg 1; rw [← (show decide (0 < t273) = _ from c33b0)])
                                  (conv => arg 3; arg 1; arg 1; arg 2; arg 2; arg 2; arg 2; arg 2; arg 2; arg 2; arg 2; arg 2; arg 2; arg 2; arg 2; arg 2; arg 2; arg 2; arg 2; arg 2; arg 2; arg 2; arg 2; arg 2; arg 2; arg 2; arg 2; arg 2; arg 2; arg 2; arg 2; arg 2; arg 2; arg 2; arg 2; arg 2; arg 2; arg 2; arg 2; arg 2; arg 2; arg 2; arg 2; arg 2; arg 2; arg 2; arg 2; arg 2; arg 2; arg 2; arg 2; arg 2; arg 2; arg 2; arg 2; arg 2; arg 2; arg 2; arg 2; arg 1; rw [← (show decide (0 < t273) = _ from c33b0)])
                                  go_roundg k2
                                  case measure => have := HJ4.out; have := HK2.out; omega
                                  case rel => exact ⟨(wrap64 (x7_2 + 1)), (by first | rfl | (simp; done) | (simp [*]; done)), H', ⟨by have := HJ4.out; have := HK2.out; omega⟩, ⟨by (with_reducible repeat (first | apply Kd.R_alloc | apply Kd.R_drewN | apply Kd.R_drew)); exact HO_4.out⟩, ⟨by (with_reducible repeat (first | apply Kd.R_alloc | apply Kd.R_drewN | apply Kd.R_drew)); exact HO_5.out⟩, ⟨by repeat (first | (with_reducible first | exact HB.out | apply below_alloc | apply pw_below_drewN | apply below_drew1) | exact HB.out)⟩⟩
                                · rw [if_neg c48] at H
                                  have c48b0 : ((rd t261 x7_2) == 0) = false := beq_eq_false_iff_ne.mpr c48
                                  have c48b1 : ((rd t261 x7_2) != 0) = true := bne_iff_ne.mpr c48
                                  obtain rfl := Option.some.inj H
                                  obtain ⟨Ao51, co51, eo51⟩ := Kd.R_slice HO_5.out
                                  subst eo51
                                  go_wp2_with (first | ((with_reducible refine gate_callee (f := 22) rfl ?_); refine goesL_ (some 66) rfl rfl Tryd.func22 (by kernel_rfl) rfl #[.int .i64 t257, .slice Ao7 t258.length co7, .int .i64 x7_2] rfl (by (try simp only [List.map_toArray, List.map_cons, List.map_nil]); first | done | rfl | (simp only [List.length_drop, List.length_take]; rfl)) ?_; (with_reducible refine (impl_ShrDue.calls k2 t257 _ _ t258 x7_2 t274 _ ?side1 ?side2 A32.out).mono ?_); (case side1 => repeat (first | exact (Kd.R_reads' HO_4.out).2.2 | (with_reducible refine Kd.C_alloc ?_ _) | (with_reducible refine Kd.C_drewN ?_ _) | (with_reducible refine Kd.C_drew ?_))); (case side2 => exact (Kd.R_reads' HO_4.out).2.1); rintro e w52 ⟨rfl, hb⟩; refine ⟨_, rfl, ?_⟩; have n0_ := Aside0.mk (Kd.R_below (by (with_reducible repeat (first | apply Kd.R_alloc | apply Kd.R_drewN | apply Kd.R_drew)); exact HO_4.out) hb); have n1_ := Aside0.mk (Kd.R_below (by (with_reducible repeat (first | apply Kd.R_alloc | apply Kd.R_drewN | apply Kd.R_drew)); exact HO_5.out) hb); have n2_ := Aside0.mk (below_step (by repeat (first | (with_reducible first | exact HB.out | apply below_alloc | apply pw_below_drewN | apply below_drew1) | exact HB.out)) hb); clear HO_4; clear HO_5; clear HB; have HO_4 := n0_; have HO_5 := n1_; have HB := n2_; clear n0_ n1_ n2_; (try clear hb); (try clear hb2); (try clear hk); (try clear hi); have p275 : 0 ≤ (x7_2 : Int) := of_decide_eq_true (by first | (with_reducible assumption) | assumption); have q275 : x7_2 < (t261.length : Int) := of_decide_eq_true (by first | (with_reducible assumption) | assumption); obtain ⟨ad275, e275, hx275_0⟩ := Kd.at_int (Kd.R_reads' HO_5.out).2.2 x7_2 p275 q275; cases e275; replace p275 := eq_true p275; replace q275 := eq_true q275; have p278 : 0 ≤ (x7_2 : Int) := of_decide_eq_true (by first | (with_reducible assumption) | assumption); have q278 : x7_2 < (t261.length : Int) := of_decide_eq_true (by first | (with_reducible assumption) | assumption); obtain ⟨ad278, e278, hx278_0⟩ := Kd.at_int (Kd.R_reads' HO_5.out).2.2 x7_2 p278 q278; obtain rfl : ad275 = ad278 := (by injection e278); replace p278 := eq_true p278; replace q278 := eq_true q278; have p279 : 0 ≤ (x7_2 : Int) := of_decide_eq_true (by first | (with_reducible assumption) | assumption); have q279 : x7_2 < (t258.length : Int) := of_decide_eq_true (by first | (with_reducible assumption) | assumption); obtain ⟨ad279, e279, hx279_0⟩ := Kd.at_int (Kd.R_reads' HO_4.out).2.2 x7_2 p279 q279; cases e279; replace p279 := eq_true p279; replace q279 := eq_true q279; have p280 : 0 ≤ (x7_2 : Int) := of_decide_eq_true (by first | (with_reducible assumption) | assumption); have q280 : x7_2 < (t261.length : Int) := of_decide_eq_true (by first | (with_reducible assumption) | assumption); obtain ⟨ad280, e280, hx280_0⟩ := Kd.at_int (Kd.R_reads' HO_5.out).2.2 x7_2 p280 q280; obtain rfl : ad275 = ad280 := (by injection e280); replace p280 := eq_true p280; replace q280 := eq_true q280))
                                  go_ret
                                  exact ⟨by first | rfl | (simp [errW_none, errW_some] <;> rfl) | (simp [*, errW_none, errW_some] <;> rfl), by repeat (first | (with_reducible first | exact HB.out | apply below_alloc | apply pw_below_drewN | apply below_drew1) | exact HB.out)⟩
                              · rw [if_neg c47] at H
                                have c47b0 : ((rd t258 x7_2) == 0) = false := beq_eq_false_iff_ne.mpr c47
                                have c47b1 : ((rd t258 x7_2) != 0) = true := bne_iff_ne.mpr c47
                                have H' := Aside0.mk H
                                clear H
                                obtain ⟨Ao53, co53, eo53⟩ := Kd.R_slice HO_5.out
                                subst eo53
                                go_wp2_with (first | ((with_reducible refine gate_callee (f := 22) rfl ?_); refine goesL_ (some 66) rfl rfl Tryd.func22 (by kernel_rfl) rfl #[.int .i64 t257, .slice Ao7 t258.length co7, .int .i64 x7_2] rfl (by (try simp only [List.map_toArray, List.map_cons, List.map_nil]); first | done | rfl | (simp only [List.length_drop, List.length_take]; rfl)) ?_; (with_reducible refine (impl_ShrDue.calls k2 t257 _ _ t258 x7_2 t274 _ ?side1 ?side2 A32.out).mono ?_); (case side1 => repeat (first | exact (Kd.R_reads' HO_4.out).2.2 | (with_reducible refine Kd.C_alloc ?_ _) | (with_reducible refine Kd.C_drewN ?_ _) | (with_reducible refine Kd.C_drew ?_))); (case side2 => exact (Kd.R_reads' HO_4.out).2.1); rintro e w54 ⟨rfl, hb⟩; refine ⟨_, rfl, ?_⟩; have n0_ := Aside0.mk (Kd.R_below (by (with_reducible repeat (first | apply Kd.R_alloc | apply Kd.R_drewN | apply Kd.R_drew)); exact HO_4.out) hb); have n1_ := Aside0.mk (Kd.R_below (by (with_reducible repeat (first | apply Kd.R_alloc | apply Kd.R_drewN | apply Kd.R_drew)); exact HO_5.out) hb); have n2_ := Aside0.mk (below_step (by repeat (first | (with_reducible first | exact HB.out | apply below_alloc | apply pw_below_drewN | apply below_drew1) | exact HB.out)) hb); clear HO_4; clear HO_5; clear HB; have HO_4 := n0_; have HO_5 := n1_; have HB := n2_; clear n0_ n1_ n2_; (try clear hb); (try clear hb2); (try clear hk); (try clear hi); have p275 : 0 ≤ (x7_2 : Int) := of_decide_eq_true (by first | (with_reducible assumption) | assumption); have q275 : x7_2 < (t261.length : Int) := of_decide_eq_true (by first | (with_reducible assumption) | assumption); obtain ⟨ad275, e275, hx275_0⟩ := Kd.at_int (Kd.R_reads' HO_5.out).2.2 x7_2 p275 q275; cases e275; replace p275 := eq_true p275; replace q275 := eq_true q275; have p278 : 0 ≤ (x7_2 : Int) := of_decide_eq_true (by first | (with_reducible assumption) | assumption); have q278 : x7_2 < (t261.length : Int) := of_decide_eq_true (by first | (with_reducible assumption) | assumption); obtain ⟨ad278, e278, hx278_0⟩ := Kd.at_int (Kd.R_reads' HO_5.out).2.2 x7_2 p278 q278; obtain rfl : ad275 = ad278 := (by injection e278); replace p278 := eq_true p278; replace q278 := eq_true q278; have p279 : 0 ≤ (x7_2 : Int) := of_decide_eq_true (by first | (with_reducible assumption) | assumption); have q279 : x7_2 < (t258.length : Int) := of_decide_eq_true (by first | (with_reducible assumption) | assumption); obtain ⟨ad279, e279, hx279_0⟩ := Kd.at_int (Kd.R_reads' HO_4.out).2.2 x7_2 p279 q279; cases e279; replace p279 := eq_true p279; replace q279 := eq_true q279))
                                (conv => arg 3; arg 1; arg 1; arg 2; arg 2; arg 2; arg 2; arg 2; arg 2; arg 1; rw [← (show decide (0 < t273) = _ from c33b0)])
                                (conv => arg 3; arg 1; arg 1; arg 2; arg 2; arg 2; arg 2; arg 2; arg 2; arg 2; arg 2; arg 2; arg 2; arg 2; arg 2; arg 2; arg 2; arg 2; arg 2; arg 2; arg 2; arg 2; arg 2; arg 2; arg 2; arg 2; arg 2; arg 2; arg 2; arg 2; arg 2; arg 2; arg 2; arg 2; arg 2; arg 2; arg 2; arg 2; arg 2; arg 2; arg 2; arg 2; arg 2; arg 2; arg 2; arg 2; arg 2; arg 2; arg 2; arg 2; arg 2; arg 2; arg 2; arg 2; arg 2; arg 2; arg 2; arg 2; arg 2; arg 1; rw [← (show decide (0 < t273) = _ from c33b0)])
                                go_roundg k2
                                case measure => have := HJ4.out; have := HK2.out; omega
                                case rel => exact ⟨(wrap64 (x7_2 + 1)), (by first | rfl | (simp; done) | (simp [*]; done)), H', ⟨by have := HJ4.out; have := HK2.out; omega⟩, ⟨by (with_reducible repeat (first | apply Kd.R_alloc | apply Kd.R_drewN | apply Kd.R_drew)); exact HO_4.out⟩, ⟨by (with_reducible repeat (first | apply Kd.R_alloc | apply Kd.R_drewN | apply Kd.R_drew)); exact HO_5.out⟩, ⟨by repeat (first | (with_reducible first | exact HB.out | apply below_alloc | apply pw_below_drewN | apply below_drew1) | exact HB.out)⟩⟩
                            · rw [if_neg c46] at H
                              exact absurd H (by simp)
                          · rw [if_neg c45] at H
                            have c45b0 : ((rd t261 x7_2) == (wrap64 (t274 + 1))) = false := beq_eq_false_iff_ne.mpr c45
                            have c45b1 : ((rd t261 x7_2) != (wrap64 (t274 + 1))) = true := bne_iff_ne.mpr c45
                            obtain rfl := Option.some.inj H
                            obtain ⟨Ao55, co55, eo55⟩ := Kd.R_slice HO_5.out
                            subst eo55
                            go_wp2_with (first | ((with_reducible refine gate_callee (f := 22) rfl ?_); refine goesL_ (some 66) rfl rfl Tryd.func22 (by kernel_rfl) rfl #[.int .i64 t257, .slice Ao7 t258.length co7, .int .i64 x7_2] rfl (by (try simp only [List.map_toArray, List.map_cons, List.map_nil]); first | done | rfl | (simp only [List.length_drop, List.length_take]; rfl)) ?_; (with_reducible refine (impl_ShrDue.calls k2 t257 _ _ t258 x7_2 t274 _ ?side1 ?side2 A32.out).mono ?_); (case side1 => repeat (first | exact (Kd.R_reads' HO_4.out).2.2 | (with_reducible refine Kd.C_alloc ?_ _) | (with_reducible refine Kd.C_drewN ?_ _) | (with_reducible refine Kd.C_drew ?_))); (case side2 => exact (Kd.R_reads' HO_4.out).2.1); rintro e w56 ⟨rfl, hb⟩; refine ⟨_, rfl, ?_⟩; have n0_ := Aside0.mk (Kd.R_below (by (with_reducible repeat (first | apply Kd.R_alloc | apply Kd.R_drewN | apply Kd.R_drew)); exact HO_4.out) hb); have n1_ := Aside0.mk (Kd.R_below (by (with_reducible repeat (first | apply Kd.R_alloc | apply Kd.R_drewN | apply Kd.R_drew)); exact HO_5.out) hb); have n2_ := Aside0.mk (below_step (by repeat (first | (with_reducible first | exact HB.out | apply below_alloc | apply pw_below_drewN | apply below_drew1) | exact HB.out)) hb); clear HO_4; clear HO_5; clear HB; have HO_4 := n0_; have HO_5 := n1_; have HB := n2_; clear n0_ n1_ n2_; (try clear hb); (try clear hb2); (try clear hk); (try clear hi); have p275 : 0 ≤ (x7_2 : Int) := of_decide_eq_true (by first | (with_reducible assumption) | assumption); have q275 : x7_2 < (t261.length : Int) := of_decide_eq_true (by first | (with_reducible assumption) | assumption); obtain ⟨ad275, e275, hx275_0⟩ := Kd.at_int (Kd.R_reads' HO_5.out).2.2 x7_2 p275 q275; cases e275; replace p275 := eq_true p275; replace q275 := eq_true q275; have p278 : 0 ≤ (x7_2 : Int) := of_decide_eq_true (by first | (with_reducible assumption) | assumption); have q278 : x7_2 < (t261.length : Int) := of_decide_eq_true (by first | (with_reducible assumption) | assumption); obtain ⟨ad278, e278, hx278_0⟩ := Kd.at_int (Kd.R_reads' HO_5.out).2.2 x7_2 p278 q278; obtain rfl : ad275 = ad278 := (by injection e278); replace p278 := eq_true p278; replace q278 := eq_true q278))
                            go_ret
                            exact ⟨by first | rfl | (simp [errW_none, errW_some] <;> rfl) | (simp [*, errW_none, errW_some] <;> rfl), by repeat (first | (with_reducible first | exact HB.out | apply below_alloc | apply pw_below_drewN | apply below_drew1) | exact HB.out)⟩
                      · rw [if_neg c34] at H
                        exact absurd H (by simp)
                    · rw [if_neg c33] at H
                      have c33b0 : (decide (t273 > 0)) = false := by simpa using c33
                      clear c33
                      have H' := Aside0.mk H
                      clear H
                      obtain ⟨Ao57, co57, eo57⟩ := Kd.R_slice HO_5.out
                      subst eo57
                      go_wp2_with (first | ((with_reducible refine gate_callee (f := 22) rfl ?_); refine goesL_ (some 66) rfl rfl Tryd.func22 (by kernel_rfl) rfl #[.int .i64 t257, .slice Ao7 t258.length co7, .int .i64 x7_2] rfl (by (try simp only [List.map_toArray, List.map_cons, List.map_nil]); first | done | rfl | (simp only [List.length_drop, List.length_take]; rfl)) ?_; (with_reducible refine (impl_ShrDue.calls k2 t257 _ _ t258 x7_2 t274 _ ?side1 ?side2 A32.out).mono ?_); (case side1 => repeat (first | exact (Kd.R_reads' HO_4.out).2.2 | (with_reducible refine Kd.C_alloc ?_ _) | (with_reducible refine Kd.C_drewN ?_ _) | (with_reducible refine Kd.C_drew ?_))); (case side2 => exact (Kd.R_reads' HO_4.out).2.1); rintro e w58 ⟨rfl, hb⟩; refine ⟨_, rfl, ?_⟩; have n0_ := Aside0.mk (Kd.R_below (by (with_reducible repeat (first | apply Kd.R_alloc | apply Kd.R_drewN | apply Kd.R_drew)); exact HO_4.out) hb); have n1_ := Aside0.mk (Kd.R_below (by (with_reducible repeat (first | apply Kd.R_alloc | apply Kd.R_drewN | apply Kd.R_drew)); exact HO_5.out) hb); have n2_ := Aside0.mk (below_step (by repeat (first | (with_reducible first | exact HB.out | apply below_alloc | apply pw_below_drewN | apply below_drew1) | exact HB.out)) hb); clear HO_4; clear HO_5; clear HB; have HO_4 := n0_; have HO_5 := n1_; have HB := n2_; clear n0_ n1_ n2_; (try clear hb); (try clear hb2); (try clear hk); (try clear hi)))
                      (conv => arg 3; arg 1; arg 1; arg 2; arg 2; arg 2; arg 2; arg 2; arg 2; arg 1; rw [← (show decide (0 < t273) = _ from c33b0)])
                      (conv => arg 3; arg 1; arg 1; arg 2; arg 2; arg 2; arg 2; arg 2; arg 2; arg 2; arg 2; arg 2; arg 2; arg 2; arg 2; arg 2; arg 2; arg 2; arg 2; arg 2; arg 2; arg 2; arg 2; arg 2; arg 2; arg 2; arg 2; arg 2; arg 2; arg 2; arg 2; arg 2; arg 2; arg 2; arg 2; arg 2; arg 2; arg 2; arg 2; arg 2; arg 2; arg 2; arg 2; arg 2; arg 2; arg 2; arg 2; arg 2; arg 2; arg 2; arg 2; arg 2; arg 2; arg 2; arg 2; arg 2; arg 2; arg 2; arg 2; arg 1; rw [← (show decide (0 < t273) = _ from c33b0)])
                      go_roundg k2
                      case measure => have := HJ4.out; have := HK2.out; omega
                      case rel => exact ⟨(wrap64 (x7_2 + 1)), (by first | rfl | (simp; done) | (simp [*]; done)), H', ⟨by have := HJ4.out; have := HK2.out; omega⟩, ⟨by (with_reducible repeat (first | apply Kd.R_alloc | apply Kd.R_drewN | apply Kd.R_drew)); exact HO_4.out⟩, ⟨by (with_reducible repeat (first | apply Kd.R_alloc | apply Kd.R_drewN | apply Kd.R_drew)); exact HO_5.out⟩, ⟨by repeat (first | (with_reducible first | exact HB.out | apply below_alloc | apply pw_below_drewN | apply below_drew1) | exact HB.out)⟩⟩
                  · rw [if_neg c31] at H
                    have c31b0 : decide (x7_2 < (t261.length : Int)) = false := decide_eq_false c31
                    clear c31
                    replace H := Option.bind_eq_some_iff.mp H
                    obtain ⟨t281, A590, H⟩ := H
                    replace H : (if t281 = t257 then (some ((t261.length : Int) == (t258.length : Int))) else (some false)) = some r := H
                    have A59 := Aside0.mk A590
                    clear A590
                    by_cases c60 : t281 = t257
                    · rw [if_pos c60] at H
                      have c60b0 : (t281 == t257) = true := beq_iff_eq.mpr c60
                      have c60b1 : (t281 != t257) = false := bne_eq_false_iff_eq.mpr c60
                      clear c60
                      obtain rfl := Option.some.inj H
                      obtain ⟨Ao61, co61, eo61⟩ := Kd.R_slice HO_5.out
                      subst eo61
                      go_wp2_with (first | ((with_reducible refine gate_callee (f := 21) rfl ?_); refine goesL_ (some 103) rfl rfl Tryd.func21 (by kernel_rfl) rfl #[.slice Ao61 t261.length co61] rfl (by (try simp only [List.map_toArray, List.map_cons, List.map_nil]); first | done | rfl | (simp only [List.length_drop, List.length_take]; rfl)) ?_; (with_reducible refine (laws_pwSum.calls k2 _ _ t261 t281 _ ?side1 ?side2 A59.out).mono ?_); (case side1 => repeat (first | exact (Kd.R_reads' HO_5.out).2.2 | (with_reducible refine Kd.C_alloc ?_ _) | (with_reducible refine Kd.C_drewN ?_ _) | (with_reducible refine Kd.C_drew ?_))); (case side2 => exact (Kd.R_reads' HO_5.out).2.1); rintro e w' ⟨rfl, ⟨nd, rfl⟩⟩; refine ⟨_, rfl, ?_⟩))
                      go_ret
                      exact ⟨by first | rfl | (simp [errW_none, errW_some] <;> rfl) | (simp [*, errW_none, errW_some] <;> rfl), by repeat (first | (with_reducible first | exact HB.out | apply below_alloc | apply pw_below_drewN | apply below_drew1) | exact HB.out)⟩
                    · rw [if_neg c60] at H
                      have c60b0 : (t281 == t257) = false := beq_eq_false_iff_ne.mpr c60
                      have c60b1 : (t281 != t257) = true := bne_iff_ne.mpr c60
                      obtain rfl := Option.some.inj H
                      obtain ⟨Ao62, co62, eo62⟩ := Kd.R_slice HO_5.out
                      subst eo62
                      go_wp2_with (first | ((with_reducible refine gate_callee (f := 21) rfl ?_); refine goesL_ (some 103) rfl rfl Tryd.func21 (by kernel_rfl) rfl #[.slice Ao62 t261.length co62] rfl (by (try simp only [List.map_toArray, List.map_cons, List.map_nil]); first | done | rfl | (simp only [List.length_drop, List.length_take]; rfl)) ?_; (with_reducible refine (laws_pwSum.calls k2 _ _ t261 t281 _ ?side1 ?side2 A59.out).mono ?_); (case side1 => repeat (first | exact (Kd.R_reads' HO_5.out).2.2 | (with_reducible refine Kd.C_alloc ?_ _) | (with_reducible refine Kd.C_drewN ?_ _) | (with_reducible refine Kd.C_drew ?_))); (case side2 => exact (Kd.R_reads' HO_5.out).2.1); rintro e w' ⟨rfl, ⟨nd, rfl⟩⟩; refine ⟨_, rfl, ?_⟩))
                      go_ret
                      exact ⟨by first | rfl | (simp [errW_none, errW_some] <;> rfl) | (simp [*, errW_none, errW_some] <;> rfl), by repeat (first | (with_reducible first | exact HB.out | apply below_alloc | apply pw_below_drewN | apply below_drew1) | exact HB.out)⟩
          · replace c23 := Bool.eq_false_iff.mpr c23
            subst c23
            have H1 : (if (t261.length : Int) = 0 then ((laws_pwOk.f kj4).bind fun t271 => (some t271)) else (some false)) = some r := by rw [if_neg (show ¬ (false = true) by decide)] at H; exact H
            clear H
            have H := H1
            clear H1
            by_cases c63 : (t261.length : Int) = 0
            · rw [if_pos c63] at H
              have c63b0 : ((t261.length : Int) == 0) = true := beq_iff_eq.mpr c63
              have c63b1 : ((t261.length : Int) != 0) = false := bne_eq_false_iff_eq.mpr c63
              clear c63
              replace H := Option.bind_eq_some_iff.mp H
              obtain ⟨t271, A640, H⟩ := H
              replace H : (some t271) = some r := H
              have A64 := Aside0.mk A640
              clear A640
              obtain rfl := Option.some.inj H
              go_wp2_with (first | ((with_reducible refine gate_callee (f := 19) rfl ?_); refine goesL_ (some 37) rfl rfl Tryd.func19 (by kernel_rfl) rfl #[.int .i64 t257, .slice Ao7 t258.length co7] rfl (by (try simp only [List.map_toArray, List.map_cons, List.map_nil]); first | done | rfl | (simp only [List.length_drop, List.length_take]; rfl)) ?_; (with_reducible refine (spec_ShrOk.calls kj4 t257 _ _ t258 false _ ?side1 ?side2 A22.out).mono ?_); (case side1 => repeat (first | exact (Kd.R_reads' HO_4.out).2.2 | (with_reducible refine Kd.C_alloc ?_ _) | (with_reducible refine Kd.C_drewN ?_ _) | (with_reducible refine Kd.C_drew ?_))); (case side2 => exact (Kd.R_reads' HO_4.out).2.1); rintro e w' ⟨rfl, ⟨nd, rfl⟩⟩; refine ⟨_, rfl, ?_⟩; obtain ⟨Ao65, co65, eo65⟩ := Kd.R_slice HO_5.out; subst eo65) | (go_at_call 20; (with_reducible refine (laws_pwOk.calls kj4  t271 _ A64.out).mono ?_); rintro e w66 ⟨rfl, hb⟩; have n0_ := Aside0.mk (Kd.R_below (by (with_reducible repeat (first | apply Kd.R_alloc | apply Kd.R_drewN | apply Kd.R_drew)); exact HO_4.out) hb); have n1_ := Aside0.mk (Kd.R_below (by (with_reducible repeat (first | apply Kd.R_alloc | apply Kd.R_drewN | apply Kd.R_drew)); exact HO_5.out) hb); have n2_ := Aside0.mk (below_step (by repeat (first | (with_reducible first | exact HB.out | apply below_alloc | apply pw_below_drewN | apply below_drew1) | exact HB.out)) hb); clear HO_4; clear HO_5; clear HB; have HO_4 := n0_; have HO_5 := n1_; have HB := n2_; clear n0_ n1_ n2_; (try clear hb); (try clear hb2); (try clear hk); (try clear hi)))
              go_ret
              exact ⟨by first | rfl | (simp [errW_none, errW_some] <;> rfl) | (simp [*, errW_none, errW_some] <;> rfl), by repeat (first | (with_reducible first | exact HB.out | apply below_alloc | apply pw_below_drewN | apply below_drew1) | exact HB.out)⟩
            · rw [if_neg c63] at H
              have c63b0 : ((t261.length : Int) == 0) = false := beq_eq_false_iff_ne.mpr c63
              have c63b1 : ((t261.length : Int) != 0) = true := bne_iff_ne.mpr c63
              have c63b2 : ¬ (t261 = []) := fun h_ => c63 (by rw [h_]; rfl)
              obtain rfl := Option.some.inj H
              go_wp2_with (first | ((with_reducible refine gate_callee (f := 19) rfl ?_); refine goesL_ (some 37) rfl rfl Tryd.func19 (by kernel_rfl) rfl #[.int .i64 t257, .slice Ao7 t258.length co7] rfl (by (try simp only [List.map_toArray, List.map_cons, List.map_nil]); first | done | rfl | (simp only [List.length_drop, List.length_take]; rfl)) ?_; (with_reducible refine (spec_ShrOk.calls kj4 t257 _ _ t258 false _ ?side1 ?side2 A22.out).mono ?_); (case side1 => repeat (first | exact (Kd.R_reads' HO_4.out).2.2 | (with_reducible refine Kd.C_alloc ?_ _) | (with_reducible refine Kd.C_drewN ?_ _) | (with_reducible refine Kd.C_drew ?_))); (case side2 => exact (Kd.R_reads' HO_4.out).2.1); rintro e w' ⟨rfl, ⟨nd, rfl⟩⟩; refine ⟨_, rfl, ?_⟩; obtain ⟨Ao67, co67, eo67⟩ := Kd.R_slice HO_5.out; subst eo67))
              go_ret
              exact ⟨by first | rfl | (simp [errW_none, errW_some] <;> rfl) | (simp [*, errW_none, errW_some] <;> rfl), by repeat (first | (with_reducible first | exact HB.out | apply below_alloc | apply pw_below_drewN | apply below_drew1) | exact HB.out)⟩
def laws_FnShrSum.Pure : Prop := ∀ (l0 : List Int), l0.length ≤ maxLen → l0.length * 1 ≤ 140737488351232 → (∀ x ∈ l0, (Lit.int .u8 x).wf = true) → ∃ k, laws_FnShrSum.f k l0 = some true
end Go.Proofs.YtcjpojppbmlfaaaDoor.Pr
