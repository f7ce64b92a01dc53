/- A part of what the claim of 'FnTxtLeast' leans on. -/
import Derived.Test.YtldmepofbkcmnaaDoorFnTxtLeastPr0
import Derived.Test.YtldmepofbkcmnaaDoorFnTxtLeastPr11
import Derived.Test.YtldmepofbkcmnaaDoorFnTxtLeastPr16
import Derived.Test.YtldmepofbkcmnaaDoorFnTxtLeastPr12
import Derived.Test.YtldmepofbkcmnaaDoorFnTxtLeastPr13
import Derived.Test.YtldmepofbkcmnaaDoorFnTxtLeastPr14
import Derived.Test.YtldmepofbkcmnaaDoorFnTxtLeastPr15
import Derived.Test.YtldmepofbkcmnaaDoorFnTxtLeastPr17
namespace Go.Proofs.YtldmepofbkcmnaaDoor.Pr
open Go.RowKit Go.Proofs.YtldmepofbkcmnaaDoorW.PrintWords Go.Proofs.YtldmepofbkcmnaaDoorW.PrintLast Go.Proofs.YtldmepofbkcmnaaDoorW.PrintMore
attribute [local go_sem] max2_int min2_int max_two min_two max_three min_three max_four min_four
set_option linter.unusedVariables false
set_option linter.unusedSimpArgs false
mutual
def laws_FnTxtLeast.j0 : Nat → ByteArray → Int → Bool → Option (Bool)
  | 0, _, _, _ => none
  | k + 1, x3, x4, x25 => if x25 = true then (some false) else ((impl_TxtWords.f k x3).bind fun t184 => (if (t184.length : Int) = 0 then (laws_FnTxtLeast.j1 k x3 x4 t184 (x4 == 0)) else (laws_FnTxtLeast.j1 k x3 x4 t184 false)))
def laws_FnTxtLeast.j1 : Nat → ByteArray → Int → List ByteArray → Bool → Option (Bool)
  | 0, _, _, _, _ => none
  | k + 1, x3, x4, x5, x6 => laws_FnTxtLeast.l0 k x3 x4 x5 x6 0
def laws_FnTxtLeast.l0 : Nat → ByteArray → Int → List ByteArray → Bool → Int → Option (Bool)
  | 0, _, _, _, _, _ => none
  | k + 1, x3, x4, x5, x6, x7 => if x7 < (x5.length : Int) then (if x6 = true then (if 0 ≤ x7 then (if ((rdOf ByteArray.empty x5 x7).size : Int) > x4 then (some false) else (laws_FnTxtLeast.l0 k x3 x4 x5 true (wrap64 (x7 + 1)))) else (none)) else (if 0 ≤ x7 then (if ((rdOf ByteArray.empty x5 x7).size : Int) > x4 then (some false) else (laws_FnTxtLeast.l0 k x3 x4 x5 (((rdOf ByteArray.empty x5 x7).size : Int) == x4) (wrap64 (x7 + 1)))) else (none))) else (if x6 = true then ((impl_TxtWish.f k x3).bind fun t190 => (if x4 ≤ t190 then ((laws_pwOk.f k).bind fun t191 => (some t191)) else (some false))) else (some false))
end
def laws_FnTxtLeast.f (k : Nat) (l0 : List Int) : Option (Bool) := if (l0.length : Int) > 1048576 then (some true) else ((spec_DrawTxtLeast.f k l0).bind fun t179 => ((impl_TxtLeast.f k t179).bind fun t180 => ((spec_TxtLeast.f k t179).bind fun t181 => (if t180 = t181 then ((impl_TxtWish.f k t179).bind fun t182 => ((spec_TxtWish.f k t179).bind fun t183 => (laws_FnTxtLeast.j0 k t179 t180 (t182 != t183)))) else (laws_FnTxtLeast.j0 k t179 t180 true)))))
theorem laws_FnTxtLeast.mono_l : ∀ k, (∀ y0 y1 y2, LeO (laws_FnTxtLeast.j0 k y0 y1 y2) (laws_FnTxtLeast.j0 (k + 1) y0 y1 y2)) ∧ (∀ y0 y1 y2 y3, LeO (laws_FnTxtLeast.j1 k y0 y1 y2 y3) (laws_FnTxtLeast.j1 (k + 1) y0 y1 y2 y3)) ∧ (∀ y0 y1 y2 y3 y4, LeO (laws_FnTxtLeast.l0 k y0 y1 y2 y3 y4) (laws_FnTxtLeast.l0 (k + 1) y0 y1 y2 y3 y4))
  | 0 => ⟨fun _ _ _ r h => by simp [laws_FnTxtLeast.j0] at h, fun _ _ _ _ r h => by simp [laws_FnTxtLeast.j1] at h, fun _ _ _ _ _ r h => by simp [laws_FnTxtLeast.l0] at h⟩
  | k + 1 => by
    obtain ⟨ih0, ih1, ih2⟩ := laws_FnTxtLeast.mono_l k
    refine ⟨?_, ?_, ?_⟩
    · intro y0 y1 y2
      unfold laws_FnTxtLeast.j0
      repeat' first
      | (with_reducible exact ih0 _ _ _)
      | (with_reducible exact ih1 _ _ _ _)
      | (with_reducible exact ih2 _ _ _ _ _)
      | (with_reducible exact impl_TxtLeast.mono _ _)
      | (with_reducible exact impl_TxtWish.mono _ _)
      | (with_reducible exact impl_TxtWords.mono _ _)
      | (with_reducible exact laws_pwOk.mono _)
      | (with_reducible exact spec_DrawTxtLeast.mono _ _)
      | (with_reducible exact spec_TxtLeast.mono _ _)
      | (with_reducible exact spec_TxtWish.mono _ _)
      | (with_reducible exact LeO.refl _)
      | (with_reducible exact LeO.none _)
      | (with_reducible refine LeO.ite ?_ ?_)
      | (with_reducible refine LeO.bind ?_ (fun _ => ?_))
      | exact ih0 _ _ _
      | exact ih1 _ _ _ _
      | exact ih2 _ _ _ _ _
      | exact impl_TxtLeast.mono _ _
      | exact impl_TxtWish.mono _ _
      | exact impl_TxtWords.mono _ _
      | exact laws_pwOk.mono _
      | exact spec_DrawTxtLeast.mono _ _
      | exact spec_TxtLeast.mono _ _
      | exact spec_TxtWish.mono _ _
      | exact LeO.none _
      | refine LeO.ite ?_ ?_
      | refine LeO.bind ?_ (fun _ => ?_)
    · intro y0 y1 y2 y3
      unfold laws_FnTxtLeast.j1
      repeat' first
      | (with_reducible exact ih0 _ _ _)
      | (with_reducible exact ih1 _ _ _ _)
      | (with_reducible exact ih2 _ _ _ _ _)
      | (with_reducible exact impl_TxtLeast.mono _ _)
      | (with_reducible exact impl_TxtWish.mono _ _)
      | (with_reducible exact impl_TxtWords.mono _ _)
      | (with_reducible exact laws_pwOk.mono _)
      | (with_reducible exact spec_DrawTxtLeast.mono _ _)
      | (with_reducible exact spec_TxtLeast.mono _ _)
      | (with_reducible exact spec_TxtWish.mono _ _)
      | (with_reducible exact LeO.refl _)
      | (with_reducible exact LeO.none _)
      | (with_reducible refine LeO.ite ?_ ?_)
      | (with_reducible refine LeO.bind ?_ (fun _ => ?_))
      | exact ih0 _ _ _
      | exact ih1 _ _ _ _
      | exact ih2 _ _ _ _ _
      | exact impl_TxtLeast.mono _ _
      | exact impl_TxtWish.mono _ _
      | exact impl_TxtWords.mono _ _
      | exact laws_pwOk.mono _
      | exact spec_DrawTxtLeast.mono _ _
      | exact spec_TxtLeast.mono _ _
      | exact spec_TxtWish.mono _ _
      | exact LeO.none _
      | refine LeO.ite ?_ ?_
      | refine LeO.bind ?_ (fun _ => ?_)
    · intro y0 y1 y2 y3 y4
      unfold laws_FnTxtLeast.l0
      repeat' first
      | (with_reducible exact ih0 _ _ _)
      | (with_reducible exact ih1 _ _ _ _)
      | (with_reducible exact ih2 _ _ _ _ _)
      | (with_reducible exact impl_TxtLeast.mono _ _)
      | (with_reducible exact impl_TxtWish.mono _ _)
      | (with_reducible exact impl_TxtWords.mono _ _)
      | (with_reducible exact laws_pwOk.mono _)
      | (with_reducible exact spec_DrawTxtLeast.mono _ _)
      | (with_reducible exact spec_TxtLeast.mono _ _)
      | (with_reducible exact spec_TxtWish.mono _ _)
      | (with_reducible exact LeO.refl _)
      | (with_reducible exact LeO.none _)
      | (with_reducible refine LeO.ite ?_ ?_)
      | (with_reducible refine LeO.bind ?_ (fun _ => ?_))
      | exact ih0 _ _ _
      | exact ih1 _ _ _ _
      | exact ih2 _ _ _ _ _
      | exact impl_TxtLeast.mono _ _
      | exact impl_TxtWish.mono _ _
      | exact impl_TxtWords.mono _ _
      | exact laws_pwOk.mono _
      | exact spec_DrawTxtLeast.mono _ _
      | exact spec_TxtLeast.mono _ _
      | exact spec_TxtWish.mono _ _
      | exact LeO.none _
      | refine LeO.ite ?_ ?_
      | refine LeO.bind ?_ (fun _ => ?_)
theorem laws_FnTxtLeast.mono : ∀ a0 k, LeO (laws_FnTxtLeast.f k a0) (laws_FnTxtLeast.f (k + 1) a0) := by
  intro a0 k
  obtain ⟨ih0, ih1, ih2⟩ := laws_FnTxtLeast.mono_l k
  unfold laws_FnTxtLeast.f
  repeat' first
      | (with_reducible exact ih0 _ _ _)
      | (with_reducible exact ih1 _ _ _ _)
      | (with_reducible exact ih2 _ _ _ _ _)
      | (with_reducible exact impl_TxtLeast.mono _ _)
      | (with_reducible exact impl_TxtWish.mono _ _)
      | (with_reducible exact impl_TxtWords.mono _ _)
      | (with_reducible exact laws_pwOk.mono _)
      | (with_reducible exact spec_DrawTxtLeast.mono _ _)
      | (with_reducible exact spec_TxtLeast.mono _ _)
      | (with_reducible exact spec_TxtWish.mono _ _)
      | (with_reducible exact LeO.refl _)
      | (with_reducible exact LeO.none _)
      | (with_reducible refine LeO.ite ?_ ?_)
      | (with_reducible refine LeO.bind ?_ (fun _ => ?_))
      | exact ih0 _ _ _
      | exact ih1 _ _ _ _
      | exact ih2 _ _ _ _ _
      | exact impl_TxtLeast.mono _ _
      | exact impl_TxtWish.mono _ _
      | exact impl_TxtWords.mono _ _
      | exact laws_pwOk.mono _
      | exact spec_DrawTxtLeast.mono _ _
      | exact spec_TxtLeast.mono _ _
      | exact spec_TxtWish.mono _ _
      | exact LeO.none _
      | refine LeO.ite ?_ ?_
      | refine LeO.bind ?_ (fun _ => ?_)
set_option maxHeartbeats 8000000 in
set_option maxRecDepth 100000 in
theorem laws_FnTxtLeast.calls (k : Nat) (A0 : Option Addr) (c0 : Nat) (l0 : List Int) (r : Bool) (w : World) (hr0 : Kd.C (Kd.int .u8) w A0 l0.length l0) (hc0 : l0.length ≤ c0) (h : laws_FnTxtLeast.f k l0 = some r) :
    Calls Tryd.prog 3 #[.slice A0 l0.length c0] w fun e w' => e = .returned (.bool r) ∧ Below w.heap.size w w' := by
  have HR0 := Aside0.mk hr0
  have HC0 := Aside0.mk hc0
  clear hr0 hc0
  have HB := Aside0.mk (Below.refl w.heap.size w)
  have H : (if (l0.length : Int) > 1048576 then (some true) else ((spec_DrawTxtLeast.f k l0).bind fun t179 => ((impl_TxtLeast.f k t179).bind fun t180 => ((spec_TxtLeast.f k t179).bind fun t181 => (if t180 = t181 then ((impl_TxtWish.f k t179).bind fun t182 => ((spec_TxtWish.f k t179).bind fun t183 => (laws_FnTxtLeast.j0 k t179 t180 (t182 != t183)))) else (laws_FnTxtLeast.j0 k t179 t180 true)))))) = some r := h
  clear h
  by_cases c2 : (l0.length : Int) > 1048576
  · rw [if_pos c2] at H
    have c2b0 : decide (1048576 < (l0.length : Int)) = true := decide_eq_true c2
    have c2b1 : decide (1048576 < l0.length) = true := decide_eq_true (by omega)
    clear c2
    obtain rfl := Option.some.inj H
    go_enter Tryd.func3, Tryd.ntmps3
    go_wp2
    go_ret
    exact ⟨by first | rfl | (simp [errW_none, errW_some] <;> rfl) | (simp [*, errW_none, errW_some] <;> rfl), by repeat (first | (with_reducible first | exact HB.out | apply below_alloc | apply pw_below_drewN | apply below_drew1) | exact HB.out)⟩
  · rw [if_neg c2] at H
    have c2b0 : decide (1048576 < (l0.length : Int)) = false := decide_eq_false c2
    have c2b1 : decide (1048576 < l0.length) = false := decide_eq_false (by omega)
    clear c2
    replace H := Option.bind_eq_some_iff.mp H
    obtain ⟨t179, A30, H⟩ := H
    replace H : ((impl_TxtLeast.f k t179).bind fun t180 => ((spec_TxtLeast.f k t179).bind fun t181 => (if t180 = t181 then ((impl_TxtWish.f k t179).bind fun t182 => ((spec_TxtWish.f k t179).bind fun t183 => (laws_FnTxtLeast.j0 k t179 t180 (t182 != t183)))) else (laws_FnTxtLeast.j0 k t179 t180 true)))) = some r := H
    have A3 := Aside0.mk A30
    clear A30
    replace H := Option.bind_eq_some_iff.mp H
    obtain ⟨t180, A40, H⟩ := H
    replace H : ((spec_TxtLeast.f k t179).bind fun t181 => (if t180 = t181 then ((impl_TxtWish.f k t179).bind fun t182 => ((spec_TxtWish.f k t179).bind fun t183 => (laws_FnTxtLeast.j0 k t179 t180 (t182 != t183)))) else (laws_FnTxtLeast.j0 k t179 t180 true))) = some r := H
    have A4 := Aside0.mk A40
    clear A40
    have HC5 := Aside0.mk H
    clear H
    go_enter Tryd.func3, Tryd.ntmps3
    go_upto_region 5 with (first | ((with_reducible refine gate_callee (f := 11) rfl ?_); refine goesL_ (some 12) rfl rfl Tryd.func11 (by kernel_rfl) rfl #[.slice A0 l0.length c0] rfl (by (try simp only [List.map_toArray, List.map_cons, List.map_nil]); first | done | rfl | (simp only [List.length_drop, List.length_take]; rfl)) ?_; (with_reducible refine (spec_DrawTxtLeast.calls k _ _ l0 t179 _ ?side1 ?side2 A3.out).mono ?_); (case side1 => repeat (first | exact HR0.out | (with_reducible refine Kd.C_alloc ?_ _) | (with_reducible refine Kd.C_drewN ?_ _) | (with_reducible refine Kd.C_drew ?_))); (case side2 => exact HC0.out); rintro e w6 ⟨rfl, hb⟩; refine ⟨_, rfl, ?_⟩; have n0_ := Aside0.mk (below_step (by repeat (first | (with_reducible first | exact HB.out | apply below_alloc | apply pw_below_drewN | apply below_drew1) | exact HB.out)) hb); clear HB; have HB := n0_; clear n0_; (try clear hb); (try clear hb2); (try clear hk); (try clear hi)) | ((with_reducible refine gate_callee (f := 12) rfl ?_); refine goesL_ (some 14) rfl rfl Tryd.func12 (by kernel_rfl) rfl #[.string t179] rfl (by (try simp only [List.map_toArray, List.map_cons, List.map_nil]); first | done | rfl | (simp only [List.length_drop, List.length_take]; rfl)) ?_; (with_reducible refine (impl_TxtLeast.calls k t179 t180 _ A4.out).mono ?_); rintro e w7 ⟨rfl, hb⟩; refine ⟨_, rfl, ?_⟩; have n0_ := Aside0.mk (below_step (by repeat (first | (with_reducible first | exact HB.out | apply below_alloc | apply pw_below_drewN | apply below_drew1) | exact HB.out)) hb); clear HB; have HB := n0_; clear n0_; (try clear hb); (try clear hb2); (try clear hk); (try clear hi)))
    (try simp only [Act.put, List.setIfInBounds_toArray, List.set_cons_zero, List.set_cons_succ])
    go_cut [25] (fun v25 wc => ∃ (kq : Nat) (x25_4 : Bool), v25 = .bool x25_4 ∧ Aside0 (laws_FnTxtLeast.j0 kq t179 t180 x25_4 = some r) ∧ Aside0 (kq ≤ k) ∧ Aside0 (Below w.heap.size w wc))
    case first =>
      have H := HC5.out
      clear HC5
      replace H := Option.bind_eq_some_iff.mp H
      obtain ⟨t181, A80, H⟩ := H
      replace H : (if t180 = t181 then ((impl_TxtWish.f k t179).bind fun t182 => ((spec_TxtWish.f k t179).bind fun t183 => (laws_FnTxtLeast.j0 k t179 t180 (t182 != t183)))) else (laws_FnTxtLeast.j0 k t179 t180 true)) = some r := H
      have A8 := Aside0.mk A80
      clear A80
      by_cases c9 : t180 = t181
      · rw [if_pos c9] at H
        have c9b0 : (t180 == t181) = true := beq_iff_eq.mpr c9
        have c9b1 : (t180 != t181) = false := bne_eq_false_iff_eq.mpr c9
        clear c9
        (first | rw [c9b0] | (simp only [i64_w, i32_w]; rw [c9b0]) | skip)
        replace H := Option.bind_eq_some_iff.mp H
        obtain ⟨t182, A100, H⟩ := H
        replace H : ((spec_TxtWish.f k t179).bind fun t183 => (laws_FnTxtLeast.j0 k t179 t180 (t182 != t183))) = some r := H
        have A10 := Aside0.mk A100
        clear A100
        replace H := Option.bind_eq_some_iff.mp H
        obtain ⟨t183, A110, H⟩ := H
        replace H : (laws_FnTxtLeast.j0 k t179 t180 (t182 != t183)) = some r := H
        have A11 := Aside0.mk A110
        clear A110
        have H' := Aside0.mk H
        clear H
        go_wp2_with (first | ((with_reducible refine gate_callee (f := 13) rfl ?_); refine goesL_ (some 17) rfl rfl Tryd.func13 (by kernel_rfl) rfl #[.string t179] rfl (by (try simp only [List.map_toArray, List.map_cons, List.map_nil]); first | done | rfl | (simp only [List.length_drop, List.length_take]; rfl)) ?_; (with_reducible refine (spec_TxtLeast.calls k t179 t181 _ A8.out).mono ?_); rintro e w12 ⟨rfl, hb⟩; refine ⟨_, rfl, ?_⟩; have n0_ := Aside0.mk (below_step (by repeat (first | (with_reducible first | exact HB.out | apply below_alloc | apply pw_below_drewN | apply below_drew1) | exact HB.out)) hb); clear HB; have HB := n0_; clear n0_; (try clear hb); (try clear hb2); (try clear hk); (try clear hi)) | (go_at_call 14; (with_reducible refine (impl_TxtWish.calls k t179 t182 _ A10.out).mono ?_); rintro e w13 ⟨rfl, hb⟩; have n0_ := Aside0.mk (below_step (by repeat (first | (with_reducible first | exact HB.out | apply below_alloc | apply pw_below_drewN | apply below_drew1) | exact HB.out)) hb); clear HB; have HB := n0_; clear n0_; (try clear hb); (try clear hb2); (try clear hk); (try clear hi)) | (go_at_call 15; (with_reducible refine (spec_TxtWish.calls k t179 t183 _ A11.out).mono ?_); rintro e w' ⟨rfl, ⟨nd, rfl⟩⟩))
        go_meet
        case rel => exact ⟨_, ((t182 != t183)), (by first | rfl | (simp; done) | (simp [*]; done)), H', ⟨by first | omega | exact Nat.le_refl _⟩, ⟨by repeat (first | (with_reducible first | exact HB.out | apply below_alloc | apply pw_below_drewN | apply below_drew1) | exact HB.out)⟩⟩
      · rw [if_neg c9] at H
        have c9b0 : (t180 == t181) = false := beq_eq_false_iff_ne.mpr c9
        have c9b1 : (t180 != t181) = true := bne_iff_ne.mpr c9
        (first | rw [c9b0] | (simp only [i64_w, i32_w]; rw [c9b0]) | skip)
        have H' := Aside0.mk H
        clear H
        go_wp2_with (first | ((with_reducible refine gate_callee (f := 13) rfl ?_); refine goesL_ (some 17) rfl rfl Tryd.func13 (by kernel_rfl) rfl #[.string t179] rfl (by (try simp only [List.map_toArray, List.map_cons, List.map_nil]); first | done | rfl | (simp only [List.length_drop, List.length_take]; rfl)) ?_; (with_reducible refine (spec_TxtLeast.calls k t179 t181 _ A8.out).mono ?_); rintro e w14 ⟨rfl, hb⟩; refine ⟨_, rfl, ?_⟩; have n0_ := Aside0.mk (below_step (by repeat (first | (with_reducible first | exact HB.out | apply below_alloc | apply pw_below_drewN | apply below_drew1) | exact HB.out)) hb); clear HB; have HB := n0_; clear n0_; (try clear hb); (try clear hb2); (try clear hk); (try clear hi)))
        go_meet
        case rel => exact ⟨_, (true), (by first | rfl | (simp; done) | (simp [*]; done)), H', ⟨by first | omega | exact Nat.le_refl _⟩, ⟨by repeat (first | (with_reducible first | exact HB.out | apply below_alloc | apply pw_below_drewN | apply below_drew1) | exact HB.out)⟩⟩
    case rest =>
      clear HC5
      try clear c1
      try clear c2
      try clear c2b0
      try clear c2b1
      try clear p2
      try clear c3
      try clear c9
      try clear c9b0
      try clear c9b1
      try clear c11
      try clear c12
      try clear c13
      obtain ⟨kq, x25_4, rfl, HA, HJ4, HB⟩ := hcut
      cases kq with
      | zero => exact absurd HA.out (by simp [laws_FnTxtLeast.j0])
      | succ kj4 =>
        have H := HA.out
        clear HA
        simp only [laws_FnTxtLeast.j0] at H
        by_cases c15 : x25_4 = true
        · subst c15
          have H1 : (some false) = some r := by rw [if_pos rfl] at H; exact H
          clear H
          have H := H1
          clear H1
          obtain rfl := Option.some.inj H
          go_wp2
          go_ret
          exact ⟨by first | rfl | (simp [errW_none, errW_some] <;> rfl) | (simp [*, errW_none, errW_some] <;> rfl), by repeat (first | (with_reducible first | exact HB.out | apply below_alloc | apply pw_below_drewN | apply below_drew1) | exact HB.out)⟩
        · replace c15 := Bool.eq_false_iff.mpr c15
          subst c15
          have H1 : ((impl_TxtWords.f kj4 t179).bind fun t184 => (if (t184.length : Int) = 0 then (laws_FnTxtLeast.j1 kj4 t179 t180 t184 (t180 == 0)) else (laws_FnTxtLeast.j1 kj4 t179 t180 t184 false))) = some r := by rw [if_neg (show ¬ (false = true) by decide)] at H; exact H
          clear H
          have H := H1
          clear H1
          replace H := Option.bind_eq_some_iff.mp H
          obtain ⟨t184, A160, H⟩ := H
          replace H : (if (t184.length : Int) = 0 then (laws_FnTxtLeast.j1 kj4 t179 t180 t184 (t180 == 0)) else (laws_FnTxtLeast.j1 kj4 t179 t180 t184 false)) = some r := H
          have A16 := Aside0.mk A160
          clear A160
          have HC17 := Aside0.mk H
          clear H
          go_upto_region 8 with (first | ((with_reducible refine gate_callee (f := 16) rfl ?_); refine goesL_ (some 27) rfl rfl Tryd.func16 (by kernel_rfl) rfl #[.string t179] rfl (by (try simp only [List.map_toArray, List.map_cons, List.map_nil]); first | done | rfl | (simp only [List.length_drop, List.length_take]; rfl)) ?_; (with_reducible refine (impl_TxtWords.calls kj4 t179 t184 _ A16.out).mono ?_); rintro e w18 ⟨v185, rfl, ho0, hb⟩; refine ⟨_, rfl, ?_⟩; have n0_ := Aside0.mk (Kd.R_lower ho0 (below_size (by repeat (first | (with_reducible first | exact HB.out | apply below_alloc | apply pw_below_drewN | apply below_drew1) | exact HB.out)))); have n1_ := Aside0.mk (below_step (by repeat (first | (with_reducible first | exact HB.out | apply below_alloc | apply pw_below_drewN | apply below_drew1) | exact HB.out)) hb); clear HB; have HO186 := n0_; have HB := n1_; clear n0_ n1_; (try clear hb); (try clear hb2); (try clear hk); (try clear hi); (try clear ho0)))
          (try simp only [Act.put, List.setIfInBounds_toArray, List.set_cons_zero, List.set_cons_succ])
          go_cut [6] (fun v6 wc => ∃ (kq : Nat) (x6_16 : Bool), v6 = .bool x6_16 ∧ Aside0 (laws_FnTxtLeast.j1 kq t179 t180 t184 x6_16 = some r) ∧ Aside0 (kq ≤ kj4) ∧ Aside0 (Kd.R Kd.string 9 wc w.heap.size (fun _ => True) v185 t184) ∧ Aside0 (Below w.heap.size w wc))
          case first =>
            have H := HC17.out
            clear HC17
            by_cases c19 : (t184.length : Int) = 0
            · rw [if_pos c19] at H
              have c19b0 : ((t184.length : Int) == 0) = true := beq_iff_eq.mpr c19
              have c19b1 : ((t184.length : Int) != 0) = false := bne_eq_false_iff_eq.mpr c19
              clear c19
              (first | rw [c19b0] | (simp only [i64_w, i32_w]; rw [c19b0]) | skip)
              have H' := Aside0.mk H
              clear H
              obtain ⟨Ao20, co20, eo20⟩ := Kd.R_slice HO186.out
              subst eo20
              go_wp2
              go_meet
              case rel => exact ⟨_, ((t180 == 0)), (by first | rfl | (simp; done) | (simp [*]; done)), H', ⟨by have := HJ4.out; first | omega | exact Nat.le_refl _⟩, ⟨by (with_reducible repeat (first | apply Kd.R_alloc | apply Kd.R_drewN | apply Kd.R_drew)); exact HO186.out⟩, ⟨by repeat (first | (with_reducible first | exact HB.out | apply below_alloc | apply pw_below_drewN | apply below_drew1) | exact HB.out)⟩⟩
            · rw [if_neg c19] at H
              have c19b0 : ((t184.length : Int) == 0) = false := beq_eq_false_iff_ne.mpr c19
              have c19b1 : ((t184.length : Int) != 0) = true := bne_iff_ne.mpr c19
              have c19b2 : ¬ (t184 = []) := fun h_ => c19 (by rw [h_]; rfl)
              (first | rw [c19b0] | (simp only [i64_w, i32_w]; rw [c19b0]) | skip)
              have H' := Aside0.mk H
              clear H
              obtain ⟨Ao21, co21, eo21⟩ := Kd.R_slice HO186.out
              subst eo21
              go_wp2
              go_meet
              case rel => exact ⟨_, (false), (by first | rfl | (simp; done) | (simp [*]; done)), H', ⟨by have := HJ4.out; first | omega | exact Nat.le_refl _⟩, ⟨by (with_reducible repeat (first | apply Kd.R_alloc | apply Kd.R_drewN | apply Kd.R_drew)); exact HO186.out⟩, ⟨by repeat (first | (with_reducible first | exact HB.out | apply below_alloc | apply pw_below_drewN | apply below_drew1) | exact HB.out)⟩⟩
          case rest =>
            clear HC17
            try clear c1
            try clear c2
            try clear c2b0
            try clear c2b1
            try clear p2
            try clear c3
            try clear c9
            try clear c9b0
            try clear c9b1
            try clear c11
            try clear c12
            try clear c13
            try clear c15
            try clear c16
            try clear c19
            try clear c19b0
            try clear c19b1
            try clear c19b2
            try clear p2
            obtain ⟨kq, x6_16, rfl, HA, HJ16, HO_5, HB⟩ := hcut
            cases kq with
            | zero => exact absurd HA.out (by simp [laws_FnTxtLeast.j1])
            | succ kj16 =>
              have H := HA.out
              clear HA
              simp only [laws_FnTxtLeast.j1] at H
              have H' := Aside0.mk H
              clear H
              go_wp2
              go_loopg [6, 7] kj16 (fun kq v6 v7 w' => ∃ (x6_3 : Bool) (x7_3 : Int), v6 = .bool x6_3 ∧ v7 = .int .i64 x7_3 ∧ Aside0 (laws_FnTxtLeast.l0 kq t179 t180 t184 x6_3 x7_3 = some r) ∧ Aside0 (kq ≤ kj16) ∧ Aside0 (Kd.R Kd.string 9 w' w.heap.size (fun _ => True) v185 t184) ∧ Aside0 (Below w.heap.size w w'))
              case atStart => exact ⟨(x6_16), (0), (by first | rfl | (simp; done) | (simp [*]; done)), (by first | rfl | (simp; done) | (simp [*]; done)), H', ⟨Nat.le_refl _⟩, ⟨by (with_reducible repeat (first | apply Kd.R_alloc | apply Kd.R_drewN | apply Kd.R_drew)); exact HO_5.out⟩, ⟨by repeat (first | (with_reducible first | exact HB.out | apply below_alloc | apply pw_below_drewN | apply below_drew1) | exact HB.out)⟩⟩
              case round =>
                clear H'
                try clear c1
                try clear c2
                try clear c2b0
                try clear c2b1
                try clear p2
                try clear c3
                try clear c9
                try clear c9b0
                try clear c9b1
                try clear c11
                try clear c12
                try clear c13
                try clear c15
                try clear c16
                try clear c19
                try clear c19b0
                try clear c19b1
                try clear c19b2
                try clear p2
                obtain ⟨x6_3, x7_3, rfl, rfl, HA, HK3, HO_5, HB⟩ := hrel
                cases gk with
                | zero => exact absurd HA.out (by simp [laws_FnTxtLeast.l0])
                | succ k3 =>
                  have H := HA.out
                  clear HA
                  simp only [laws_FnTxtLeast.l0] at H
                  by_cases c22 : x7_3 < (t184.length : Int)
                  · rw [if_pos c22] at H
                    have c22b0 : decide (x7_3 < (t184.length : Int)) = true := decide_eq_true c22
                    clear c22
                    by_cases c23 : x6_3 = true
                    · subst c23
                      have H1 : (if 0 ≤ x7_3 then (if ((rdOf ByteArray.empty t184 x7_3).size : Int) > t180 then (some false) else (laws_FnTxtLeast.l0 k3 t179 t180 t184 true (wrap64 (x7_3 + 1)))) else (none)) = some r := by rw [if_pos rfl] at H; exact H
                      clear H
                      have H := H1
                      clear H1
                      by_cases c24 : 0 ≤ x7_3
                      · rw [if_pos c24] at H
                        have c24b0 : decide (0 ≤ x7_3) = true := decide_eq_true c24
                        clear c24
                        by_cases c25 : ((rdOf ByteArray.empty t184 x7_3).size : Int) > t180
                        · rw [if_pos c25] at H
                          have c25b0 : decide (t180 < ((rdOf ByteArray.empty t184 x7_3).size : Int)) = true := decide_eq_true c25
                          clear c25
                          obtain rfl := Option.some.inj H
                          obtain ⟨Ao26, co26, eo26⟩ := Kd.R_slice HO_5.out
                          subst eo26
                          have p187 : 0 ≤ (x7_3 : Int) := of_decide_eq_true (by first | (with_reducible assumption) | assumption)
                          have q187 : x7_3 < (t184.length : Int) := of_decide_eq_true (by first | (with_reducible assumption) | assumption)
                          obtain ⟨ad187, e187, hx187_0⟩ := Kd.at_string (Kd.R_reads' HO_5.out).2.2 x7_3 p187 q187
                          cases e187
                          replace p187 := eq_true p187
                          replace q187 := eq_true q187
                          go_wp2
                          go_ret
                          exact ⟨by first | rfl | (simp [errW_none, errW_some] <;> rfl) | (simp [*, errW_none, errW_some] <;> rfl), by repeat (first | (with_reducible first | exact HB.out | apply below_alloc | apply pw_below_drewN | apply below_drew1) | exact HB.out)⟩
                        · rw [if_neg c25] at H
                          have c25b0 : decide (t180 < ((rdOf ByteArray.empty t184 x7_3).size : Int)) = false := decide_eq_false c25
                          clear c25
                          have H' := Aside0.mk H
                          clear H
                          obtain ⟨Ao27, co27, eo27⟩ := Kd.R_slice HO_5.out
                          subst eo27
                          have p187 : 0 ≤ (x7_3 : Int) := of_decide_eq_true (by first | (with_reducible assumption) | assumption)
                          have q187 : x7_3 < (t184.length : Int) := of_decide_eq_true (by first | (with_reducible assumption) | assumption)
                          obtain ⟨ad187, e187, hx187_0⟩ := Kd.at_string (Kd.R_reads' HO_5.out).2.2 x7_3 p187 q187
                          cases e187
                          replace p187 := eq_true p187
                          replace q187 := eq_true q187
                          go_wp2
                          go_roundg k3
                          case measure => have := HJ4.out; have := HJ16.out; have := HK3.out; omega
                          case rel => exact ⟨(true), (wrap64 (x7_3 + 1)), (by first | rfl | (simp; done) | (simp [*]; done)), (by first | rfl | (simp; done) | (simp [*]; done)), H', ⟨by have := HJ4.out; have := HJ16.out; have := HK3.out; omega⟩, ⟨by (with_reducible repeat (first | apply Kd.R_alloc | apply Kd.R_drewN | apply Kd.R_drew)); exact HO_5.out⟩, ⟨by repeat (first | (with_reducible first | exact HB.out | apply below_alloc | apply pw_below_drewN | apply below_drew1) | exact HB.out)⟩⟩
                      · rw [if_neg c24] at H
                        exact absurd H (by simp)
                    · replace c23 := Bool.eq_false_iff.mpr c23
                      subst c23
                      have H1 : (if 0 ≤ x7_3 then (if ((rdOf ByteArray.empty t184 x7_3).size : Int) > t180 then (some false) else (laws_FnTxtLeast.l0 k3 t179 t180 t184 (((rdOf ByteArray.empty t184 x7_3).size : Int) == t180) (wrap64 (x7_3 + 1)))) else (none)) = some r := by rw [if_neg (show ¬ (false = true) by decide)] at H; exact H
                      clear H
                      have H := H1
                      clear H1
                      by_cases c28 : 0 ≤ x7_3
                      · rw [if_pos c28] at H
                        have c28b0 : decide (0 ≤ x7_3) = true := decide_eq_true c28
                        clear c28
                        by_cases c29 : ((rdOf ByteArray.empty t184 x7_3).size : Int) > t180
                        · rw [if_pos c29] at H
                          have c29b0 : decide (t180 < ((rdOf ByteArray.empty t184 x7_3).size : Int)) = true := decide_eq_true c29
                          clear c29
                          obtain rfl := Option.some.inj H
                          obtain ⟨Ao30, co30, eo30⟩ := Kd.R_slice HO_5.out
                          subst eo30
                          have p188 : 0 ≤ (x7_3 : Int) := of_decide_eq_true (by first | (with_reducible assumption) | assumption)
                          have q188 : x7_3 < (t184.length : Int) := of_decide_eq_true (by first | (with_reducible assumption) | assumption)
                          obtain ⟨ad188, e188, hx188_0⟩ := Kd.at_string (Kd.R_reads' HO_5.out).2.2 x7_3 p188 q188
                          cases e188
                          replace p188 := eq_true p188
                          replace q188 := eq_true q188
                          have p189 : 0 ≤ (x7_3 : Int) := of_decide_eq_true (by first | (with_reducible assumption) | assumption)
                          have q189 : x7_3 < (t184.length : Int) := of_decide_eq_true (by first | (with_reducible assumption) | assumption)
                          obtain ⟨ad189, e189, hx189_0⟩ := Kd.at_string (Kd.R_reads' HO_5.out).2.2 x7_3 p189 q189
                          obtain rfl : ad188 = ad189 := (by injection e189)
                          replace p189 := eq_true p189
                          replace q189 := eq_true q189
                          go_wp2
                          go_ret
                          exact ⟨by first | rfl | (simp [errW_none, errW_some] <;> rfl) | (simp [*, errW_none, errW_some] <;> rfl), by repeat (first | (with_reducible first | exact HB.out | apply below_alloc | apply pw_below_drewN | apply below_drew1) | exact HB.out)⟩
                        · rw [if_neg c29] at H
                          have c29b0 : decide (t180 < ((rdOf ByteArray.empty t184 x7_3).size : Int)) = false := decide_eq_false c29
                          clear c29
                          have H' := Aside0.mk H
                          clear H
                          obtain ⟨Ao31, co31, eo31⟩ := Kd.R_slice HO_5.out
                          subst eo31
                          have p188 : 0 ≤ (x7_3 : Int) := of_decide_eq_true (by first | (with_reducible assumption) | assumption)
                          have q188 : x7_3 < (t184.length : Int) := of_decide_eq_true (by first | (with_reducible assumption) | assumption)
                          obtain ⟨ad188, e188, hx188_0⟩ := Kd.at_string (Kd.R_reads' HO_5.out).2.2 x7_3 p188 q188
                          cases e188
                          replace p188 := eq_true p188
                          replace q188 := eq_true q188
                          have p189 : 0 ≤ (x7_3 : Int) := of_decide_eq_true (by first | (with_reducible assumption) | assumption)
                          have q189 : x7_3 < (t184.length : Int) := of_decide_eq_true (by first | (with_reducible assumption) | assumption)
                          obtain ⟨ad189, e189, hx189_0⟩ := Kd.at_string (Kd.R_reads' HO_5.out).2.2 x7_3 p189 q189
                          obtain rfl : ad188 = ad189 := (by injection e189)
                          replace p189 := eq_true p189
                          replace q189 := eq_true q189
                          go_wp2
                          go_roundg k3
                          case measure => have := HJ4.out; have := HJ16.out; have := HK3.out; omega
                          case rel => exact ⟨((((rdOf ByteArray.empty t184 x7_3).size : Int) == t180)), (wrap64 (x7_3 + 1)), (by first | rfl | (simp; done) | (simp [*]; done)), (by first | rfl | (simp; done) | (simp [*]; done)), H', ⟨by have := HJ4.out; have := HJ16.out; have := HK3.out; omega⟩, ⟨by (with_reducible repeat (first | apply Kd.R_alloc | apply Kd.R_drewN | apply Kd.R_drew)); exact HO_5.out⟩, ⟨by repeat (first | (with_reducible first | exact HB.out | apply below_alloc | apply pw_below_drewN | apply below_drew1) | exact HB.out)⟩⟩
                      · rw [if_neg c28] at H
                        exact absurd H (by simp)
                  · rw [if_neg c22] at H
                    have c22b0 : decide (x7_3 < (t184.length : Int)) = false := decide_eq_false c22
                    clear c22
                    by_cases c32 : x6_3 = true
                    · subst c32
                      have H1 : ((impl_TxtWish.f k3 t179).bind fun t190 => (if t180 ≤ t190 then ((laws_pwOk.f k3).bind fun t191 => (some t191)) else (some false))) = some r := by rw [if_pos rfl] at H; exact H
                      clear H
                      have H := H1
                      clear H1
                      replace H := Option.bind_eq_some_iff.mp H
                      obtain ⟨t190, A330, H⟩ := H
                      replace H : (if t180 ≤ t190 then ((laws_pwOk.f k3).bind fun t191 => (some t191)) else (some false)) = some r := H
                      have A33 := Aside0.mk A330
                      clear A330
                      by_cases c34 : t180 ≤ t190
                      · rw [if_pos c34] at H
                        have c34b0 : decide (t180 ≤ t190) = true := decide_eq_true c34
                        clear c34
                        replace H := Option.bind_eq_some_iff.mp H
                        obtain ⟨t191, A350, H⟩ := H
                        replace H : (some t191) = some r := H
                        have A35 := Aside0.mk A350
                        clear A350
                        obtain rfl := Option.some.inj H
                        obtain ⟨Ao36, co36, eo36⟩ := Kd.R_slice HO_5.out
                        subst eo36
                        go_wp2_with (first | (go_at_call 14; (with_reducible refine (impl_TxtWish.calls k3 t179 t190 _ A33.out).mono ?_); rintro e w37 ⟨rfl, hb⟩; have n0_ := Aside0.mk (Kd.R_below (by (with_reducible repeat (first | apply Kd.R_alloc | apply Kd.R_drewN | apply Kd.R_drew)); exact HO_5.out) hb); have n1_ := Aside0.mk (below_step (by repeat (first | (with_reducible first | exact HB.out | apply below_alloc | apply pw_below_drewN | apply below_drew1) | exact HB.out)) hb); clear HO_5; clear HB; have HO_5 := n0_; have HB := n1_; clear n0_ n1_; (try clear hb); (try clear hb2); (try clear hk); (try clear hi)) | (go_at_call 17; (with_reducible refine (laws_pwOk.calls k3  t191 _ A35.out).mono ?_); rintro e w38 ⟨rfl, hb⟩; have n0_ := Aside0.mk (Kd.R_below (by (with_reducible repeat (first | apply Kd.R_alloc | apply Kd.R_drewN | apply Kd.R_drew)); exact HO_5.out) hb); have n1_ := Aside0.mk (below_step (by repeat (first | (with_reducible first | exact HB.out | apply below_alloc | apply pw_below_drewN | apply below_drew1) | exact HB.out)) hb); clear HO_5; clear HB; have HO_5 := n0_; have HB := n1_; clear n0_ n1_; (try clear hb); (try clear hb2); (try clear hk); (try clear hi)))
                        go_ret
                        exact ⟨by first | rfl | (simp [errW_none, errW_some] <;> rfl) | (simp [*, errW_none, errW_some] <;> rfl), by repeat (first | (with_reducible first | exact HB.out | apply below_alloc | apply pw_below_drewN | apply below_drew1) | exact HB.out)⟩
                      · rw [if_neg c34] at H
                        have c34b0 : decide (t180 ≤ t190) = false := decide_eq_false c34
                        clear c34
                        obtain rfl := Option.some.inj H
                        obtain ⟨Ao39, co39, eo39⟩ := Kd.R_slice HO_5.out
                        subst eo39
                        go_wp2_with (first | (go_at_call 14; (with_reducible refine (impl_TxtWish.calls k3 t179 t190 _ A33.out).mono ?_); rintro e w40 ⟨rfl, hb⟩; have n0_ := Aside0.mk (Kd.R_below (by (with_reducible repeat (first | apply Kd.R_alloc | apply Kd.R_drewN | apply Kd.R_drew)); exact HO_5.out) hb); have n1_ := Aside0.mk (below_step (by repeat (first | (with_reducible first | exact HB.out | apply below_alloc | apply pw_below_drewN | apply below_drew1) | exact HB.out)) hb); clear HO_5; clear HB; have HO_5 := n0_; have HB := n1_; clear n0_ n1_; (try clear hb); (try clear hb2); (try clear hk); (try clear hi)))
                        go_ret
                        exact ⟨by first | rfl | (simp [errW_none, errW_some] <;> rfl) | (simp [*, errW_none, errW_some] <;> rfl), by repeat (first | (with_reducible first | exact HB.out | apply below_alloc | apply pw_below_drewN | apply below_drew1) | exact HB.out)⟩
                    · replace c32 := Bool.eq_false_iff.mpr c32
                      subst c32
                      have H1 : (some false) = some r := by rw [if_neg (show ¬ (false = true) by decide)] at H; exact H
                      clear H
                      have H := H1
                      clear H1
                      obtain rfl := Option.some.inj H
                      obtain ⟨Ao41, co41, eo41⟩ := Kd.R_slice HO_5.out
                      subst eo41
                      go_wp2
                      go_ret
                      exact ⟨by first | rfl | (simp [errW_none, errW_some] <;> rfl) | (simp [*, errW_none, errW_some] <;> rfl), by repeat (first | (with_reducible first | exact HB.out | apply below_alloc | apply pw_below_drewN | apply below_drew1) | exact HB.out)⟩
def laws_FnTxtLeast.Pure : Prop := ∀ (l0 : List Int), l0.length ≤ maxLen → l0.length * 1 ≤ 140737488351232 → (∀ x ∈ l0, (Lit.int .u8 x).wf = true) → ∃ k, laws_FnTxtLeast.f k l0 = some true
end Go.Proofs.YtldmepofbkcmnaaDoor.Pr
