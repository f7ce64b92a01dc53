/- A part of what the claim of 'FnShrSum' leans on. -/
import Derived.Test.YtcjpojppbmlfaaaDoorFnShrSumP0
import Derived.Test.YtcjpojppbmlfaaaDoorFnShrSumP1
import Derived.Test.YtcjpojppbmlfaaaDoorFnShrSumPr78
namespace Go.Proofs.YtcjpojppbmlfaaaDoor.Pr
open Go.RowKit Go.Proofs.YtcjpojppbmlfaaaDoorW.PrintWords Go.Proofs.YtcjpojppbmlfaaaDoorW.PrintLast Go.Proofs.YtcjpojppbmlfaaaDoorW.PrintMore
attribute [local go_sem] max2_int min2_int max_two min_two max_three min_three max_four min_four
set_option linter.unusedVariables false
set_option linter.unusedSimpArgs false
mutual
def slices_stableCmpFunc_int.l0 : Nat → List Int → Int → (Int → Int → Option Int) → Int → Int → Int → Option (List Int)
  | 0, _, _, _, _, _, _ => none
  | k + 1, x0, x1, x2, x6, x7, x8 => if x8 ≤ x1 then ((slices_insertionSortCmpFunc_int.f k x0 x7 x8 x2).bind fun t188 => (slices_stableCmpFunc_int.l0 k t188 x1 x2 x6 x8 (wrap64 (x8 + x6)))) else ((slices_insertionSortCmpFunc_int.f k x0 x7 x1 x2).bind fun t189 => (slices_stableCmpFunc_int.l1 k t189 x1 x2 x6))
def slices_stableCmpFunc_int.l1 : Nat → List Int → Int → (Int → Int → Option Int) → Int → Option (List Int)
  | 0, _, _, _, _ => none
  | k + 1, x0, x1, x2, x6 => if x6 < x1 then (slices_stableCmpFunc_int.l2 k x0 x1 x2 x6 0 (wrap64 (2 * x6))) else (some x0)
def slices_stableCmpFunc_int.l2 : Nat → List Int → Int → (Int → Int → Option Int) → Int → Int → Int → Option (List Int)
  | 0, _, _, _, _, _, _ => none
  | k + 1, x0, x1, x2, x6, x7, x8 => if x8 ≤ x1 then ((slices_symMergeCmpFunc_int.f k x0 x7 (wrap64 (x7 + x6)) x8 x2).bind fun t190 => (slices_stableCmpFunc_int.l2 k t190 x1 x2 x6 x8 (wrap64 (x8 + (wrap64 (2 * x6)))))) else (if (wrap64 (x7 + x6)) < x1 then ((slices_symMergeCmpFunc_int.f k x0 x7 (wrap64 (x7 + x6)) x1 x2).bind fun t191 => (slices_stableCmpFunc_int.l1 k t191 x1 x2 (wrap64 (x6 * 2)))) else (slices_stableCmpFunc_int.l1 k x0 x1 x2 (wrap64 (x6 * 2))))
end
def slices_stableCmpFunc_int.f (k : Nat) (l0 : List Int) (a1 : Int) (a2 : Int → Int → Option Int) : Option (List Int) := slices_stableCmpFunc_int.l0 k l0 a1 a2 20 0 20
theorem slices_stableCmpFunc_int.mono_l : ∀ k, (∀ y0 y1 y2 y3 y4 y5, LeO (slices_stableCmpFunc_int.l0 k y0 y1 y2 y3 y4 y5) (slices_stableCmpFunc_int.l0 (k + 1) y0 y1 y2 y3 y4 y5)) ∧ (∀ y0 y1 y2 y3, LeO (slices_stableCmpFunc_int.l1 k y0 y1 y2 y3) (slices_stableCmpFunc_int.l1 (k + 1) y0 y1 y2 y3)) ∧ (∀ y0 y1 y2 y3 y4 y5, LeO (slices_stableCmpFunc_int.l2 k y0 y1 y2 y3 y4 y5) (slices_stableCmpFunc_int.l2 (k + 1) y0 y1 y2 y3 y4 y5))
  | 0 => ⟨fun _ _ _ _ _ _ r h => by simp [slices_stableCmpFunc_int.l0] at h, fun _ _ _ _ r h => by simp [slices_stableCmpFunc_int.l1] at h, fun _ _ _ _ _ _ r h => by simp [slices_stableCmpFunc_int.l2] at h⟩
  | k + 1 => by
    obtain ⟨ih0, ih1, ih2⟩ := slices_stableCmpFunc_int.mono_l k
    refine ⟨?_, ?_, ?_⟩
    · intro y0 y1 y2 y3 y4 y5
      unfold slices_stableCmpFunc_int.l0
      repeat' first
      | (with_reducible exact ih0 _ _ _ _ _ _)
      | (with_reducible exact ih1 _ _ _ _)
      | (with_reducible exact ih2 _ _ _ _ _ _)
      | (with_reducible exact slices_insertionSortCmpFunc_int.mono _ _ _ _ _)
      | (with_reducible exact slices_symMergeCmpFunc_int.mono _ _ _ _ _ _)
      | (with_reducible exact LeO.refl _)
      | (with_reducible exact LeO.none _)
      | (with_reducible refine LeO.ite ?_ ?_)
      | (with_reducible refine LeO.bind ?_ (fun _ => ?_))
      | exact ih0 _ _ _ _ _ _
      | exact ih1 _ _ _ _
      | exact ih2 _ _ _ _ _ _
      | exact slices_insertionSortCmpFunc_int.mono _ _ _ _ _
      | exact slices_symMergeCmpFunc_int.mono _ _ _ _ _ _
      | exact LeO.none _
      | refine LeO.ite ?_ ?_
      | refine LeO.bind ?_ (fun _ => ?_)
    · intro y0 y1 y2 y3
      unfold slices_stableCmpFunc_int.l1
      repeat' first
      | (with_reducible exact ih0 _ _ _ _ _ _)
      | (with_reducible exact ih1 _ _ _ _)
      | (with_reducible exact ih2 _ _ _ _ _ _)
      | (with_reducible exact slices_insertionSortCmpFunc_int.mono _ _ _ _ _)
      | (with_reducible exact slices_symMergeCmpFunc_int.mono _ _ _ _ _ _)
      | (with_reducible exact LeO.refl _)
      | (with_reducible exact LeO.none _)
      | (with_reducible refine LeO.ite ?_ ?_)
      | (with_reducible refine LeO.bind ?_ (fun _ => ?_))
      | exact ih0 _ _ _ _ _ _
      | exact ih1 _ _ _ _
      | exact ih2 _ _ _ _ _ _
      | exact slices_insertionSortCmpFunc_int.mono _ _ _ _ _
      | exact slices_symMergeCmpFunc_int.mono _ _ _ _ _ _
      | exact LeO.none _
      | refine LeO.ite ?_ ?_
      | refine LeO.bind ?_ (fun _ => ?_)
    · intro y0 y1 y2 y3 y4 y5
      unfold slices_stableCmpFunc_int.l2
      repeat' first
      | (with_reducible exact ih0 _ _ _ _ _ _)
      | (with_reducible exact ih1 _ _ _ _)
      | (with_reducible exact ih2 _ _ _ _ _ _)
      | (with_reducible exact slices_insertionSortCmpFunc_int.mono _ _ _ _ _)
      | (with_reducible exact slices_symMergeCmpFunc_int.mono _ _ _ _ _ _)
      | (with_reducible exact LeO.refl _)
      | (with_reducible exact LeO.none _)
      | (with_reducible refine LeO.ite ?_ ?_)
      | (with_reducible refine LeO.bind ?_ (fun _ => ?_))
      | exact ih0 _ _ _ _ _ _
      | exact ih1 _ _ _ _
      | exact ih2 _ _ _ _ _ _
      | exact slices_insertionSortCmpFunc_int.mono _ _ _ _ _
      | exact slices_symMergeCmpFunc_int.mono _ _ _ _ _ _
      | exact LeO.none _
      | refine LeO.ite ?_ ?_
      | refine LeO.bind ?_ (fun _ => ?_)
theorem slices_stableCmpFunc_int.mono : ∀ a0 a1 a2 k, LeO (slices_stableCmpFunc_int.f k a0 a1 a2) (slices_stableCmpFunc_int.f (k + 1) a0 a1 a2) := by
  intro a0 a1 a2 k
  obtain ⟨ih0, ih1, ih2⟩ := slices_stableCmpFunc_int.mono_l k
  unfold slices_stableCmpFunc_int.f
  repeat' first
      | (with_reducible exact ih0 _ _ _ _ _ _)
      | (with_reducible exact ih1 _ _ _ _)
      | (with_reducible exact ih2 _ _ _ _ _ _)
      | (with_reducible exact slices_insertionSortCmpFunc_int.mono _ _ _ _ _)
      | (with_reducible exact slices_symMergeCmpFunc_int.mono _ _ _ _ _ _)
      | (with_reducible exact LeO.refl _)
      | (with_reducible exact LeO.none _)
      | (with_reducible refine LeO.ite ?_ ?_)
      | (with_reducible refine LeO.bind ?_ (fun _ => ?_))
      | exact ih0 _ _ _ _ _ _
      | exact ih1 _ _ _ _
      | exact ih2 _ _ _ _ _ _
      | exact slices_insertionSortCmpFunc_int.mono _ _ _ _ _
      | exact slices_symMergeCmpFunc_int.mono _ _ _ _ _ _
      | exact LeO.none _
      | refine LeO.ite ?_ ?_
      | refine LeO.bind ?_ (fun _ => ?_)
set_option maxHeartbeats 8000000 in
set_option maxRecDepth 100000 in
theorem slices_stableCmpFunc_int.calls (k : Nat) (P0_ : Nat → Prop) (u9000_ : Value) (l0 : List Int) (a1 : Int) (a2 : Cf Tryd.prog) (r : List Int) (w0 w : World) (hB : Below w0.heap.size w0 w ∧ a2.W = w0) (ho0 : Kd.R (Kd.int .i64) 3 w w0.heap.size P0_ u9000_ l0) (h : slices_stableCmpFunc_int.f k l0 a1 a2.f = some r) :
    Calls Tryd.prog 62 #[u9000_, .int .i64 a1, .func (.func a2.g) #[] a2.lb] w fun e w' => e = .returned (.tuple #[]) ∧ Kd.R (Kd.int .i64) 3 w' w0.heap.size (fun k_ => (P0_ k_ ∨ w.heap.size ≤ k_)) u9000_ r ∧ Below w0.heap.size w0 w' ∧ Kept w w' (fun k_ => P0_ k_) := by
  have hcw_ := Aside0.mk hB.2
  replace hB := hB.1
  have HO0 := Aside0.mk (show Kd.R (Kd.int .i64) 3 w w0.heap.size (fun k_ => (P0_ k_ ∨ w.heap.size ≤ k_)) u9000_ l0 from Kd.R_mono ho0 (fun k_ hk => (.inl hk)))
  have HK := Aside0.mk (Kept.refl w (fun k_ => P0_ k_))
  have HW0 := Aside0.mk hB.size
  have HB := Aside0.mk hB
  clear hB
  have H : (slices_stableCmpFunc_int.l0 k l0 a1 a2.f 20 0 20) = some r := h
  clear h
  have H' := Aside0.mk H
  clear H
  go_enter Tryd.func62, Tryd.ntmps62
  go_wp2
  go_loopg [7, 8] k (fun kq v7 v8 w' => ∃ (x0_1 : List Int) (x7_1 : Int) (x8_1 : Int), v7 = .int .i64 x7_1 ∧ v8 = .int .i64 x8_1 ∧ Aside0 (slices_stableCmpFunc_int.l0 kq x0_1 a1 a2.f 20 x7_1 x8_1 = some r) ∧ Aside0 (kq ≤ k) ∧ Aside0 (Kd.R (Kd.int .i64) 3 w' w0.heap.size (fun k_ => (P0_ k_ ∨ w.heap.size ≤ k_)) u9000_ x0_1) ∧ Aside0 (Kept w w' (fun k_ => P0_ k_)) ∧ Aside0 (Below w0.heap.size w0 w'))
  case atStart => exact ⟨(l0), (0), (20), (by first | rfl | (simp; done) | (simp [*]; done)), (by first | rfl | (simp; done) | (simp [*]; done)), H', ⟨Nat.le_refl _⟩, ⟨by (with_reducible repeat (first | apply Kd.R_alloc | apply Kd.R_drewN | apply Kd.R_drew)); exact HO0.out⟩, ⟨by repeat (first | (with_reducible first | exact HK.out | apply Kept.alloc | apply Kept.drewN | apply Kept.drew) | exact HK.out)⟩, ⟨by repeat (first | (with_reducible first | exact HB.out | apply below_alloc | apply pw_below_drewN | apply below_drew1) | exact HB.out)⟩⟩
  case round =>
    clear H'
    try clear p2
    obtain ⟨x0_1, x7_1, x8_1, rfl, rfl, HA, HK1, HO_0, HK, HB⟩ := hrel
    cases gk with
    | zero => exact absurd HA.out (by simp [slices_stableCmpFunc_int.l0])
    | succ k1 =>
      have H := HA.out
      clear HA
      simp only [slices_stableCmpFunc_int.l0] at H
      by_cases c4 : x8_1 ≤ a1
      · rw [if_pos c4] at H
        have c4b0 : decide (x8_1 ≤ a1) = true := decide_eq_true c4
        clear c4
        replace H := Option.bind_eq_some_iff.mp H
        obtain ⟨t188, A50, H⟩ := H
        replace H : (slices_stableCmpFunc_int.l0 k1 t188 a1 a2.f 20 x8_1 (wrap64 (x8_1 + 20))) = some r := H
        have A5 := Aside0.mk A50
        clear A50
        have H' := Aside0.mk H
        clear H
        obtain ⟨Ao6, co6, eo6⟩ := Kd.R_slice HO_0.out
        subst eo6
        go_wp2_with (first | ((with_reducible refine gate_callee (f := 77) rfl ?_); refine goesL_ (some 18) rfl rfl Tryd.func77 (by kernel_rfl) rfl #[.slice Ao6 x0_1.length co6, .int .i64 x7_1, .int .i64 x8_1, .func (.func a2.g) #[] a2.lb] rfl (by (try simp only [List.map_toArray, List.map_cons, List.map_nil]); first | done | rfl | (simp only [List.length_drop, List.length_take]; rfl)) ?_; (with_reducible refine (slices_insertionSortCmpFunc_int.calls k1 (fun k_ => some k_ = (.slice Ao6 x0_1.length co6 : Value).ownBlock) (.slice Ao6 x0_1.length co6) x0_1 x7_1 x8_1 a2 t188 w0 _ ⟨?side1, hcw_.out⟩ ?side2 A5.out).mono ?_); (case side1 => repeat (first | (with_reducible first | exact HB.out | apply below_alloc | apply pw_below_drewN | apply below_drew1) | exact HB.out)); (case side2 => exact Kd.R_tight rfl HO_0.out); rintro e w7 ⟨rfl, hy0, hb, hkp⟩; refine ⟨_, rfl, ?_⟩; have n0_ := Aside0.mk (Kd.R_reok rfl hy0 (fun k_ e_ => HO_0.out.1 k_ e_)); have n1_ := Aside0.mk (Kept.then_ (S := (fun k_ => P0_ k_)) (by repeat (first | (with_reducible first | exact HK.out | apply Kept.alloc | apply Kept.drewN | apply Kept.drew) | exact HK.out)) hkp (fun k_ hs_ => (fun e_ => (HO_0.out.1 k_ e_.symm)) hs_)); have n2_ := Aside0.mk (hb); clear HO_0; clear HK; clear HB; have HO_0 := n0_; have HK := n1_; have HB := n2_; clear n0_ n1_ n2_; (try clear hb); (try clear hkp); (try clear hy0)))
        go_roundg k1
        case measure => have := HK1.out; omega
        case rel => exact ⟨(t188), (x8_1), (wrap64 (x8_1 + 20)), (by first | rfl | (simp; done) | (simp [*]; done)), (by first | rfl | (simp; done) | (simp [*]; done)), H', ⟨by have := HK1.out; omega⟩, ⟨by (with_reducible repeat (first | apply Kd.R_alloc | apply Kd.R_drewN | apply Kd.R_drew)); exact HO_0.out⟩, ⟨by repeat (first | (with_reducible first | exact HK.out | apply Kept.alloc | apply Kept.drewN | apply Kept.drew) | exact HK.out)⟩, ⟨by repeat (first | (with_reducible first | exact HB.out | apply below_alloc | apply pw_below_drewN | apply below_drew1) | exact HB.out)⟩⟩
      · rw [if_neg c4] at H
        have c4b0 : decide (x8_1 ≤ a1) = false := decide_eq_false c4
        clear c4
        replace H := Option.bind_eq_some_iff.mp H
        obtain ⟨t189, A80, H⟩ := H
        replace H : (slices_stableCmpFunc_int.l1 k1 t189 a1 a2.f 20) = some r := H
        have A8 := Aside0.mk A80
        clear A80
        have H' := Aside0.mk H
        clear H
        obtain ⟨Ao9, co9, eo9⟩ := Kd.R_slice HO_0.out
        subst eo9
        go_wp2_with (first | ((with_reducible refine gate_callee (f := 77) rfl ?_); refine goesL_ (some 27) rfl rfl Tryd.func77 (by kernel_rfl) rfl #[.slice Ao9 x0_1.length co9, .int .i64 x7_1, .int .i64 a1, .func (.func a2.g) #[] a2.lb] rfl (by (try simp only [List.map_toArray, List.map_cons, List.map_nil]); first | done | rfl | (simp only [List.length_drop, List.length_take]; rfl)) ?_; (with_reducible refine (slices_insertionSortCmpFunc_int.calls k1 (fun k_ => some k_ = (.slice Ao9 x0_1.length co9 : Value).ownBlock) (.slice Ao9 x0_1.length co9) x0_1 x7_1 a1 a2 t189 w0 _ ⟨?side1, hcw_.out⟩ ?side2 A8.out).mono ?_); (case side1 => repeat (first | (with_reducible first | exact HB.out | apply below_alloc | apply pw_below_drewN | apply below_drew1) | exact HB.out)); (case side2 => exact Kd.R_tight rfl HO_0.out); rintro e w10 ⟨rfl, hy0, hb, hkp⟩; refine ⟨_, rfl, ?_⟩; have n0_ := Aside0.mk (Kd.R_reok rfl hy0 (fun k_ e_ => HO_0.out.1 k_ e_)); have n1_ := Aside0.mk (Kept.then_ (S := (fun k_ => P0_ k_)) (by repeat (first | (with_reducible first | exact HK.out | apply Kept.alloc | apply Kept.drewN | apply Kept.drew) | exact HK.out)) hkp (fun k_ hs_ => (fun e_ => (HO_0.out.1 k_ e_.symm)) hs_)); have n2_ := Aside0.mk (hb); clear HO_0; clear HK; clear HB; have HO_0 := n0_; have HK := n1_; have HB := n2_; clear n0_ n1_ n2_; (try clear hb); (try clear hkp); (try clear hy0)))
        (try simp only [Act.put, List.setIfInBounds_toArray, List.set_cons_zero, List.set_cons_succ])
        go_loopg [6] k1 (fun kq v6 w' => ∃ (x0_2 : List Int) (x6_2 : Int), v6 = .int .i64 x6_2 ∧ Aside0 (slices_stableCmpFunc_int.l1 kq x0_2 a1 a2.f x6_2 = some r) ∧ Aside0 (kq ≤ k1) ∧ Aside0 (Kd.R (Kd.int .i64) 3 w' w0.heap.size (fun k_ => (P0_ k_ ∨ w.heap.size ≤ k_)) (.slice Ao9 x0_1.length co9) x0_2) ∧ Aside0 (Kept w w' (fun k_ => P0_ k_)) ∧ Aside0 (Below w0.heap.size w0 w'))
        case atStart => exact ⟨(t189), (20), (by first | rfl | (simp; done) | (simp [*]; done)), H', ⟨Nat.le_refl _⟩, ⟨by (with_reducible repeat (first | apply Kd.R_alloc | apply Kd.R_drewN | apply Kd.R_drew)); exact HO_0.out⟩, ⟨by repeat (first | (with_reducible first | exact HK.out | apply Kept.alloc | apply Kept.drewN | apply Kept.drew) | exact HK.out)⟩, ⟨by repeat (first | (with_reducible first | exact HB.out | apply below_alloc | apply pw_below_drewN | apply below_drew1) | exact HB.out)⟩⟩
        case round =>
          clear H'
          try clear p2
          try clear c4
          try clear c4b0
          try clear c6
          try clear p6
          try clear c7
          try clear p2
          obtain ⟨x0_2, x6_2, rfl, HA, HK2, HO_0, HK, HB⟩ := hrel
          have hl0_2 := (Kd.R_reads' HO_0.out).1
          rw [hl0_2] at HO_0
          (try simp only [hl0_2])
          cases gk with
          | zero => exact absurd HA.out (by simp [slices_stableCmpFunc_int.l1])
          | succ k2 =>
            have H := HA.out
            clear HA
            simp only [slices_stableCmpFunc_int.l1] at H
            by_cases c11 : x6_2 < a1
            · rw [if_pos c11] at H
              have c11b0 : decide (x6_2 < a1) = true := decide_eq_true c11
              clear c11
              have H' := Aside0.mk H
              clear H
              go_wp2
              go_loopg [7, 8] k2 (fun kq v7 v8 w' => ∃ (x0_3 : List Int) (x7_3 : Int) (x8_3 : Int), v7 = .int .i64 x7_3 ∧ v8 = .int .i64 x8_3 ∧ Aside0 (slices_stableCmpFunc_int.l2 kq x0_3 a1 a2.f x6_2 x7_3 x8_3 = some r) ∧ Aside0 (kq ≤ k2) ∧ Aside0 (Kd.R (Kd.int .i64) 3 w' w0.heap.size (fun k_ => (P0_ k_ ∨ w.heap.size ≤ k_)) (.slice Ao9 x0_2.length co9) x0_3) ∧ Aside0 (Kept w w' (fun k_ => P0_ k_)) ∧ Aside0 (Below w0.heap.size w0 w'))
              case atStart => exact ⟨(x0_2), (0), (wrap64 (2 * x6_2)), (by first | rfl | (simp; done) | (simp [*]; done)), (by first | rfl | (simp; done) | (simp [*]; done)), H', ⟨Nat.le_refl _⟩, ⟨by (try simp only [hl0_2]); (with_reducible repeat (first | apply Kd.R_alloc | apply Kd.R_drewN | apply Kd.R_drew)); exact HO_0.out⟩, ⟨by repeat (first | (with_reducible first | exact HK.out | apply Kept.alloc | apply Kept.drewN | apply Kept.drew) | exact HK.out)⟩, ⟨by repeat (first | (with_reducible first | exact HB.out | apply below_alloc | apply pw_below_drewN | apply below_drew1) | exact HB.out)⟩⟩
              case round =>
                clear H'
                try clear c1
                try clear p2
                try clear c4
                try clear c4b0
                try clear c6
                try clear p6
                try clear c7
                try clear c11
                try clear c11b0
                try clear p2
                try clear p6
                obtain ⟨x0_3, x7_3, x8_3, rfl, rfl, HA, HK3, HO_0, HK, HB⟩ := hrel
                have hl0_3 := (Kd.R_reads' HO_0.out).1
                rw [hl0_3] at HO_0
                (try simp only [hl0_3])
                cases gk with
                | zero => exact absurd HA.out (by simp [slices_stableCmpFunc_int.l2])
                | succ k3 =>
                  have H := HA.out
                  clear HA
                  simp only [slices_stableCmpFunc_int.l2] at H
                  by_cases c12 : x8_3 ≤ a1
                  · rw [if_pos c12] at H
                    have c12b0 : decide (x8_3 ≤ a1) = true := decide_eq_true c12
                    clear c12
                    replace H := Option.bind_eq_some_iff.mp H
                    obtain ⟨t190, A130, H⟩ := H
                    replace H : (slices_stableCmpFunc_int.l2 k3 t190 a1 a2.f x6_2 x8_3 (wrap64 (x8_3 + (wrap64 (2 * x6_2))))) = some r := H
                    have A13 := Aside0.mk A130
                    clear A130
                    have H' := Aside0.mk H
                    clear H
                    go_wp2_with (first | ((with_reducible refine gate_callee (f := 78) rfl ?_); refine goesL_ (some 43) rfl rfl Tryd.func78 (by kernel_rfl) rfl #[.slice Ao9 x0_3.length co9, .int .i64 x7_3, .int .i64 (wrap64 (x7_3 + x6_2)), .int .i64 x8_3, .func (.func a2.g) #[] a2.lb] rfl (by (try simp only [List.map_toArray, List.map_cons, List.map_nil]); first | done | rfl | (simp only [List.length_drop, List.length_take]; rfl)) ?_; (with_reducible refine (slices_symMergeCmpFunc_int.calls k3 (fun k_ => some k_ = (.slice Ao9 x0_3.length co9 : Value).ownBlock) (.slice Ao9 x0_3.length co9) x0_3 x7_3 (wrap64 (x7_3 + x6_2)) x8_3 a2 t190 w0 _ ⟨?side1, hcw_.out⟩ ?side2 A13.out).mono ?_); (case side1 => repeat (first | (with_reducible first | exact HB.out | apply below_alloc | apply pw_below_drewN | apply below_drew1) | exact HB.out)); (case side2 => exact Kd.R_tight rfl HO_0.out); rintro e w14 ⟨rfl, hy0, hb, hkp⟩; refine ⟨_, rfl, ?_⟩; have n0_ := Aside0.mk (Kd.R_reok rfl hy0 (fun k_ e_ => HO_0.out.1 k_ e_)); have n1_ := Aside0.mk (Kept.then_ (S := (fun k_ => P0_ k_)) (by repeat (first | (with_reducible first | exact HK.out | apply Kept.alloc | apply Kept.drewN | apply Kept.drew) | exact HK.out)) hkp (fun k_ hs_ => (fun e_ => (HO_0.out.1 k_ e_.symm)) hs_)); have n2_ := Aside0.mk (hb); clear HO_0; clear HK; clear HB; have HO_0 := n0_; have HK := n1_; have HB := n2_; clear n0_ n1_ n2_; (try clear hb); (try clear hkp); (try clear hy0)))
                    (try simp only [← hl0_3])
                    go_roundg k3
                    case measure => have := HK1.out; have := HK2.out; have := HK3.out; omega
                    case rel => exact ⟨(t190), (x8_3), (wrap64 (x8_3 + (wrap64 (2 * x6_2)))), (by first | rfl | (simp; done) | (simp [*]; done)), (by first | rfl | (simp; done) | (simp [*]; done)), H', ⟨by have := HK1.out; have := HK2.out; have := HK3.out; omega⟩, ⟨by (try simp only [hl0_2]); (try simp only [hl0_3]); (with_reducible repeat (first | apply Kd.R_alloc | apply Kd.R_drewN | apply Kd.R_drew)); exact HO_0.out⟩, ⟨by repeat (first | (with_reducible first | exact HK.out | apply Kept.alloc | apply Kept.drewN | apply Kept.drew) | exact HK.out)⟩, ⟨by repeat (first | (with_reducible first | exact HB.out | apply below_alloc | apply pw_below_drewN | apply below_drew1) | exact HB.out)⟩⟩
                  · rw [if_neg c12] at H
                    have c12b0 : decide (x8_3 ≤ a1) = false := decide_eq_false c12
                    clear c12
                    by_cases c15 : (wrap64 (x7_3 + x6_2)) < a1
                    · rw [if_pos c15] at H
                      have c15b0 : decide ((wrap64 (x7_3 + x6_2)) < a1) = true := decide_eq_true c15
                      clear c15
                      replace H := Option.bind_eq_some_iff.mp H
                      obtain ⟨t191, A160, H⟩ := H
                      replace H : (slices_stableCmpFunc_int.l1 k3 t191 a1 a2.f (wrap64 (x6_2 * 2))) = some r := H
                      have A16 := Aside0.mk A160
                      clear A160
                      have H' := Aside0.mk H
                      clear H
                      go_wp2_with (first | ((with_reducible refine gate_callee (f := 78) rfl ?_); refine goesL_ (some 60) rfl rfl Tryd.func78 (by kernel_rfl) rfl #[.slice Ao9 x0_3.length co9, .int .i64 x7_3, .int .i64 (wrap64 (x7_3 + x6_2)), .int .i64 a1, .func (.func a2.g) #[] a2.lb] rfl (by (try simp only [List.map_toArray, List.map_cons, List.map_nil]); first | done | rfl | (simp only [List.length_drop, List.length_take]; rfl)) ?_; (with_reducible refine (slices_symMergeCmpFunc_int.calls k3 (fun k_ => some k_ = (.slice Ao9 x0_3.length co9 : Value).ownBlock) (.slice Ao9 x0_3.length co9) x0_3 x7_3 (wrap64 (x7_3 + x6_2)) a1 a2 t191 w0 _ ⟨?side1, hcw_.out⟩ ?side2 A16.out).mono ?_); (case side1 => repeat (first | (with_reducible first | exact HB.out | apply below_alloc | apply pw_below_drewN | apply below_drew1) | exact HB.out)); (case side2 => exact Kd.R_tight rfl HO_0.out); rintro e w17 ⟨rfl, hy0, hb, hkp⟩; refine ⟨_, rfl, ?_⟩; have n0_ := Aside0.mk (Kd.R_reok rfl hy0 (fun k_ e_ => HO_0.out.1 k_ e_)); have n1_ := Aside0.mk (Kept.then_ (S := (fun k_ => P0_ k_)) (by repeat (first | (with_reducible first | exact HK.out | apply Kept.alloc | apply Kept.drewN | apply Kept.drew) | exact HK.out)) hkp (fun k_ hs_ => (fun e_ => (HO_0.out.1 k_ e_.symm)) hs_)); have n2_ := Aside0.mk (hb); clear HO_0; clear HK; clear HB; have HO_0 := n0_; have HK := n1_; have HB := n2_; clear n0_ n1_ n2_; (try clear hb); (try clear hkp); (try clear hy0)))
                      (try simp only [← hl0_2, ← hl0_3])
                      go_roundg k3
                      case measure => have := HK1.out; have := HK2.out; have := HK3.out; omega
                      case rel => exact ⟨(t191), (wrap64 (x6_2 * 2)), (by first | rfl | (simp; done) | (simp [*]; done)), H', ⟨by have := HK1.out; have := HK2.out; have := HK3.out; omega⟩, ⟨by (try simp only [hl0_2]); (try simp only [hl0_3]); (with_reducible repeat (first | apply Kd.R_alloc | apply Kd.R_drewN | apply Kd.R_drew)); exact HO_0.out⟩, ⟨by repeat (first | (with_reducible first | exact HK.out | apply Kept.alloc | apply Kept.drewN | apply Kept.drew) | exact HK.out)⟩, ⟨by repeat (first | (with_reducible first | exact HB.out | apply below_alloc | apply pw_below_drewN | apply below_drew1) | exact HB.out)⟩⟩
                    · rw [if_neg c15] at H
                      have c15b0 : decide ((wrap64 (x7_3 + x6_2)) < a1) = false := decide_eq_false c15
                      clear c15
                      have H' := Aside0.mk H
                      clear H
                      go_wp2
                      (try simp only [← hl0_2, ← hl0_3])
                      go_roundg k3
                      case measure => have := HK1.out; have := HK2.out; have := HK3.out; omega
                      case rel => exact ⟨(x0_3), (wrap64 (x6_2 * 2)), (by first | rfl | (simp; done) | (simp [*]; done)), H', ⟨by have := HK1.out; have := HK2.out; have := HK3.out; omega⟩, ⟨by (try simp only [hl0_2]); (try simp only [hl0_3]); (with_reducible repeat (first | apply Kd.R_alloc | apply Kd.R_drewN | apply Kd.R_drew)); exact HO_0.out⟩, ⟨by repeat (first | (with_reducible first | exact HK.out | apply Kept.alloc | apply Kept.drewN | apply Kept.drew) | exact HK.out)⟩, ⟨by repeat (first | (with_reducible first | exact HB.out | apply below_alloc | apply pw_below_drewN | apply below_drew1) | exact HB.out)⟩⟩
            · rw [if_neg c11] at H
              have c11b0 : decide (x6_2 < a1) = false := decide_eq_false c11
              clear c11
              obtain rfl := Option.some.inj H
              go_wp2
              first | go_end0 | ((try simp only [Exit.inBlock, Exit.then]); refine bodyPost_ret (results_none rfl _ _ _) rfl ?_)
              exact ⟨by first | rfl | (simp [errW_none, errW_some] <;> rfl) | (simp [*, errW_none, errW_some] <;> rfl), (by first | exact (by (with_reducible repeat (first | apply Kd.R_alloc | apply Kd.R_drewN | apply Kd.R_drew)); exact HO_0.out) | (simp only [hl0_2]; exact (by (with_reducible repeat (first | apply Kd.R_alloc | apply Kd.R_drewN | apply Kd.R_drew)); exact HO_0.out))), by repeat (first | (with_reducible first | exact HB.out | apply below_alloc | apply pw_below_drewN | apply below_drew1) | exact HB.out), by repeat (first | (with_reducible first | exact HK.out | apply Kept.alloc | apply Kept.drewN | apply Kept.drew) | exact HK.out)⟩
end Go.Proofs.YtcjpojppbmlfaaaDoor.Pr
namespace Go.Proofs.YtcjpojppbmlfaaaDoor.Pr
open Go.RowKit Go.Proofs.YtcjpojppbmlfaaaDoorW.PrintWords Go.Proofs.YtcjpojppbmlfaaaDoorW.PrintLast Go.Proofs.YtcjpojppbmlfaaaDoorW.PrintMore
attribute [local go_sem] max2_int min2_int max_two min_two max_three min_three max_four min_four
set_option linter.unusedVariables false
set_option linter.unusedSimpArgs false
def slices_SortStableFunc_int_int.f (k : Nat) (l0 : List Int) (a1 : Int → Int → Option Int) : Option (List Int) := (slices_stableCmpFunc_int.f k l0 (l0.length : Int) a1).bind fun t192 => (some t192)
theorem slices_SortStableFunc_int_int.mono : ∀ a0 a1 k, LeO (slices_SortStableFunc_int_int.f k a0 a1) (slices_SortStableFunc_int_int.f (k + 1) a0 a1) := by
  intro a0 a1 k
  unfold slices_SortStableFunc_int_int.f
  repeat' first
      | (with_reducible exact slices_stableCmpFunc_int.mono _ _ _ _)
      | (with_reducible exact LeO.refl _)
      | (with_reducible exact LeO.none _)
      | (with_reducible refine LeO.ite ?_ ?_)
      | (with_reducible refine LeO.bind ?_ (fun _ => ?_))
      | exact slices_stableCmpFunc_int.mono _ _ _ _
      | exact LeO.none _
      | refine LeO.ite ?_ ?_
      | refine LeO.bind ?_ (fun _ => ?_)
set_option maxHeartbeats 8000000 in
set_option maxRecDepth 100000 in
theorem slices_SortStableFunc_int_int.calls (k : Nat) (P0_ : Nat → Prop) (u9000_ : Value) (l0 : List Int) (a1 : Cf Tryd.prog) (r : List Int) (w0 w : World) (hB : Below w0.heap.size w0 w ∧ a1.W = w0) (ho0 : Kd.R (Kd.int .i64) 3 w w0.heap.size P0_ u9000_ l0) (h : slices_SortStableFunc_int_int.f k l0 a1.f = some r) :
    Calls Tryd.prog 46 #[u9000_, .func (.func a1.g) #[] a1.lb] w fun e w' => e = .returned (.tuple #[]) ∧ Kd.R (Kd.int .i64) 3 w' w0.heap.size (fun k_ => (P0_ k_ ∨ w.heap.size ≤ k_)) u9000_ r ∧ Below w0.heap.size w0 w' ∧ Kept w w' (fun k_ => P0_ k_) := by
  have hcw_ := Aside0.mk hB.2
  replace hB := hB.1
  have HO0 := Aside0.mk (show Kd.R (Kd.int .i64) 3 w w0.heap.size (fun k_ => (P0_ k_ ∨ w.heap.size ≤ k_)) u9000_ l0 from Kd.R_mono ho0 (fun k_ hk => (.inl hk)))
  have HK := Aside0.mk (Kept.refl w (fun k_ => P0_ k_))
  have HW0 := Aside0.mk hB.size
  have HB := Aside0.mk hB
  clear hB
  have H : ((slices_stableCmpFunc_int.f k l0 (l0.length : Int) a1.f).bind fun t192 => (some t192)) = some r := h
  clear h
  replace H := Option.bind_eq_some_iff.mp H
  obtain ⟨t192, A30, H⟩ := H
  replace H : (some t192) = some r := H
  have A3 := Aside0.mk A30
  clear A30
  obtain rfl := Option.some.inj H
  obtain ⟨Ao4, co4, eo4⟩ := Kd.R_slice HO0.out
  subst eo4
  go_enter Tryd.func46, Tryd.ntmps46
  go_wp2_with (first | ((with_reducible refine gate_callee (f := 62) rfl ?_); refine goesL_ (some 8) rfl rfl Tryd.func62 (by kernel_rfl) rfl #[.slice Ao4 l0.length co4, .int .i64 (l0.length : Int), .func (.func a1.g) #[] a1.lb] rfl (by (try simp only [List.map_toArray, List.map_cons, List.map_nil]); first | done | rfl | (simp only [List.length_drop, List.length_take]; rfl)) ?_; (with_reducible refine (slices_stableCmpFunc_int.calls k (fun k_ => some k_ = (.slice Ao4 l0.length co4 : Value).ownBlock) (.slice Ao4 l0.length co4) l0 (l0.length : Int) a1 t192 w0 _ ⟨?side1, hcw_.out⟩ ?side2 A3.out).mono ?_); (case side1 => repeat (first | (with_reducible first | exact HB.out | apply below_alloc | apply pw_below_drewN | apply below_drew1) | exact HB.out)); (case side2 => exact Kd.R_tight rfl HO0.out); rintro e w5 ⟨rfl, hy0, hb, hkp⟩; refine ⟨_, rfl, ?_⟩; have n0_ := Aside0.mk (Kd.R_reok rfl hy0 (fun k_ e_ => HO0.out.1 k_ e_)); have n1_ := Aside0.mk (Kept.then_ (S := (fun k_ => P0_ k_)) (by repeat (first | (with_reducible first | exact HK.out | apply Kept.alloc | apply Kept.drewN | apply Kept.drew) | exact HK.out)) hkp (fun k_ hs_ => (fun e_ => (HO0.out.1 k_ e_.symm)) hs_)); have n2_ := Aside0.mk (hb); clear HO0; clear HK; clear HB; have HO0 := n0_; have HK := n1_; have HB := n2_; clear n0_ n1_ n2_; (try clear hb); (try clear hkp); (try clear hy0)))
  first | go_end0 | ((try simp only [Exit.inBlock, Exit.then]); refine bodyPost_ret (results_none rfl _ _ _) rfl ?_)
  exact ⟨by first | rfl | (simp [errW_none, errW_some] <;> rfl) | (simp [*, errW_none, errW_some] <;> rfl), by (with_reducible repeat (first | apply Kd.R_alloc | apply Kd.R_drewN | apply Kd.R_drew)); exact HO0.out, by repeat (first | (with_reducible first | exact HB.out | apply below_alloc | apply pw_below_drewN | apply below_drew1) | exact HB.out), by repeat (first | (with_reducible first | exact HK.out | apply Kept.alloc | apply Kept.drewN | apply Kept.drew) | exact HK.out)⟩
end Go.Proofs.YtcjpojppbmlfaaaDoor.Pr
namespace Go.Proofs.YtcjpojppbmlfaaaDoor.Pr
open Go.RowKit Go.Proofs.YtcjpojppbmlfaaaDoorW.PrintWords Go.Proofs.YtcjpojppbmlfaaaDoorW.PrintLast Go.Proofs.YtcjpojppbmlfaaaDoorW.PrintMore
attribute [local go_sem] max2_int min2_int max_two min_two max_three min_three max_four min_four
set_option linter.unusedVariables false
set_option linter.unusedSimpArgs false
def cmp_isNaN_int.f (a0 : Int) : Option (Bool) := some (a0 != a0)
set_option maxHeartbeats 8000000 in
set_option maxRecDepth 100000 in
theorem cmp_isNaN_int.calls (a0 : Int) (r : Bool) (w : World) (h : cmp_isNaN_int.f a0 = some r) :
    Calls Tryd.prog 63 #[.int .i64 a0] w fun e w' => e = .returned (.bool r) ∧ Drawn0 w w' := by
  have H : (some (a0 != a0)) = some r := h
  clear h
  obtain rfl := Option.some.inj H
  go_enter Tryd.func63, Tryd.ntmps63
  go_wp2
  go_ret
  exact ⟨by first | rfl | (simp; done) | (simp [*]; done), by repeat (first | exact Drawn0.refl _ | apply Drawn0.step)⟩
end Go.Proofs.YtcjpojppbmlfaaaDoor.Pr
namespace Go.Proofs.YtcjpojppbmlfaaaDoor.Pr
open Go.RowKit Go.Proofs.YtcjpojppbmlfaaaDoorW.PrintWords Go.Proofs.YtcjpojppbmlfaaaDoorW.PrintLast Go.Proofs.YtcjpojppbmlfaaaDoorW.PrintMore
attribute [local go_sem] max2_int min2_int max_two min_two max_three min_three max_four min_four
set_option linter.unusedVariables false
set_option linter.unusedSimpArgs false
def cmp_Compare_int.f (a0 : Int) (a1 : Int) : Option (Int) := (cmp_isNaN_int.f a0).bind fun t193 => ((cmp_isNaN_int.f a1).bind fun t194 => (if t193 = true then (if t194 = true then (some 0) else (some (-1))) else (if t194 = true then (some 1) else (if a0 < a1 then (some (-1)) else (if a0 > a1 then (some 1) else (some 0))))))
set_option maxHeartbeats 8000000 in
set_option maxRecDepth 100000 in
theorem cmp_Compare_int.calls (a0 : Int) (a1 : Int) (r : Int) (w : World) (h : cmp_Compare_int.f a0 a1 = some r) :
    Calls Tryd.prog 48 #[.int .i64 a0, .int .i64 a1] w fun e w' => e = .returned (.int .i64 r) ∧ Drawn0 w w' := by
  have H : ((cmp_isNaN_int.f a0).bind fun t193 => ((cmp_isNaN_int.f a1).bind fun t194 => (if t193 = true then (if t194 = true then (some 0) else (some (-1))) else (if t194 = true then (some 1) else (if a0 < a1 then (some (-1)) else (if a0 > a1 then (some 1) else (some 0))))))) = some r := h
  clear h
  replace H := Option.bind_eq_some_iff.mp H
  obtain ⟨t193, A30, H⟩ := H
  replace H : ((cmp_isNaN_int.f a1).bind fun t194 => (if t193 = true then (if t194 = true then (some 0) else (some (-1))) else (if t194 = true then (some 1) else (if a0 < a1 then (some (-1)) else (if a0 > a1 then (some 1) else (some 0)))))) = some r := H
  have A3 := Aside0.mk A30
  clear A30
  replace H := Option.bind_eq_some_iff.mp H
  obtain ⟨t194, A40, H⟩ := H
  replace H : (if t193 = true then (if t194 = true then (some 0) else (some (-1))) else (if t194 = true then (some 1) else (if a0 < a1 then (some (-1)) else (if a0 > a1 then (some 1) else (some 0))))) = some r := H
  have A4 := Aside0.mk A40
  clear A40
  by_cases c5 : t193 = true
  · subst c5
    have H1 : (if t194 = true then (some 0) else (some (-1))) = some r := by rw [if_pos rfl] at H; exact H
    clear H
    have H := H1
    clear H1
    by_cases c6 : t194 = true
    · subst c6
      have H1 : (some 0) = some r := by rw [if_pos rfl] at H; exact H
      clear H
      have H := H1
      clear H1
      obtain rfl := Option.some.inj H
      go_enter Tryd.func48, Tryd.ntmps48
      go_wp2_with (first | ((with_reducible refine gate_callee (f := 63) rfl ?_); refine goesL_ (some 8) rfl rfl Tryd.func63 (by kernel_rfl) rfl #[.int .i64 a0] rfl (by (try simp only [List.map_toArray, List.map_cons, List.map_nil]); first | done | rfl | (simp only [List.length_drop, List.length_take]; rfl)) ?_; (with_reducible refine (cmp_isNaN_int.calls a0 true _ A3.out).mono ?_); rintro e w' ⟨rfl, ⟨nd, rfl⟩⟩; refine ⟨_, rfl, ?_⟩) | ((with_reducible refine gate_callee (f := 63) rfl ?_); refine goesL_ (some 10) rfl rfl Tryd.func63 (by kernel_rfl) rfl #[.int .i64 a1] rfl (by (try simp only [List.map_toArray, List.map_cons, List.map_nil]); first | done | rfl | (simp only [List.length_drop, List.length_take]; rfl)) ?_; (with_reducible refine (cmp_isNaN_int.calls a1 true _ A4.out).mono ?_); rintro e w' ⟨rfl, ⟨nd, rfl⟩⟩; refine ⟨_, rfl, ?_⟩))
      go_ret
      exact ⟨by first | rfl | (simp; done) | (simp [*]; done), by repeat (first | exact Drawn0.refl _ | apply Drawn0.step)⟩
    · replace c6 := Bool.eq_false_iff.mpr c6
      subst c6
      have H1 : (some (-1)) = some r := by rw [if_neg (show ¬ (false = true) by decide)] at H; exact H
      clear H
      have H := H1
      clear H1
      obtain rfl := Option.some.inj H
      go_enter Tryd.func48, Tryd.ntmps48
      go_wp2_with (first | ((with_reducible refine gate_callee (f := 63) rfl ?_); refine goesL_ (some 8) rfl rfl Tryd.func63 (by kernel_rfl) rfl #[.int .i64 a0] rfl (by (try simp only [List.map_toArray, List.map_cons, List.map_nil]); first | done | rfl | (simp only [List.length_drop, List.length_take]; rfl)) ?_; (with_reducible refine (cmp_isNaN_int.calls a0 true _ A3.out).mono ?_); rintro e w' ⟨rfl, ⟨nd, rfl⟩⟩; refine ⟨_, rfl, ?_⟩) | ((with_reducible refine gate_callee (f := 63) rfl ?_); refine goesL_ (some 10) rfl rfl Tryd.func63 (by kernel_rfl) rfl #[.int .i64 a1] rfl (by (try simp only [List.map_toArray, List.map_cons, List.map_nil]); first | done | rfl | (simp only [List.length_drop, List.length_take]; rfl)) ?_; (with_reducible refine (cmp_isNaN_int.calls a1 false _ A4.out).mono ?_); rintro e w' ⟨rfl, ⟨nd, rfl⟩⟩; refine ⟨_, rfl, ?_⟩))
      go_ret
      exact ⟨by first | rfl | (simp; done) | (simp [*]; done), by repeat (first | exact Drawn0.refl _ | apply Drawn0.step)⟩
  · replace c5 := Bool.eq_false_iff.mpr c5
    subst c5
    have H1 : (if t194 = true then (some 1) else (if a0 < a1 then (some (-1)) else (if a0 > a1 then (some 1) else (some 0)))) = some r := by rw [if_neg (show ¬ (false = true) by decide)] at H; exact H
    clear H
    have H := H1
    clear H1
    by_cases c7 : t194 = true
    · subst c7
      have H1 : (some 1) = some r := by rw [if_pos rfl] at H; exact H
      clear H
      have H := H1
      clear H1
      obtain rfl := Option.some.inj H
      go_enter Tryd.func48, Tryd.ntmps48
      go_wp2_with (first | ((with_reducible refine gate_callee (f := 63) rfl ?_); refine goesL_ (some 8) rfl rfl Tryd.func63 (by kernel_rfl) rfl #[.int .i64 a0] rfl (by (try simp only [List.map_toArray, List.map_cons, List.map_nil]); first | done | rfl | (simp only [List.length_drop, List.length_take]; rfl)) ?_; (with_reducible refine (cmp_isNaN_int.calls a0 false _ A3.out).mono ?_); rintro e w' ⟨rfl, ⟨nd, rfl⟩⟩; refine ⟨_, rfl, ?_⟩) | ((with_reducible refine gate_callee (f := 63) rfl ?_); refine goesL_ (some 10) rfl rfl Tryd.func63 (by kernel_rfl) rfl #[.int .i64 a1] rfl (by (try simp only [List.map_toArray, List.map_cons, List.map_nil]); first | done | rfl | (simp only [List.length_drop, List.length_take]; rfl)) ?_; (with_reducible refine (cmp_isNaN_int.calls a1 true _ A4.out).mono ?_); rintro e w' ⟨rfl, ⟨nd, rfl⟩⟩; refine ⟨_, rfl, ?_⟩))
      go_ret
      exact ⟨by first | rfl | (simp; done) | (simp [*]; done), by repeat (first | exact Drawn0.refl _ | apply Drawn0.step)⟩
    · replace c7 := Bool.eq_false_iff.mpr c7
      subst c7
      have H1 : (if a0 < a1 then (some (-1)) else (if a0 > a1 then (some 1) else (some 0))) = some r := by rw [if_neg (show ¬ (false = true) by decide)] at H; exact H
      clear H
      have H := H1
      clear H1
      by_cases c8 : a0 < a1
      · rw [if_pos c8] at H
        have c8b0 : decide (a0 < a1) = true := decide_eq_true c8
        clear c8
        obtain rfl := Option.some.inj H
        go_enter Tryd.func48, Tryd.ntmps48
        go_wp2_with (first | ((with_reducible refine gate_callee (f := 63) rfl ?_); refine goesL_ (some 8) rfl rfl Tryd.func63 (by kernel_rfl) rfl #[.int .i64 a0] rfl (by (try simp only [List.map_toArray, List.map_cons, List.map_nil]); first | done | rfl | (simp only [List.length_drop, List.length_take]; rfl)) ?_; (with_reducible refine (cmp_isNaN_int.calls a0 false _ A3.out).mono ?_); rintro e w' ⟨rfl, ⟨nd, rfl⟩⟩; refine ⟨_, rfl, ?_⟩) | ((with_reducible refine gate_callee (f := 63) rfl ?_); refine goesL_ (some 10) rfl rfl Tryd.func63 (by kernel_rfl) rfl #[.int .i64 a1] rfl (by (try simp only [List.map_toArray, List.map_cons, List.map_nil]); first | done | rfl | (simp only [List.length_drop, List.length_take]; rfl)) ?_; (with_reducible refine (cmp_isNaN_int.calls a1 false _ A4.out).mono ?_); rintro e w' ⟨rfl, ⟨nd, rfl⟩⟩; refine ⟨_, rfl, ?_⟩))
        go_ret
        exact ⟨by first | rfl | (simp; done) | (simp [*]; done), by repeat (first | exact Drawn0.refl _ | apply Drawn0.step)⟩
      · rw [if_neg c8] at H
        have c8b0 : decide (a0 < a1) = false := decide_eq_false c8
        clear c8
        by_cases c9 : a0 > a1
        · rw [if_pos c9] at H
          have c9b0 : decide (a1 < a0) = true := decide_eq_true c9
          clear c9
          obtain rfl := Option.some.inj H
          go_enter Tryd.func48, Tryd.ntmps48
          go_wp2_with (first | ((with_reducible refine gate_callee (f := 63) rfl ?_); refine goesL_ (some 8) rfl rfl Tryd.func63 (by kernel_rfl) rfl #[.int .i64 a0] rfl (by (try simp only [List.map_toArray, List.map_cons, List.map_nil]); first | done | rfl | (simp only [List.length_drop, List.length_take]; rfl)) ?_; (with_reducible refine (cmp_isNaN_int.calls a0 false _ A3.out).mono ?_); rintro e w' ⟨rfl, ⟨nd, rfl⟩⟩; refine ⟨_, rfl, ?_⟩) | ((with_reducible refine gate_callee (f := 63) rfl ?_); refine goesL_ (some 10) rfl rfl Tryd.func63 (by kernel_rfl) rfl #[.int .i64 a1] rfl (by (try simp only [List.map_toArray, List.map_cons, List.map_nil]); first | done | rfl | (simp only [List.length_drop, List.length_take]; rfl)) ?_; (with_reducible refine (cmp_isNaN_int.calls a1 false _ A4.out).mono ?_); rintro e w' ⟨rfl, ⟨nd, rfl⟩⟩; refine ⟨_, rfl, ?_⟩))
          go_ret
          exact ⟨by first | rfl | (simp; done) | (simp [*]; done), by repeat (first | exact Drawn0.refl _ | apply Drawn0.step)⟩
        · rw [if_neg c9] at H
          have c9b0 : decide (a1 < a0) = false := decide_eq_false c9
          clear c9
          obtain rfl := Option.some.inj H
          go_enter Tryd.func48, Tryd.ntmps48
          go_wp2_with (first | ((with_reducible refine gate_callee (f := 63) rfl ?_); refine goesL_ (some 8) rfl rfl Tryd.func63 (by kernel_rfl) rfl #[.int .i64 a0] rfl (by (try simp only [List.map_toArray, List.map_cons, List.map_nil]); first | done | rfl | (simp only [List.length_drop, List.length_take]; rfl)) ?_; (with_reducible refine (cmp_isNaN_int.calls a0 false _ A3.out).mono ?_); rintro e w' ⟨rfl, ⟨nd, rfl⟩⟩; refine ⟨_, rfl, ?_⟩) | ((with_reducible refine gate_callee (f := 63) rfl ?_); refine goesL_ (some 10) rfl rfl Tryd.func63 (by kernel_rfl) rfl #[.int .i64 a1] rfl (by (try simp only [List.map_toArray, List.map_cons, List.map_nil]); first | done | rfl | (simp only [List.length_drop, List.length_take]; rfl)) ?_; (with_reducible refine (cmp_isNaN_int.calls a1 false _ A4.out).mono ?_); rintro e w' ⟨rfl, ⟨nd, rfl⟩⟩; refine ⟨_, rfl, ?_⟩))
          go_ret
          exact ⟨by first | rfl | (simp; done) | (simp [*]; done), by repeat (first | exact Drawn0.refl _ | apply Drawn0.step)⟩
end Go.Proofs.YtcjpojppbmlfaaaDoor.Pr
namespace Go.Proofs.YtcjpojppbmlfaaaDoor.Pr
open Go.RowKit Go.Proofs.YtcjpojppbmlfaaaDoorW.PrintWords Go.Proofs.YtcjpojppbmlfaaaDoorW.PrintLast Go.Proofs.YtcjpojppbmlfaaaDoorW.PrintMore
attribute [local go_sem] max2_int min2_int max_two min_two max_three min_three max_four min_four
set_option linter.unusedVariables false
set_option linter.unusedSimpArgs false
def cmpI (x y : Int) : Int := if x < y then -1 else if x > y then 1 else 0
theorem cmpI_eq (x y : Int) : cmp_Compare_int.f x y = some (cmpI x y) := by
  have hn : ∀ z : Int, cmp_isNaN_int.f z = some false := fun z => by unfold cmp_isNaN_int.f; simp
  unfold cmp_Compare_int.f cmpI
  simp only [hn, Option.bind_some]
  simp
  by_cases h : x < y
  · simp [h]
  · by_cases h2 : y < x <;> simp [h, h2]
def shrCmp (t s : Int) (ws : List Int) (a b : Int) : Option Int :=
  if 0 ≤ a ∧ a < ws.length ∧ 0 ≤ b ∧ b < ws.length then some (cmpI (Int.tmod (t * rd ws b) s) (Int.tmod (t * rd ws a) s)) else none
set_option maxHeartbeats 2000000 in
theorem shrCmp_calls (t s : Int) (ws : List Int) (g2 g3 g5 : Nat) (A : Option Addr) (c : Nat) (a b r : Int) (w : World) (h2 : w.cell? ⟨g2, 0, none⟩ = some (.int .i64 t)) (h3 : w.cell? ⟨g3, 0, none⟩ = some (.slice A ws.length c)) (h5 : w.cell? ⟨g5, 0, none⟩ = some (.int .i64 s))
    (hr : Kd.C (Kd.int .i64) w A ws.length ws) (hc : ws.length ≤ c) (ht : 0 ≤ t ∧ t ≤ 100000) (hs : 1 ≤ s) (hws : ∀ i : Int, 0 ≤ rd ws i ∧ rd ws i ≤ 100000) (h : shrCmp t s ws a b = some r) :
    Calls Tryd.prog 47 (#[.int .i64 a, .int .i64 b] ++ #[.pointer (some ⟨g2, 0, none⟩), .pointer (some ⟨g3, 0, none⟩), .pointer (some ⟨g5, 0, none⟩)]) w fun e w' => e = .returned (.int .i64 r) ∧ Drawn0 w w' := by
  unfold shrCmp at h
  split at h
  case isFalse => cases h
  case isTrue hab =>
  obtain ⟨ha, ha2, hb, hb2⟩ := hab
  obtain rfl := Option.some.inj h
  clear h
  have hm := Kd.C_max hr
  have prod : ∀ i : Int, 0 ≤ t * rd ws i ∧ t * rd ws i ≤ 10000000000 := fun i => by
    obtain ⟨h0, h1⟩ := hws i
    refine ⟨Int.mul_nonneg ht.1 h0, ?_⟩
    have h2 : t * rd ws i ≤ 100000 * rd ws i := Int.mul_le_mul_of_nonneg_right ht.2 h0
    omega
  have pa := prod a
  have pb := prod b
  have wa : IntKind.i64.wrap (t * rd ws a) = t * rd ws a := by rw [IntKind.wrap_i64]; omega
  have wb : IntKind.i64.wrap (t * rd ws b) = t * rd ws b := by rw [IntKind.wrap_i64]; omega
  obtain ⟨ad, eA, hxa⟩ := Kd.at_int hr a ha ha2
  cases eA
  obtain ⟨ad', eA, hxb⟩ := Kd.at_int hr b hb hb2
  cases eA
  have hs0 : ¬ s = 0 := by omega
  have hsb : (s == 0) = false := beq_eq_false_iff_ne.mpr hs0
  have HC := Aside0.mk (fun W => cmp_Compare_int.calls (Int.tmod (t * rd ws b) s) (Int.tmod (t * rd ws a) s) _ W (cmpI_eq _ _))
  clear prod hws hr
  generalize rd ws a = xa at *
  generalize rd ws b = xb at *
  show Calls Tryd.prog 47 #[.int .i64 a, .int .i64 b, .pointer (some ⟨g2, 0, none⟩), .pointer (some ⟨g3, 0, none⟩), .pointer (some ⟨g5, 0, none⟩)] w _
  go_enter Tryd.func47, Tryd.ntmps47
  go_wp2_with fail
  go_quiet (first | (go_at_call 48; (with_reducible refine (HC.out _).mono ?_); rintro e w' ⟨rfl, ⟨nd, rfl⟩⟩; (try first | exact ⟨rfl, _, World.drewN_drewN _ _ _⟩ | exact ⟨rfl, _, Eq.trans (World.drewN_drewN _ _ _) (congrArg (World.drewN _) (Nat.add_assoc _ _ _))⟩)))
  go_wp2
  go_ret
  exact ⟨rfl, by repeat (first | exact Drawn0.refl _ | apply Drawn0.step)⟩
end Go.Proofs.YtcjpojppbmlfaaaDoor.Pr
namespace Go.Proofs.YtcjpojppbmlfaaaDoor.Pr
open Go.RowKit Go.Proofs.YtcjpojppbmlfaaaDoorW.PrintWords Go.Proofs.YtcjpojppbmlfaaaDoorW.PrintLast Go.Proofs.YtcjpojppbmlfaaaDoorW.PrintMore
attribute [local go_sem] max2_int min2_int max_two min_two max_three min_three max_four min_four
set_option linter.unusedVariables false
set_option linter.unusedSimpArgs false
def bumpO : List Int → List Int → Option (List Int)
  | out, [] => some out
  | out, j :: js => if 0 ≤ j ∧ j < (out.length : Int) then bumpO (out.set j.toNat (wrap64 (rd out j + 1))) js else none
def shrEven (s0 : Int) (l : List Int) : List Int := if s0 = 0 then List.replicate l.length 1 else l
def rngI (n : Nat) : List Int := (List.range n).map fun i => Int.ofNat i
def shrOut (t s : Int) (l : List Int) : List Int := l.map fun x => wrap64 (Int.tdiv (wrap64 (t * x)) s)
def impl_ShrShare.f (k : Nat) (t : Int) (l : List Int) : Option (List Int) :=
  if shrOk t l = true then (if l.length = 0 then some [] else
    (impl_sumOf.f k l).bind fun s0 => (impl_sumOf.f k (shrEven s0 l)).bind fun s => if 1 ≤ s then
      ((slices_SortStableFunc_int_int.f k (rngI l.length) (shrCmp t s (shrEven s0 l))).bind fun ord => (impl_sumOf.f k (shrOut t s (shrEven s0 l))).bind fun so =>
        if 0 ≤ t - so ∧ t - so ≤ (ord.length : Int) then bumpO (shrOut t s (shrEven s0 l)) (ord.take (t - so).toNat) else none)
      else none) else some []
theorem impl_ShrShare.mono : ∀ a0 a1 k, LeO (impl_ShrShare.f k a0 a1) (impl_ShrShare.f (k + 1) a0 a1) := by
  intro a0 a1 k
  unfold impl_ShrShare.f
  repeat' first
      | (with_reducible exact impl_sumOf.mono _ _)
      | (with_reducible exact slices_SortStableFunc_int_int.mono _ _ _)
      | (with_reducible exact LeO.refl _)
      | (with_reducible exact LeO.none _)
      | (with_reducible refine LeO.ite ?_ ?_)
      | (with_reducible refine LeO.bind ?_ (fun _ => ?_))
theorem box_at {w : World} {a b : Obj} {W : World} (hb : Below ((w.alloc a).alloc b).heap.size ((w.alloc a).alloc b) W) : W.heap[w.heap.size]? = some a ∧ W.heap[w.heap.size + 1]? = some b ∧ Below w.heap.size w W := by
  have hs : ((w.alloc a).alloc b).heap.size = w.heap.size + 2 := by show ((w.heap.push a).push b).size = _; simp
  refine ⟨?_, ?_, below_then (below_alloc (below_alloc (Below.refl w.heap.size w) a) b) (by omega) hb⟩
  · rw [hb.block _ (by omega)]; show ((w.heap.push a).push b)[w.heap.size]? = _; simp [Array.getElem?_push]
  · rw [hb.block _ (by omega)]; show ((w.heap.push a).push b)[w.heap.size + 1]? = _; rw [show w.heap.size + 1 = (w.heap.push a).size by simp]; simp only [Array.getElem?_push_size]
theorem blk_step {w w2 : World} {g : Nat} {o : Obj} (hb : Below w.heap.size w w2) (h : w.heap[g]? = some o) : w2.heap[g]? = some o := (hb.block g (lt_of_block h)).trans h
def Row (w : World) (g cap : Nat) (xs : List Int) : Prop := ∃ L : List Value, w.heap[g]? = some (.cells L.toArray 3 (0, 0)) ∧ L.length = cap ∧ xs.length ≤ cap ∧ cap ≤ maxLen ∧ ∀ (j : Nat) (x : Int), xs[j]? = some x → L[j]? = some (Value.int .i64 x)
theorem Row.form {w : World} {base : Nat} {ok : Nat → Prop} {v : Value} {xs : List Int} (h : Kd.R (Kd.int .i64) 3 w base ok v xs) (hm : 0 < xs.length) : ∃ g cap, v = .slice (some ⟨g, 0, none⟩) xs.length cap ∧ base ≤ g ∧ Row w g cap xs := by
  obtain ⟨A, c, e⟩ := Kd.R_slice h
  subst e
  obtain ⟨e1, h2, hC⟩ := Kd.R_reads' h
  obtain ⟨inner, ho⟩ := Kd.R_own h
  obtain ⟨_, hx | ⟨g, cap, cells, he, hb, hg, hle, hmx, hsz, hc⟩⟩ := ho
  · simp at hx; omega
  · obtain ⟨rfl, rfl⟩ : A = some ⟨g, 0, none⟩ ∧ c = cap := by simpa using he
    refine ⟨g, c, rfl, hb, cells.toList, by simpa using hg, by simpa [show (Kd.int IntKind.i64).sz = 1 from rfl] using hsz, by simpa using hle, hmx, fun j x hj => ?_⟩
    have hjl : j < xs.length := (List.getElem?_eq_some_iff.1 hj).1
    obtain ⟨ad, eA, hx⟩ := Kd.at_int hC (j : Int) (by omega) (by omega)
    cases eA
    rw [show rd xs (j : Int) = x by unfold rd; simp [List.getD_eq_getElem?_getD, hj]] at hx
    by_cases h0 : j = 0
    · subst h0; simpa [World.cell?, Addr.add, hg] using hx
    · simpa [World.cell?, Addr.add, hg, h0] using hx
theorem Row.toR {w : World} {g cap base : Nat} {xs : List Int} (h : Row w g cap xs) (hb : base ≤ g) : Kd.R (Kd.int .i64) 3 w base (fun _ => True) (.slice (some ⟨g, 0, none⟩) xs.length cap) xs := by
  obtain ⟨L, h1, h2, h3, h4, h5⟩ := h
  refine Kd.R_of_own ⟨?_, .inr ⟨g, cap, L.toArray, by simp, hb, h1, by simpa using h3, h4, by simp [h2], ?_⟩⟩ (fun _ _ => trivial)
  · simp [encs]
  · apply List.ext_getElem?
    intro j
    by_cases hj : j < xs.length
    · simp only [Nat.mul_one]
      rw [List.getElem?_take_of_lt hj]
      rw [h5 j xs[j] (by simp [hj])]
      simp [encs, hj]
    · rw [List.getElem?_eq_none (by simp; omega), List.getElem?_eq_none (by simp [encs]; omega)]
theorem Row.cell {w : World} {g cap : Nat} {xs : List Int} (h : Row w g cap xs) (k : Int) (h0 : 0 ≤ k) (hk : k < (xs.length : Int)) : w.cell? ⟨g, k.toNat, none⟩ = some (.int .i64 (rd xs k)) := by
  obtain ⟨L, h1, h2, h3, h4, h5⟩ := h
  obtain ⟨j, rfl⟩ : ∃ j : Nat, k = j := ⟨k.toNat, by omega⟩
  have := h5 j (rd xs j) (rd_at xs j (by omega))
  simp [World.cell?, h1, this]
theorem Row.free {w : World} {g cap : Nat} {xs : List Int} (h : Row w g cap xs) (k : Nat) : w.frozen? ⟨g, k, none⟩ = false := by
  obtain ⟨L, h1, h2, h3, h4, h5⟩ := h
  simp [World.frozen?, h1]
theorem Row.put {w : World} {g cap : Nat} {xs : List Int} (h : Row w g cap xs) (k : Nat) (hk : k < xs.length) (x : Int) : Row (w.setCell ⟨g, k, none⟩ (.int .i64 x)) g cap (xs.set k x) := by
  obtain ⟨L, h1, h2, h3, h4, h5⟩ := h
  refine ⟨L.set k (.int .i64 x), ?_, by simpa using h2, by simpa using h3, h4, fun j y hj => ?_⟩
  · have hlt := lt_of_block h1
    have h' : w.heap[g] = .cells L.toArray 3 (0, 0) := by simpa [Array.getElem?_eq_getElem hlt] using h1
    show (w.heap.modify g _)[g]? = _
    rw [Array.getElem?_modify]
    simp [Array.getElem?_eq_getElem hlt, h']
  · rw [List.getElem?_set] at hj ⊢
    by_cases e : k = j
    · subst e; rw [if_pos rfl, if_pos hk] at hj; cases hj; rw [if_pos rfl, if_pos (by omega)]
    · rw [if_neg e] at hj ⊢; exact h5 j y hj
theorem Row.at {w w2 : World} {g cap : Nat} {xs : List Int} (h : Row w g cap xs) (hb : w2.heap[g]? = w.heap[g]?) : Row w2 g cap xs := by
  obtain ⟨L, h1, h2⟩ := h
  exact ⟨L, hb.trans h1, h2⟩
theorem Row.lt {w : World} {g cap : Nat} {xs : List Int} (h : Row w g cap xs) : g < w.heap.size := by
  obtain ⟨L, h1, _⟩ := h
  exact lt_of_block h1
theorem add_block (a : Addr) (i : Nat) : (a.add i).block = a.block := by unfold Addr.add; split <;> rfl
theorem C_addr {w : World} {A : Option Addr} {ws : List Int} (h : Kd.C (Kd.int .i64) w A ws.length ws) (hp : 0 < ws.length) : ∃ ad, A = some ad ∧ ad.block < w.heap.size := by
  obtain ⟨ad, e, hx⟩ := Kd.at_int h 0 (by omega) (by omega)
  exact ⟨ad, e, by have := World.block_lt_of_cell? w _ hx; rwa [add_block] at this⟩
theorem C_at {w w2 : World} {ad : Addr} {ws : List Int} (h : Kd.C (Kd.int .i64) w (some ad) ws.length ws) (hb : w2.heap[ad.block]? = w.heap[ad.block]?) : Kd.C (Kd.int .i64) w2 (some ad) ws.length ws :=
  ⟨h.1, h.2.1, fun hn => by
    obtain ⟨a, e, hc⟩ := h.2.2 hn
    cases e
    refine ⟨ad, rfl, fun j p hj => ?_⟩
    obtain ⟨c, hs, hr, hcell⟩ := hc j p hj
    exact ⟨c, hs, hr, fun i u hu => (World.cell?_of_block (by rw [add_block]; exact hb)).trans (hcell i u hu)⟩⟩
def cutW (w : World) (g : Nat) : World := { w with heap := w.heap.extract 0 g }
theorem cutW_size (w : World) (g : Nat) (h : g ≤ w.heap.size) : (cutW w g).heap.size = g := by unfold cutW; simp; omega
theorem cutW_at (w : World) (g k : Nat) (h : g ≤ w.heap.size) (hk : k < g) : (cutW w g).heap[k]? = w.heap[k]? := by unfold cutW; simp [Array.getElem?_extract, hk]; omega
theorem cutW_below (w : World) (g : Nat) (h : g ≤ w.heap.size) : Below (cutW w g).heap.size (cutW w g) w := ⟨rfl, rfl, rfl, by rw [cutW_size w g h]; exact h, fun k hk => (cutW_at w g k h (by rw [cutW_size w g h] at hk; exact hk)).symm⟩
def shrCf (W : World) (t s : Int) (ws : List Int) (g2 g3 g5 : Nat) (ad : Addr) (c : Nat) (h2 : W.heap[g2]? = some (.cells #[.int .i64 t] 3 (0, 0))) (h3 : W.heap[g3]? = some (.cells #[.slice (some ad) ws.length c] 23 (0, 0))) (h5 : W.heap[g5]? = some (.cells #[.int .i64 s] 3 (0, 0)))
    (hr : Kd.C (Kd.int .i64) W (some ad) ws.length ws) (hc : ws.length ≤ c) (ht : 0 ≤ t ∧ t ≤ 100000) (hs : 1 ≤ s) (hws : ∀ i : Int, 0 ≤ rd ws i ∧ rd ws i ≤ 100000) : Cf Tryd.prog where
  f := shrCmp t s ws
  g := 47
  lb := #[.pointer (some ⟨g2, 0, none⟩), .pointer (some ⟨g3, 0, none⟩), .pointer (some ⟨g5, 0, none⟩)]
  W := W
  enters := enters_ Tryd.func47 (by kernel_rfl) rfl
  calls := fun a b r w hb h => shrCmp_calls t s ws g2 g3 g5 (some ad) c a b r w (cell_of_one (blk_step hb h2)) (cell_of_one (blk_step hb h3)) (cell_of_one (blk_step hb h5)) (Kd.C_below hr hb) hc ht hs hws h
theorem rd_in (ws : List Int) (h : ∀ x ∈ ws, 0 ≤ x ∧ x ≤ 100000) (i : Int) : 0 ≤ rd ws i ∧ rd ws i ≤ 100000 := by
  unfold rd
  rw [List.getD_eq_getElem?_getD]
  cases e : ws[i.toNat]? with
  | none => simp
  | some x => exact h x (List.mem_of_getElem? e)
theorem length_rngI (n : Nat) : (rngI n).length = n := by simp [rngI]
theorem R_put_below {α : Type} {d : Kd α} {e : Nat} {w : World} {base : Nat} {ok : Nat → Prop} {v : Value} {xs : List α} (h : d.R e w base ok v xs) (g : Nat) (hg : g < base) (u : Value) : d.R e (w.setCell ⟨g, 0, none⟩ u) base ok v xs :=
  Kd.R_mono (Kd.R_step (Kd.R_bound h) (fun k hk _ => Below.heap_setCell _ _ _ k (by have := hk.2.1; simp; omega))) (fun _ hk => hk.1)
set_option maxHeartbeats 1000000 in
theorem impl_ShrShare.calls (k : Nat) (a0 : Int) (A1 : Option Addr) (c1 : Nat) (l1 : List Int) (r : List Int) (w : World) (hr1 : Kd.C (Kd.int .i64) w A1 l1.length l1) (hc1 : l1.length ≤ c1) (h : impl_ShrShare.f k a0 l1 = some r) :
    Calls Tryd.prog 15 #[.int .i64 a0, .slice A1 l1.length c1] w fun e w' => ∃ v0_ : Value, e = .returned (v0_) ∧ Kd.R (Kd.int .i64) 3 w' w.heap.size (fun _ => True) v0_ r ∧ Below w.heap.size w w' := by
  have hm := Kd.C_max hr1
  unfold impl_ShrShare.f at h
  by_cases hok : shrOk a0 l1 = true
  case neg =>
    rw [if_neg hok] at h
    obtain rfl := Option.some.inj h
    have hok' : shrOk a0 l1 = false := by simpa using hok
    have HS := Aside0.mk (fun W (hb : Below w.heap.size w W) => impl_ShrOk.calls a0 A1 c1 l1 false W (Kd.C_below hr1 hb) hc1 (by unfold impl_ShrOk.f; rw [hok']))
    clear h hok hok' hr1 hc1
    go_enter Tryd.func15, Tryd.ntmps15
    go_wp2_with (go_at_call 18; (with_reducible refine (HS.out _ (below_alloc (below_alloc (Below.refl w.heap.size w) _) _)).mono ?_); rintro e w1 ⟨rfl, hb⟩; have HB := Aside0.mk (box_at hb).2.2; clear hb)
    go_ret
    exact ⟨_, rfl, Kd.R_nil _ _ _ _ _, HB.out⟩
  case pos =>
  rw [if_pos hok] at h
  have HS := Aside0.mk (fun W (hb : Below w.heap.size w W) => impl_ShrOk.calls a0 A1 c1 l1 true W (Kd.C_below hr1 hb) hc1 (by unfold impl_ShrOk.f; rw [hok]))
  by_cases hl : l1.length = 0
  · rw [if_pos hl] at h
    obtain rfl := Option.some.inj h
    have hlz : (l1.length : Int) = 0 := by omega
    clear h hok hr1 hc1 hl hm
    go_enter Tryd.func15, Tryd.ntmps15
    go_wp2_with (go_at_call 18; (with_reducible refine (HS.out _ (below_alloc (below_alloc (Below.refl w.heap.size w) _) _)).mono ?_); rintro e w1 ⟨rfl, hb⟩; have HB := Aside0.mk (box_at hb).2.2; have hc3 := cell_of_one (box_at hb).2.1; clear hb)
    go_ret
    exact ⟨_, rfl, Kd.R_nil _ _ _ _ _, HB.out⟩
  rw [if_neg hl] at h
  have hfacts : 0 ≤ a0 ∧ a0 ≤ 100000 ∧ l1.length ≤ 100 ∧ ∀ x ∈ l1, 0 ≤ x ∧ x ≤ 100000 := by
    unfold shrOk inB at hok
    simp at hok
    obtain ⟨⟨h1, h2⟩, h3, h4⟩ := hok
    exact ⟨h1, h2, by omega, fun x hx => h4 x hx⟩
  replace h := Option.bind_eq_some_iff.mp h
  obtain ⟨s0, hs0, h⟩ := h
  replace h := Option.bind_eq_some_iff.mp h
  obtain ⟨s, hs, h⟩ := h
  by_cases hs1 : 1 ≤ s
  case neg => rw [if_neg hs1] at h; cases h
  rw [if_pos hs1] at h
  replace h := Option.bind_eq_some_iff.mp h
  obtain ⟨ord, hord, h⟩ := h
  replace h := Option.bind_eq_some_iff.mp h
  obtain ⟨so, hso, h⟩ := h
  by_cases hcut : 0 ≤ a0 - so ∧ a0 - so ≤ (ord.length : Int)
  case neg => rw [if_neg hcut] at h; cases h
  rw [if_pos hcut] at h
  have HR := Aside0.mk hr1
  have HC1 := Aside0.mk hc1
  have HF := Aside0.mk hfacts
  have HS0 := Aside0.mk hs0
  have HS1 := Aside0.mk hs
  have H1 := Aside0.mk hs1
  have HO := Aside0.mk hord
  have HSO := Aside0.mk hso
  have HCUT := Aside0.mk hcut
  have HL := Aside0.mk (show 1 ≤ l1.length by omega)
  have H := Aside0.mk h
  have hln : ¬ (l1.length : Int) = 0 := by omega
  clear hr1 hc1 hfacts hs0 hs hs1 hord hso hcut h hok hl hm
  go_enter Tryd.func15, Tryd.ntmps15
  go_upto_if 23 with (first | (go_at_call 18; (with_reducible refine (HS.out _ (below_alloc (below_alloc (Below.refl w.heap.size w) _) _)).mono ?_); rintro e w1 ⟨rfl, hb⟩; have HB := Aside0.mk (box_at hb).2.2; have H2 := Aside0.mk (box_at hb).1; have H3 := Aside0.mk (box_at hb).2.1; have hc3 := cell_of_one (box_at hb).2.1; clear hb) | (go_at_call 44; (with_reducible refine (impl_sumOf.calls k A1 c1 l1 s0 _ (Kd.C_below HR.out HB.out) HC1.out HS0.out).mono ?_); rintro e w' ⟨rfl, ⟨nd, rfl⟩⟩))
  obtain ⟨ws, hws⟩ : ∃ ws, ws = shrEven s0 l1 := ⟨_, rfl⟩
  have HWS := Aside0.mk hws
  have hwl : ws.length = l1.length := by rw [hws]; unfold shrEven; split <;> simp
  have HWL := Aside0.mk hwl
  clear hws hwl
  go_cut [] (fun wc => ∃ A3 c3, Aside0 (wc.heap[w.heap.size]? = some (.cells #[.int .i64 a0] 3 (0, 0))) ∧ Aside0 (wc.heap[w.heap.size + 1]? = some (.cells #[.slice A3 ws.length c3] 23 (0, 0))) ∧ Aside0 (Kd.C (Kd.int .i64) wc A3 ws.length ws) ∧ Aside0 (ws.length ≤ c3) ∧ Aside0 (Below w.heap.size w wc))
  case first =>
    by_cases hz : s0 = 0
    · have hzb : (s0 == 0) = true := by rw [hz]; rfl
      have HZ := Aside0.mk hz
      clear hz
      have hb3 : (w1.drewN nd).cell? ⟨w.heap.size + 1, 0, none⟩ = some (.slice A1 l1.length c1) := cell_of_one H3.out
      go_wp2_with (first | ((with_reducible refine gate_dst (N := 24) rfl ?_); refine Kd.R_lit (Kd.int .i64) _ 3 ?hg (N := 24) ?hd (xs := ([1] : List Int)) (inner := [.int .i64 1]) (ok := fun _ => True) (okp := fun _ => True) ?hr ?hp (fun _ hk => hk) trivial (Below.refl _ _) (Nat.le_refl _) (by simp) ?_; (case hd => rfl); (case hg => rfl); (case hr => first | (go_simp; done) | (go_simp; rfl)); (case hp => exact (Reps.one (show Kd.M (Kd.int .i64) _ _ _ 1 [.int .i64 1] from rfl) (Reps.none _ _))); intro v4 w4 ho4 hb4 hg_ hnew_; clear hg_ hnew_; obtain ⟨A4, c4, e4⟩ := Kd.R_slice ho4; cases e4; have HL4 := Aside0.mk (Kd.R_reads' ho4).2.2; have H24 := Aside0.mk (blk_step hb4 H2.out); have H34 := Aside0.mk (blk_step hb4 H3.out); have HB4 := Aside0.mk (below_step (pw_below_drewN HB.out nd) hb4); have hc34 := cell_of_one H34.out; clear ho4 hb4) | (go_at_call 45; (with_reducible refine (repeat_calls A4 c4 l1.length _ HL4.out ⟨HL.out, HF.out.2.2.1⟩).mono ?_); rintro e w5 ⟨v5, rfl, ho5, hb5⟩; obtain ⟨A5, c5, e5⟩ := Kd.R_slice ho5; subst e5; have HO5 := Aside0.mk ho5; have H25 := Aside0.mk (blk_step hb5 H24.out); have H35 := Aside0.mk (blk_step hb5 H34.out); have HB5 := Aside0.mk (below_step HB4.out hb5); have hc35 := cell_of_one H35.out; have hf35 := free_of_one H35.out; have HLT := Aside0.mk (lt_of_block H34.out); clear ho5 hb5))
      go_meet
      case rel =>
        have e : ws = List.replicate l1.length 1 := by rw [HWS.out]; unfold shrEven; rw [if_pos HZ.out]
        have hR := R_put_below HO5.out (w.heap.size + 1) HLT.out (.slice A5 (List.replicate l1.length (1 : Int)).length c5)
        have hrd := Kd.R_reads' hR
        have hlr : (List.replicate l1.length (1 : Int)).length = l1.length := List.length_replicate
        rw [hlr] at hR hrd
        refine ⟨A5, c5, ⟨?_⟩, ⟨?_⟩, ⟨?_⟩, ⟨?_⟩, ⟨?_⟩⟩
        · exact (Below.heap_setCell _ _ _ _ (by simp)).trans H25.out
        · rw [e, hlr]; exact one_setCell H35.out
        · rw [e, hlr]; exact hrd.2.2
        · rw [e, hlr]; exact hrd.2.1
        · exact HB5.out.setCell (by simp) _
    · have hzb : (s0 == 0) = false := beq_eq_false_iff_ne.mpr hz
      have HZ := Aside0.mk hz
      clear hz
      go_wp2_with fail
      go_meet
      case rel =>
        have e : ws = l1 := by rw [HWS.out]; unfold shrEven; rw [if_neg HZ.out]
        exact ⟨A1, c1, ⟨H2.out⟩, ⟨by rw [e]; exact H3.out⟩, ⟨by rw [e]; exact Kd.C_below HR.out (pw_below_drewN HB.out nd)⟩, ⟨by rw [e]; exact HC1.out⟩, ⟨pw_below_drewN HB.out nd⟩⟩
  case rest =>
    obtain ⟨A3, c3, H2, H3, HW, HC3, HB⟩ := hcut
    have hc3 := cell_of_one H3.out
    have hc2 := cell_of_one H2.out
    have hwp : 0 < ws.length := by rw [HWL.out]; exact HL.out
    have hwi : ((ws.length : Int)).toNat = ws.length := Int.toNat_natCast _
    have hw100 : ws.length ≤ 100 := by rw [HWL.out]; exact HF.out.2.2.1
    have hs1' : impl_sumOf.f k ws = some s := by rw [HWS.out]; exact HS1.out
    have HS1' := Aside0.mk hs1'
    clear hs1'
    go_wp2_with (first | (go_at_call 44; (with_reducible refine (impl_sumOf.calls k A3 c3 ws s _ HW.out HC3.out HS1'.out).mono ?_); rintro e w' ⟨rfl, ⟨nd, rfl⟩⟩; have H2d := Aside0.mk (show (wc.drewN nd).heap[w.heap.size]? = _ from H2.out); have H3d := Aside0.mk (show (wc.drewN nd).heap[w.heap.size + 1]? = _ from H3.out); have HBd := Aside0.mk (pw_below_drewN HB.out nd); have HWd := Aside0.mk (Kd.C_below HW.out (pw_below_drewN (Below.refl wc.heap.size wc) nd)); clear hc3 hc2 H2 H3 HB HW; generalize wc.drewN nd = wd at H2d H3d HBd HWd ⊢; have hc3e := cell_of_one ((Below.heap_alloc wd (Obj.cells #[Value.int .i64 s] 3) _ (lt_of_block H3d.out)).trans H3d.out)) | ((with_reducible refine gate_dst (N := 32) rfl ?_); refine Kd.R_make (Kd.int .i64) _ 3 rfl (N := 32) rfl 23 _ _ rfl (ws.length : Int) rfl rfl Tryd.underlying23 (.int .i64 0) 8 info3 rfl (by decide) (by omega) 0 (ok := fun _ => True) (okp := fun _ => True) rfl (fun _ hk => hk) trivial (by omega) (by rw [hwi]; omega) (Below.refl _ _) (Nat.le_refl _) ?_; intro v6 w6 ho6 hb6 hg_ hnew_; clear hg_ hnew_; rw [hwi] at ho6; obtain ⟨go, co, e6, gb6, RO⟩ := Row.form ho6 (by simpa using hwp); cases e6; have H5 := Aside0.mk (blk_step hb6 (blk_new _ _)); have H26 := Aside0.mk (blk_step hb6 ((Below.heap_alloc _ _ _ (lt_of_block H2d.out)).trans H2d.out)); have H36 := Aside0.mk (blk_step hb6 ((Below.heap_alloc _ _ _ (lt_of_block H3d.out)).trans H3d.out)); have HB6 := Aside0.mk (below_step (below_alloc HBd.out _) hb6); have HW6 := Aside0.mk (Kd.C_below HWd.out (below_step (below_alloc (Below.refl _ _) _) hb6)); have HAB := Aside0.mk (C_addr HWd.out hwp); have HD2 := Aside0.mk (lt_of_block H3d.out); have HDO := Aside0.mk (show wd.heap.size < go by have := gb6; have h9 : (wd.alloc (Obj.cells #[Value.int .i64 s] 3)).heap.size = wd.heap.size + 1 := (by show (wd.heap.push _).size = _; simp); omega); have hc36 := cell_of_one H36.out; have RO6 := Aside0.mk RO; have GB6 := Aside0.mk gb6; clear ho6 hb6 RO gb6 hc3e H2d H3d HBd HWd) | ((with_reducible refine gate_dst (N := 35) rfl ?_); refine Kd.R_make (Kd.int .i64) _ 3 rfl (N := 35) rfl 23 _ _ rfl (ws.length : Int) rfl rfl Tryd.underlying23 (.int .i64 0) 8 info3 rfl (by decide) (by omega) 0 (ok := fun _ => True) (okp := fun _ => True) rfl (fun _ hk => hk) trivial (by omega) (by rw [hwi]; omega) (Below.refl _ _) (Nat.le_refl _) ?_; intro v7 w7 ho7 hb7 hg_ hnew_; clear hg_ hnew_; rw [hwi] at ho7; obtain ⟨gy, cy, e7, gb7, RY⟩ := Row.form ho7 (by simpa using hwp); cases e7; have H57 := Aside0.mk (blk_step hb7 H5.out); have H27 := Aside0.mk (blk_step hb7 H26.out); have H37 := Aside0.mk (blk_step hb7 H36.out); have HB7 := Aside0.mk (below_step HB6.out hb7); have HW7 := Aside0.mk (Kd.C_below HW6.out hb7); have hc37 := cell_of_one H37.out; have RO7 := Aside0.mk (RO6.out.at (hb7.block _ RO6.out.lt)); have RY7 := Aside0.mk RY; have GL := Aside0.mk (Nat.lt_of_lt_of_le RO6.out.lt gb7); have G2 := Aside0.mk (Nat.lt_of_lt_of_le (lt_of_block H26.out) gb7); have G3 := Aside0.mk (Nat.lt_of_lt_of_le (lt_of_block H36.out) gb7); have G5 := Aside0.mk (Nat.lt_of_lt_of_le (lt_of_block H5.out) gb7); have HW0 := Aside0.mk (Kd.C_below HW6.out hb7); clear ho7 hb7 RY gb7 hc36 H5 H26 H36 HB6 HW6 RO6))
    go_loopg [8, 9, 38] ws.length (fun gk v8 v9 v38 wr => ∃ (k : Nat) (xo yo : List Int), k ≤ ws.length ∧ ws.length - k ≤ gk ∧ v38 = .int .i64 k ∧ Aside0 (Row wr go co xo ∧ xo.length = ws.length ∧ ∀ j, j < k → xo[j]? = (shrOut a0 s ws)[j]?) ∧ Aside0 (Row wr gy cy yo ∧ yo.length = ws.length ∧ ∀ j, j < k → yo[j]? = (rngI ws.length)[j]?) ∧ Aside0 (∀ g, g < gy → g ≠ go → wr.heap[g]? = w7.heap[g]?) ∧ Aside0 (Below w.heap.size w wr))
    case atStart => exact ⟨0, _, _, by omega, by omega, rfl, ⟨RO7.out, by simp, fun j hj => absurd hj (Nat.not_lt_zero _)⟩, ⟨RY7.out, by simp, fun j hj => absurd hj (Nat.not_lt_zero _)⟩, ⟨fun _ _ _ => rfl⟩, HB7⟩
    case round =>
      obtain ⟨k1, xo, yo, hk, hg, rfl, XO, YO, HK, BW⟩ := hrel
      have hc2r := cell_of_one ((HK.out _ G2.out (by have := HDO.out; have := HD2.out; omega)).trans H27.out)
      have hc5r := cell_of_one ((HK.out _ G5.out (by have := HDO.out; omega)).trans H57.out)
      by_cases hlt : k1 < ws.length
      · have hltz : (k1 : Int) < (ws.length : Int) := by omega
        obtain ⟨ad, rfl, hab⟩ := HAB.out
        have hCr := C_at (w2 := wr) HW7.out (HK.out _ (by have := GL.out; have := HDO.out; omega) (by have := HDO.out; omega))
        obtain ⟨ad', eA, hx⟩ := Kd.at_int hCr (k1 : Int) (by omega) hltz
        cases eA
        rw [Int.toNat_natCast] at hx
        have hs0 : ¬ s = 0 := by have := H1.out; omega
        have hsb : (s == 0) = false := beq_eq_false_iff_ne.mpr hs0
        obtain ⟨p1, hp1⟩ : ∃ p1, IntKind.i64.wrap (a0 * rd ws (k1 : Int)) = p1 := ⟨_, rfl⟩
        obtain ⟨q1, hq1⟩ : ∃ q1, IntKind.i64.wrap (Int.tdiv p1 s) = q1 := ⟨_, rfl⟩
        have hq2 : (shrOut a0 s ws)[k1]? = some q1 := by
          unfold shrOut
          rw [List.getElem?_map, rd_at ws k1 hlt, ← hq1, ← hp1, i64_w, i64_w]; rfl
        have HQ2 := Aside0.mk hq2
        have hxl : k1 < xo.length := by rw [XO.out.2.1]; exact hlt
        have hyl : k1 < yo.length := by rw [YO.out.2.1]; exact hlt
        have hxc := XO.out.1.cell (k1 : Int) (by omega) (by omega)
        rw [Int.toNat_natCast] at hxc
        have hxf := XO.out.1.free k1
        have hyc := YO.out.1.cell (k1 : Int) (by omega) (by omega)
        rw [Int.toNat_natCast] at hyc
        have hyf := YO.out.1.free k1
        have hne : ¬ gy = go := by have := GL.out; omega
        have hne2 : ¬ go = gy := by have := GL.out; omega
        have HXL := Aside0.mk hxl
        have HYL := Aside0.mk hyl
        generalize rd ws (k1 : Int) = x1 at *
        clear hCr hq2 hxl hyl
        go_wp2_with fail
        go_roundg (ws.length - (k1 + 1))
        case measure => omega
        case rel =>
          have h9 := HD2.out
          have h8 := HDO.out
          have h7 := GL.out
          refine ⟨k1 + 1, xo.set k1 q1, yo.set k1 (k1 : Int), by omega, by omega, by go_num, ⟨?_, ?_, ?_⟩, ⟨?_, ?_, ?_⟩, ⟨?_⟩, ⟨?_⟩⟩
          · exact (XO.out.1.put k1 HXL.out q1).at (Below.heap_setCell _ _ _ _ hne2)
          · simpa using XO.out.2.1
          · intro j hj
            rw [List.getElem?_set]
            by_cases e : k1 = j
            · subst e; rw [if_pos rfl, if_pos HXL.out, HQ2.out]
            · rw [if_neg e]; exact XO.out.2.2 j (by omega)
          · exact (YO.out.1.at (Below.heap_setCell _ _ _ _ hne)).put k1 HYL.out k1
          · simpa using YO.out.2.1
          · intro j hj
            rw [List.getElem?_set]
            by_cases e : k1 = j
            · subst e; rw [if_pos rfl, if_pos HYL.out]; simp [rngI, hlt]
            · rw [if_neg e]; exact YO.out.2.2 j (by omega)
          · intro g hg1 hg2
            exact ((Below.heap_setCell _ _ _ _ (by simp; omega)).trans (Below.heap_setCell _ _ _ _ (by simp; omega))).trans (HK.out g hg1 hg2)
          · exact (BW.out.setCell (by simp; omega) _).setCell (by simp; omega) _
      · have hltz : ¬ (k1 : Int) < (ws.length : Int) := by omega
        obtain rfl : k1 = ws.length := by omega
        have ex : xo = shrOut a0 s ws := by
          apply List.ext_getElem?
          intro j
          by_cases hj : j < ws.length
          · exact XO.out.2.2 j hj
          · rw [List.getElem?_eq_none (by rw [XO.out.2.1]; omega), List.getElem?_eq_none (by simp [shrOut]; omega)]
        have ey : yo = rngI ws.length := by
          apply List.ext_getElem?
          intro j
          by_cases hj : j < ws.length
          · exact YO.out.2.2 j hj
          · rw [List.getElem?_eq_none (by rw [YO.out.2.1]; omega), List.getElem?_eq_none (by rw [length_rngI]; omega)]
        subst ex
        subst ey
        have h9 := HD2.out
        have h8 := HDO.out
        have h7 := GL.out
        obtain ⟨ad, rfl, hab⟩ := HAB.out
        have hgy := Nat.le_of_lt YO.out.1.lt
        have hat : ∀ g, g < gy → g ≠ go → (cutW wr gy).heap[g]? = w7.heap[g]? := fun g h1 h2 => (cutW_at wr gy g hgy h1).trans (HK.out g h1 h2)
        have hwin : ∀ x ∈ ws, 0 ≤ x ∧ x ≤ 100000 := by
          rw [HWS.out]
          unfold shrEven
          split
          · intro x hx; rw [List.eq_of_mem_replicate hx]; omega
          · exact HF.out.2.2.2
        have hso := slices_SortStableFunc_int_int.calls k (fun k_ => some k_ = (Value.slice (some ⟨gy, 0, none⟩) ws.length cy).ownBlock) (.slice (some ⟨gy, 0, none⟩) ws.length cy) (rngI ws.length)
          (shrCf (cutW wr gy) a0 s ws w.heap.size (w.heap.size + 1) wd.heap.size ad c3 ((hat _ G2.out (by omega)).trans H27.out) ((hat _ G3.out (by omega)).trans H37.out) ((hat _ G5.out (by omega)).trans H57.out) (C_at HW7.out (hat _ (by omega) (by omega))) HC3.out ⟨HF.out.1, HF.out.2.1⟩ H1.out (rd_in ws hwin))
          ord (cutW wr gy) wr ⟨cutW_below wr gy hgy, rfl⟩ (by have h1 := Kd.R_tight rfl (Row.toR YO.out.1 (base := (cutW wr gy).heap.size) (by rw [cutW_size wr gy hgy]; exact Nat.le_refl _)); rw [length_rngI] at h1; exact h1) (by show slices_SortStableFunc_int_int.f k (rngI ws.length) (shrCmp a0 s ws) = some ord; rw [HWL.out, HWS.out]; exact HO.out)
        have HSORT : Aside0 (Calls Tryd.prog 46 #[.slice (some ⟨gy, 0, none⟩) ws.length cy, .func (.func 47) #[] #[.pointer (some ⟨w.heap.size, 0, none⟩), .pointer (some ⟨w.heap.size + 1, 0, none⟩), .pointer (some ⟨wd.heap.size, 0, none⟩)]] wr _) := ⟨hso⟩
        clear hso hat hwin hgy hab h9 h8 h7
        go_wp2_with (go_at_call 46; (with_reducible refine HSORT.out.mono ?_); rintro e w8 ⟨rfl, ho8, hb8, hk8⟩)
        have hgy := Nat.le_of_lt YO.out.1.lt
        have hsz := cutW_size wr gy hgy
        have h9 := HD2.out
        have h8 := HDO.out
        have h7 := GL.out
        have hol : ws.length = ord.length := (Kd.R_reads' ho8).1
        obtain ⟨gz, cz, ez, _, RY8⟩ := Row.form ho8 (by omega)
        obtain ⟨rfl, rfl⟩ : gy = gz ∧ cy = cz := by
          injection ez with e1 e2 e3
          injection e1 with e1
          injection e1 with e1
          exact ⟨e1, e3⟩
        have at8 : ∀ g, g < gy → w8.heap[g]? = wr.heap[g]? := fun g hg => (hb8.block g (by rw [hsz]; exact hg)).trans (cutW_at wr gy g hgy hg)
        have RO8 := XO.out.1.at (at8 go h7)
        have hc28 := cell_of_one ((at8 _ G2.out).trans ((HK.out _ G2.out (by omega)).trans H27.out))
        have BW8 : Below w.heap.size w w8 := BW.out.trans ⟨hb8.os, hb8.tape, hb8.output, hk8.1, fun g hg => at8 g (by omega)⟩
        have hlo : (shrOut a0 s ws).length = ws.length := by simp [shrOut]
        have hC8 := Kd.R_reads' (RO8.toR (Nat.zero_le go))
        have hsum : ∀ W, Kd.C (Kd.int .i64) W (some ⟨go, 0, none⟩) (shrOut a0 s ws).length (shrOut a0 s ws) → Calls Tryd.prog 44 #[.slice (some ⟨go, 0, none⟩) ws.length co] W fun e w' => e = .returned (.int .i64 so) ∧ Drawn0 W w' := fun W hW =>
          calls_of_args (by rw [hlo]) (impl_sumOf.calls k (some ⟨go, 0, none⟩) co (shrOut a0 s ws) so W hW hC8.2.1 (by rw [HWS.out]; exact HSO.out))
        have HSUM := Aside0.mk hsum
        have HC8 := Aside0.mk hC8.2.2
        obtain ⟨m, hm⟩ : ∃ m : Nat, a0 - so = (m : Int) := ⟨(a0 - so).toNat, by have := HCUT.out.1; omega⟩
        have hmw : m ≤ ws.length := by have := HCUT.out.2; omega
        have hwrap : IntKind.i64.wrap (a0 - so) = (m : Int) := by rw [IntKind.wrap_i64]; omega
        obtain ⟨ti, hi⟩ : ∃ ti, Tryd.prog.info? 3 = some ti := by
          have h := one_size
          cases e : Tryd.prog.info? 3 with
          | none => rw [e] at h; cases h
          | some i => exact ⟨i, rfl⟩
        have hcyl : ws.length ≤ cy := (Kd.R_reads' ho8).2.1
        have f2 : ∀ W : World, (Instr.slice 23 (.slice (some ⟨gy, 0, none⟩) ws.length cy) none (some (.int .i64 m)) none).run Tryd.prog W = .ok (.slice (some ⟨gy, 0, none⟩) m cy) W := fun W => by
          rw [cut_to 23 3 .i64 Tryd.underlying23 hi (some ⟨gy, 0, none⟩) ws.length cy m (by omega) (by omega) hcyl W]
          simp
        have HBUMP : Aside0 (bumpO (shrOut a0 s ws) (ord.take m) = some r) := ⟨by have h := H.out; rw [← HWS.out, hm, Int.toNat_natCast] at h; exact h⟩
        have RO9 := Aside0.mk RO8
        have RY9 := Aside0.mk RY8
        have BW9 := Aside0.mk BW8
        have HLO := Aside0.mk hlo
        have HOL := Aside0.mk hol
        have HM := Aside0.mk hm
        clear RO8 RY8 BW8 hlo hol hm hC8 hsum at8 hsz hgy h9 h8 h7 ho8 hb8 hk8 ez hi
        go_wp2_with fail
        go_quiet (first | (go_at_call 44; (with_reducible refine (HSUM.out _ (by repeat (first | exact HC8.out | (with_reducible refine Kd.C_drewN ?_ _) | (with_reducible refine Kd.C_drew ?_)))).mono ?_); rintro e w' ⟨rfl, ⟨nd, rfl⟩⟩; (try first | exact ⟨rfl, _, World.drewN_drewN _ _ _⟩ | exact ⟨rfl, _, Eq.trans (World.drewN_drewN _ _ _) (congrArg (World.drewN _) (Nat.add_assoc _ _ _))⟩)))
        go_wp2_with fail
        go_loopg [11, 66] m (fun gk v11 v66 wr2 => ∃ (k2 : Nat) (xo : List Int), k2 ≤ m ∧ m - k2 ≤ gk ∧ v66 = .int .i64 k2 ∧ Aside0 (bumpO xo ((ord.take m).drop k2) = some r) ∧ Aside0 (Row wr2 go co xo ∧ xo.length = ws.length) ∧ Aside0 (wr2.heap[gy]? = w8.heap[gy]?) ∧ Aside0 (Below w.heap.size w wr2))
        case atStart => exact ⟨0, _, by omega, by omega, rfl, HBUMP, ⟨RO9.out, HLO.out⟩, ⟨rfl⟩, ⟨by repeat (first | exact BW9.out | apply pw_below_drewN | apply below_drew1)⟩⟩
        case round =>
          obtain ⟨k2, xo, hk2, hg2, rfl, HB2, XO2, HY2, BW2⟩ := hrel
          by_cases hlt : k2 < m
          · have hltz2 : (k2 : Int) < (m : Int) := by omega
            have hko : k2 < ord.length := by rw [← HOL.out]; omega
            have hd : (ord.take m).drop k2 = rd ord (k2 : Int) :: (ord.take m).drop (k2 + 1) := by
              rw [List.drop_eq_getElem_cons (by simp; omega)]
              congr 1
              rw [List.getElem_take]
              have h1 := rd_at ord k2 hko
              rw [List.getElem?_eq_getElem hko] at h1
              exact Option.some.inj h1
            have hb := HB2.out
            rw [hd] at hb
            unfold bumpO at hb
            have hjc := (RY9.out.at HY2.out).cell (k2 : Int) (by omega) (by omega)
            rw [Int.toNat_natCast] at hjc
            generalize rd ord (k2 : Int) = j1 at *
            by_cases hj : 0 ≤ j1 ∧ j1 < (xo.length : Int)
            case neg => rw [if_neg hj] at hb; cases hb
            rw [if_pos hj] at hb
            obtain ⟨hj0, hj1⟩ := hj
            have hoc := XO2.out.1.cell j1 hj0 hj1
            have hof := XO2.out.1.free j1.toNat
            rw [XO2.out.2] at hj1
            obtain ⟨u1, hu1⟩ : ∃ u1, IntKind.i64.wrap (rd xo j1 + 1) = u1 := ⟨_, rfl⟩
            have HB3 : Aside0 (bumpO (xo.set j1.toNat u1) ((ord.take m).drop (k2 + 1)) = some r) := ⟨by rw [← hu1, i64_w]; exact hb⟩
            have HJ := Aside0.mk (show j1.toNat < xo.length by rw [XO2.out.2]; omega)
            generalize rd xo j1 = x2 at *
            clear hb hd hko
            go_wp2_with fail
            go_roundg (m - (k2 + 1))
            case measure => omega
            case rel =>
              have h9 := HD2.out
              have h8 := HDO.out
              have h7 := GL.out
              exact ⟨k2 + 1, _, by omega, by omega, by go_num, HB3, ⟨XO2.out.1.put _ HJ.out u1, by simpa using XO2.out.2⟩, ⟨(Below.heap_setCell _ _ _ _ (by simp; omega)).trans HY2.out⟩, ⟨BW2.out.setCell (by simp; omega) _⟩⟩
          · have hltz2 : ¬ (k2 : Int) < (m : Int) := by omega
            obtain rfl : k2 = m := by omega
            have hb := HB2.out
            rw [List.drop_eq_nil_of_le (by simp; omega)] at hb
            unfold bumpO at hb
            obtain rfl := Option.some.inj hb
            clear hb
            go_wp2
            go_ret
            have h9 := HD2.out
            have h8 := HDO.out
            exact ⟨_, rfl, by have h := Row.toR XO2.out.1 (base := w.heap.size) (by omega); rw [XO2.out.2] at h; exact h, BW2.out⟩
end Go.Proofs.YtcjpojppbmlfaaaDoor.Pr
namespace Go.Proofs.YtcjpojppbmlfaaaDoor.Pr
open Go.RowKit Go.Proofs.YtcjpojppbmlfaaaDoorW.PrintWords Go.Proofs.YtcjpojppbmlfaaaDoorW.PrintLast Go.Proofs.YtcjpojppbmlfaaaDoorW.PrintMore
attribute [local go_sem] max2_int min2_int max_two min_two max_three min_three max_four min_four
set_option linter.unusedVariables false
set_option linter.unusedSimpArgs false
def laws_pwInts.l0 : Nat → List Int → List Int → Int → Option (Bool)
  | 0, _, _, _ => none
  | k + 1, x0, x1, x5 => if x5 < (x0.length : Int) then (if 0 ≤ x5 then (if x5 < (x1.length : Int) then (if (rd x0 x5) = (rd x1 x5) then (laws_pwInts.l0 k x0 x1 (wrap64 (x5 + 1))) else (some false)) else (none)) else (none)) else (some true)
def laws_pwInts.f (k : Nat) (l0 : List Int) (l1 : List Int) : Option (Bool) := if (l0.length : Int) = (l1.length : Int) then (laws_pwInts.l0 k l0 l1 0) else (some false)
theorem laws_pwInts.mono_l : ∀ k, (∀ y0 y1 y2, LeO (laws_pwInts.l0 k y0 y1 y2) (laws_pwInts.l0 (k + 1) y0 y1 y2))
  | 0 => fun _ _ _ r h => by simp [laws_pwInts.l0] at h
  | k + 1 => by
    have ih0 := laws_pwInts.mono_l k
    · intro y0 y1 y2
      unfold laws_pwInts.l0
      repeat' first
      | (with_reducible exact ih0 _ _ _)
      | (with_reducible exact LeO.refl _)
      | (with_reducible exact LeO.none _)
      | (with_reducible refine LeO.ite ?_ ?_)
      | (with_reducible refine LeO.bind ?_ (fun _ => ?_))
      | exact ih0 _ _ _
      | exact LeO.none _
      | refine LeO.ite ?_ ?_
      | refine LeO.bind ?_ (fun _ => ?_)
theorem laws_pwInts.mono : ∀ a0 a1 k, LeO (laws_pwInts.f k a0 a1) (laws_pwInts.f (k + 1) a0 a1) := by
  intro a0 a1 k
  have ih0 := laws_pwInts.mono_l k
  unfold laws_pwInts.f
  repeat' first
      | (with_reducible exact ih0 _ _ _)
      | (with_reducible exact LeO.refl _)
      | (with_reducible exact LeO.none _)
      | (with_reducible refine LeO.ite ?_ ?_)
      | (with_reducible refine LeO.bind ?_ (fun _ => ?_))
      | exact ih0 _ _ _
      | exact LeO.none _
      | refine LeO.ite ?_ ?_
      | refine LeO.bind ?_ (fun _ => ?_)
set_option maxHeartbeats 8000000 in
set_option maxRecDepth 100000 in
theorem laws_pwInts.calls (k : Nat) (A0 : Option Addr) (c0 : Nat) (l0 : List Int) (A1 : Option Addr) (c1 : Nat) (l1 : List Int) (r : Bool) (w : World) (hr0 : Kd.C (Kd.int .i64) w A0 l0.length l0) (hc0 : l0.length ≤ c0) (hr1 : Kd.C (Kd.int .i64) w A1 l1.length l1) (hc1 : l1.length ≤ c1) (h : laws_pwInts.f k l0 l1 = some r) :
    Calls Tryd.prog 16 #[.slice A0 l0.length c0, .slice A1 l1.length c1] w fun e w' => e = .returned (.bool r) ∧ Drawn0 w w' := by
  have HR0 := Aside0.mk hr0
  have HC0 := Aside0.mk hc0
  clear hr0 hc0
  have HR1 := Aside0.mk hr1
  have HC1 := Aside0.mk hc1
  clear hr1 hc1
  have H : (if (l0.length : Int) = (l1.length : Int) then (laws_pwInts.l0 k l0 l1 0) else (some false)) = some r := h
  clear h
  by_cases c3 : (l0.length : Int) = (l1.length : Int)
  · rw [if_pos c3] at H
    have c3b0 : ((l0.length : Int) == (l1.length : Int)) = true := beq_iff_eq.mpr c3
    have c3b1 : ((l0.length : Int) != (l1.length : Int)) = false := bne_eq_false_iff_eq.mpr c3
    have c3b2 : (l0.length == l1.length) = true := by first | simpa using c3 | (simp at c3 ⊢; omega)
    clear c3
    have H' := Aside0.mk H
    clear H
    go_enter Tryd.func16, Tryd.ntmps16
    go_wp2
    repeat (go_quiet (fail); try go_wp2)
    go_loopg [5] k (fun kq v5 w' => ∃ (x5_1 : Int), v5 = .int .i64 x5_1 ∧ Aside0 (laws_pwInts.l0 kq l0 l1 x5_1 = some r) ∧ Aside0 (kq ≤ k) ∧ Drawn0 w w')
    case atStart => exact ⟨(0), (by first | rfl | (simp; done) | (simp [*]; done)), H', ⟨Nat.le_refl _⟩, by repeat (first | exact Drawn0.refl _ | apply Drawn0.step)⟩
    case round =>
      clear H'
      try clear c1
      try clear p2
      try clear c3
      try clear c3b0
      try clear c3b1
      try clear c3b2
      obtain ⟨x5_1, rfl, HA, HK1, ⟨m1, rfl⟩⟩ := hrel
      cases gk with
      | zero => exact absurd HA.out (by simp [laws_pwInts.l0])
      | succ k1 =>
        have H := HA.out
        clear HA
        simp only [laws_pwInts.l0] at H
        by_cases c4 : x5_1 < (l0.length : Int)
        · rw [if_pos c4] at H
          have c4b0 : decide (x5_1 < (l0.length : Int)) = true := decide_eq_true c4
          clear c4
          by_cases c5 : 0 ≤ x5_1
          · rw [if_pos c5] at H
            have c5b0 : decide (0 ≤ x5_1) = true := decide_eq_true c5
            clear c5
            by_cases c6 : x5_1 < (l1.length : Int)
            · rw [if_pos c6] at H
              have c6b0 : decide (x5_1 < (l1.length : Int)) = true := decide_eq_true c6
              clear c6
              by_cases c7 : (rd l0 x5_1) = (rd l1 x5_1)
              · rw [if_pos c7] at H
                have c7b0 : ((rd l0 x5_1) == (rd l1 x5_1)) = true := beq_iff_eq.mpr c7
                have c7b1 : ((rd l0 x5_1) != (rd l1 x5_1)) = false := bne_eq_false_iff_eq.mpr c7
                clear c7
                have H' := Aside0.mk H
                clear H
                have p195 : 0 ≤ (x5_1 : Int) := of_decide_eq_true (by first | (with_reducible assumption) | assumption)
                have q195 : x5_1 < (l0.length : Int) := of_decide_eq_true (by first | (with_reducible assumption) | assumption)
                obtain ⟨ad195, e195, hx195_0⟩ := Kd.at_int HR0.out x5_1 p195 q195
                cases e195
                replace p195 := eq_true p195
                replace q195 := eq_true q195
                have p196 : 0 ≤ (x5_1 : Int) := of_decide_eq_true (by first | (with_reducible assumption) | assumption)
                have q196 : x5_1 < (l1.length : Int) := of_decide_eq_true (by first | (with_reducible assumption) | assumption)
                obtain ⟨ad196, e196, hx196_0⟩ := Kd.at_int HR1.out x5_1 p196 q196
                cases e196
                replace p196 := eq_true p196
                replace q196 := eq_true q196
                go_wp2
                repeat (go_quiet (fail); try go_wp2)
                go_roundg k1
                case measure => have := HK1.out; omega
                case rel => exact ⟨(wrap64 (x5_1 + 1)), (by first | rfl | (simp; done) | (simp [*]; done)), H', ⟨by have := HK1.out; omega⟩, by repeat (first | exact Drawn0.refl _ | apply Drawn0.step)⟩
              · rw [if_neg c7] at H
                have c7b0 : ((rd l0 x5_1) == (rd l1 x5_1)) = false := beq_eq_false_iff_ne.mpr c7
                have c7b1 : ((rd l0 x5_1) != (rd l1 x5_1)) = true := bne_iff_ne.mpr c7
                obtain rfl := Option.some.inj H
                have p195 : 0 ≤ (x5_1 : Int) := of_decide_eq_true (by first | (with_reducible assumption) | assumption)
                have q195 : x5_1 < (l0.length : Int) := of_decide_eq_true (by first | (with_reducible assumption) | assumption)
                obtain ⟨ad195, e195, hx195_0⟩ := Kd.at_int HR0.out x5_1 p195 q195
                cases e195
                replace p195 := eq_true p195
                replace q195 := eq_true q195
                have p196 : 0 ≤ (x5_1 : Int) := of_decide_eq_true (by first | (with_reducible assumption) | assumption)
                have q196 : x5_1 < (l1.length : Int) := of_decide_eq_true (by first | (with_reducible assumption) | assumption)
                obtain ⟨ad196, e196, hx196_0⟩ := Kd.at_int HR1.out x5_1 p196 q196
                cases e196
                replace p196 := eq_true p196
                replace q196 := eq_true q196
                go_wp2
                repeat (go_quiet (fail); try go_wp2)
                go_ret
                exact ⟨by first | rfl | (simp; done) | (simp [*]; done), by repeat (first | exact Drawn0.refl _ | apply Drawn0.step)⟩
            · rw [if_neg c6] at H
              exact absurd H (by simp)
          · rw [if_neg c5] at H
            exact absurd H (by simp)
        · rw [if_neg c4] at H
          have c4b0 : decide (x5_1 < (l0.length : Int)) = false := decide_eq_false c4
          clear c4
          obtain rfl := Option.some.inj H
          go_wp2
          repeat (go_quiet (fail); try go_wp2)
          go_ret
          exact ⟨by first | rfl | (simp; done) | (simp [*]; done), by repeat (first | exact Drawn0.refl _ | apply Drawn0.step)⟩
  · rw [if_neg c3] at H
    have c3b0 : ((l0.length : Int) == (l1.length : Int)) = false := beq_eq_false_iff_ne.mpr c3
    have c3b1 : ((l0.length : Int) != (l1.length : Int)) = true := bne_iff_ne.mpr c3
    have c3b2 : (l0.length == l1.length) = false := by first | simpa using c3 | (simp at c3 ⊢; omega)
    obtain rfl := Option.some.inj H
    go_enter Tryd.func16, Tryd.ntmps16
    go_wp2
    repeat (go_quiet (fail); try go_wp2)
    go_ret
    exact ⟨by first | rfl | (simp; done) | (simp [*]; done), by repeat (first | exact Drawn0.refl _ | apply Drawn0.step)⟩
end Go.Proofs.YtcjpojppbmlfaaaDoor.Pr
namespace Go.Proofs.YtcjpojppbmlfaaaDoor.Pr
open Go.RowKit Go.Proofs.YtcjpojppbmlfaaaDoorW.PrintWords Go.Proofs.YtcjpojppbmlfaaaDoorW.PrintLast Go.Proofs.YtcjpojppbmlfaaaDoorW.PrintMore
attribute [local go_sem] max2_int min2_int max_two min_two max_three min_three max_four min_four
set_option linter.unusedVariables false
set_option linter.unusedSimpArgs false
def spec_l1In.f (a0 : Int) (a1 : Int) (a2 : Int) : Option (Bool) := if a0 ≥ a1 then (some (decide (a0 ≤ a2))) else (some false)
set_option maxHeartbeats 8000000 in
set_option maxRecDepth 100000 in
theorem spec_l1In.calls (a0 : Int) (a1 : Int) (a2 : Int) (r : Bool) (w : World) (h : spec_l1In.f a0 a1 a2 = some r) :
    Calls Tryd.prog 53 #[.int .i64 a0, .int .i64 a1, .int .i64 a2] w fun e w' => e = .returned (.bool r) ∧ Drawn0 w w' := by
  have H : (if a0 ≥ a1 then (some (decide (a0 ≤ a2))) else (some false)) = some r := h
  clear h
  by_cases c4 : a0 ≥ a1
  · rw [if_pos c4] at H
    have c4b0 : decide (a1 ≤ a0) = true := decide_eq_true c4
    clear c4
    obtain rfl := Option.some.inj H
    go_enter Tryd.func53, Tryd.ntmps53
    go_wp2
    go_ret
    exact ⟨by first | rfl | (simp; done) | (simp [*]; done), by repeat (first | exact Drawn0.refl _ | apply Drawn0.step)⟩
  · rw [if_neg c4] at H
    have c4b0 : decide (a1 ≤ a0) = false := decide_eq_false c4
    clear c4
    obtain rfl := Option.some.inj H
    go_enter Tryd.func53, Tryd.ntmps53
    go_wp2
    go_ret
    exact ⟨by first | rfl | (simp; done) | (simp [*]; done), by repeat (first | exact Drawn0.refl _ | apply Drawn0.step)⟩
end Go.Proofs.YtcjpojppbmlfaaaDoor.Pr
namespace Go.Proofs.YtcjpojppbmlfaaaDoor.Pr
open Go.RowKit Go.Proofs.YtcjpojppbmlfaaaDoorW.PrintWords Go.Proofs.YtcjpojppbmlfaaaDoorW.PrintLast Go.Proofs.YtcjpojppbmlfaaaDoorW.PrintMore
attribute [local go_sem] max2_int min2_int max_two min_two max_three min_three max_four min_four
set_option linter.unusedVariables false
set_option linter.unusedSimpArgs false
mutual
def spec_ShrOk.j0 : Nat → List Int → Bool → Option (Bool)
  | 0, _, _ => none
  | k + 1, x1, x13 => if x13 = true then (some false) else (spec_ShrOk.l0 k x1 0)
def spec_ShrOk.l0 : Nat → List Int → Int → Option (Bool)
  | 0, _, _ => none
  | k + 1, x1, x5 => if x5 < (x1.length : Int) then (if 0 ≤ x5 then ((spec_l1In.f (rd x1 x5) 0 100000).bind fun t199 => (if t199 = true then (spec_ShrOk.l0 k x1 (wrap64 (x5 + 1))) else (some false))) else (none)) else (some true)
end
def spec_ShrOk.f (k : Nat) (a0 : Int) (l1 : List Int) : Option (Bool) := (spec_l1In.f a0 0 100000).bind fun t197 => (if t197 = true then (spec_ShrOk.j0 k l1 (decide ((l1.length : Int) > 100))) else (spec_ShrOk.j0 k l1 true))
theorem spec_ShrOk.mono_l : ∀ k, (∀ y0 y1, LeO (spec_ShrOk.j0 k y0 y1) (spec_ShrOk.j0 (k + 1) y0 y1)) ∧ (∀ y0 y1, LeO (spec_ShrOk.l0 k y0 y1) (spec_ShrOk.l0 (k + 1) y0 y1))
  | 0 => ⟨fun _ _ r h => by simp [spec_ShrOk.j0] at h, fun _ _ r h => by simp [spec_ShrOk.l0] at h⟩
  | k + 1 => by
    obtain ⟨ih0, ih1⟩ := spec_ShrOk.mono_l k
    refine ⟨?_, ?_⟩
    · intro y0 y1
      unfold spec_ShrOk.j0
      repeat' first
      | (with_reducible exact ih0 _ _)
      | (with_reducible exact ih1 _ _)
      | (with_reducible exact LeO.refl _)
      | (with_reducible exact LeO.none _)
      | (with_reducible refine LeO.ite ?_ ?_)
      | (with_reducible refine LeO.bind ?_ (fun _ => ?_))
      | exact ih0 _ _
      | exact ih1 _ _
      | exact LeO.none _
      | refine LeO.ite ?_ ?_
      | refine LeO.bind ?_ (fun _ => ?_)
    · intro y0 y1
      unfold spec_ShrOk.l0
      repeat' first
      | (with_reducible exact ih0 _ _)
      | (with_reducible exact ih1 _ _)
      | (with_reducible exact LeO.refl _)
      | (with_reducible exact LeO.none _)
      | (with_reducible refine LeO.ite ?_ ?_)
      | (with_reducible refine LeO.bind ?_ (fun _ => ?_))
      | exact ih0 _ _
      | exact ih1 _ _
      | exact LeO.none _
      | refine LeO.ite ?_ ?_
      | refine LeO.bind ?_ (fun _ => ?_)
theorem spec_ShrOk.mono : ∀ a0 a1 k, LeO (spec_ShrOk.f k a0 a1) (spec_ShrOk.f (k + 1) a0 a1) := by
  intro a0 a1 k
  obtain ⟨ih0, ih1⟩ := spec_ShrOk.mono_l k
  unfold spec_ShrOk.f
  repeat' first
      | (with_reducible exact ih0 _ _)
      | (with_reducible exact ih1 _ _)
      | (with_reducible exact LeO.refl _)
      | (with_reducible exact LeO.none _)
      | (with_reducible refine LeO.ite ?_ ?_)
      | (with_reducible refine LeO.bind ?_ (fun _ => ?_))
      | exact ih0 _ _
      | exact ih1 _ _
      | exact LeO.none _
      | refine LeO.ite ?_ ?_
      | refine LeO.bind ?_ (fun _ => ?_)
set_option maxHeartbeats 8000000 in
set_option maxRecDepth 100000 in
theorem spec_ShrOk.calls (k : Nat) (a0 : Int) (A1 : Option Addr) (c1 : Nat) (l1 : List Int) (r : Bool) (w : World) (hr1 : Kd.C (Kd.int .i64) w A1 l1.length l1) (hc1 : l1.length ≤ c1) (h : spec_ShrOk.f k a0 l1 = some r) :
    Calls Tryd.prog 19 #[.int .i64 a0, .slice A1 l1.length c1] w fun e w' => e = .returned (.bool r) ∧ Drawn0 w w' := by
  have HR1 := Aside0.mk hr1
  have HC1 := Aside0.mk hc1
  clear hr1 hc1
  have H : ((spec_l1In.f a0 0 100000).bind fun t197 => (if t197 = true then (spec_ShrOk.j0 k l1 (decide ((l1.length : Int) > 100))) else (spec_ShrOk.j0 k l1 true))) = some r := h
  clear h
  have HC3 := Aside0.mk H
  clear H
  go_enter Tryd.func19, Tryd.ntmps19
  go_upto_region 1 with (fail)
  go_cut [13] (fun v13 wc => ∃ (kq : Nat) (x13_2 : Bool), v13 = .bool x13_2 ∧ Aside0 (spec_ShrOk.j0 kq l1 x13_2 = some r) ∧ Aside0 (kq ≤ k) ∧ Drawn0 w wc)
  case first =>
    have H := HC3.out
    clear HC3
    replace H := Option.bind_eq_some_iff.mp H
    obtain ⟨t197, A40, H⟩ := H
    replace H : (if t197 = true then (spec_ShrOk.j0 k l1 (decide ((l1.length : Int) > 100))) else (spec_ShrOk.j0 k l1 true)) = some r := H
    have A4 := Aside0.mk A40
    clear A40
    by_cases c5 : t197 = true
    · subst c5
      have H1 : (spec_ShrOk.j0 k l1 (decide ((l1.length : Int) > 100))) = some r := by rw [if_pos rfl] at H; exact H
      clear H
      have H := H1
      clear H1
      have H' := Aside0.mk H
      clear H
      go_wp2_with (first | ((with_reducible refine gate_callee (f := 53) rfl ?_); refine goesL_ (some 7) rfl rfl Tryd.func53 (by kernel_rfl) rfl #[.int .i64 a0, .int .i64 0, .int .i64 100000] rfl (by (try simp only [List.map_toArray, List.map_cons, List.map_nil]); first | done | rfl | (simp only [List.length_drop, List.length_take]; rfl)) ?_; (with_reducible refine (spec_l1In.calls a0 0 100000 true _ A4.out).mono ?_); rintro e w' ⟨rfl, ⟨nd, rfl⟩⟩; refine ⟨_, rfl, ?_⟩))
      go_meet
      case rel => exact ⟨_, (decide ((l1.length : Int) > 100)), (by first | rfl | (simp; done) | (simp [*]; done)), H', ⟨by first | omega | exact Nat.le_refl _⟩, by repeat (first | exact Drawn0.refl _ | apply Drawn0.step)⟩
    · replace c5 := Bool.eq_false_iff.mpr c5
      subst c5
      have H1 : (spec_ShrOk.j0 k l1 true) = some r := by rw [if_neg (show ¬ (false = true) by decide)] at H; exact H
      clear H
      have H := H1
      clear H1
      have H' := Aside0.mk H
      clear H
      go_wp2_with (first | ((with_reducible refine gate_callee (f := 53) rfl ?_); refine goesL_ (some 7) rfl rfl Tryd.func53 (by kernel_rfl) rfl #[.int .i64 a0, .int .i64 0, .int .i64 100000] rfl (by (try simp only [List.map_toArray, List.map_cons, List.map_nil]); first | done | rfl | (simp only [List.length_drop, List.length_take]; rfl)) ?_; (with_reducible refine (spec_l1In.calls a0 0 100000 false _ A4.out).mono ?_); rintro e w' ⟨rfl, ⟨nd, rfl⟩⟩; refine ⟨_, rfl, ?_⟩))
      go_meet
      case rel => exact ⟨_, (true), (by first | rfl | (simp; done) | (simp [*]; done)), H', ⟨by first | omega | exact Nat.le_refl _⟩, by repeat (first | exact Drawn0.refl _ | apply Drawn0.step)⟩
  case rest =>
    clear HC3
    try clear c1
    try clear p2
    try clear c5
    obtain ⟨kq, x13_2, rfl, HA, HJ2, ⟨mc2, rfl⟩⟩ := hcut
    cases kq with
    | zero => exact absurd HA.out (by simp [spec_ShrOk.j0])
    | succ kj2 =>
      have H := HA.out
      clear HA
      simp only [spec_ShrOk.j0] at H
      by_cases c6 : x13_2 = true
      · subst c6
        have H1 : (some false) = some r := by rw [if_pos rfl] at H; exact H
        clear H
        have H := H1
        clear H1
        obtain rfl := Option.some.inj H
        go_wp2
        go_ret
        exact ⟨by first | rfl | (simp; done) | (simp [*]; done), by repeat (first | exact Drawn0.refl _ | apply Drawn0.step)⟩
      · replace c6 := Bool.eq_false_iff.mpr c6
        subst c6
        have H1 : (spec_ShrOk.l0 kj2 l1 0) = some r := by rw [if_neg (show ¬ (false = true) by decide)] at H; exact H
        clear H
        have H := H1
        clear H1
        have H' := Aside0.mk H
        clear H
        go_wp2
        go_loopg [5] kj2 (fun kq v5 w' => ∃ (x5_2 : Int), v5 = .int .i64 x5_2 ∧ Aside0 (spec_ShrOk.l0 kq l1 x5_2 = some r) ∧ Aside0 (kq ≤ kj2) ∧ Drawn0 w w')
        case atStart => exact ⟨(0), (by first | rfl | (simp; done) | (simp [*]; done)), H', ⟨Nat.le_refl _⟩, by repeat (first | exact Drawn0.refl _ | apply Drawn0.step)⟩
        case round =>
          clear H'
          try clear c1
          try clear c2
          try clear p2
          try clear c5
          try clear c6
          try clear p2
          obtain ⟨x5_2, rfl, HA, HK2, ⟨m2, rfl⟩⟩ := hrel
          cases gk with
          | zero => exact absurd HA.out (by simp [spec_ShrOk.l0])
          | succ k2 =>
            have H := HA.out
            clear HA
            simp only [spec_ShrOk.l0] at H
            by_cases c7 : x5_2 < (l1.length : Int)
            · rw [if_pos c7] at H
              have c7b0 : decide (x5_2 < (l1.length : Int)) = true := decide_eq_true c7
              clear c7
              by_cases c8 : 0 ≤ x5_2
              · rw [if_pos c8] at H
                have c8b0 : decide (0 ≤ x5_2) = true := decide_eq_true c8
                clear c8
                replace H := Option.bind_eq_some_iff.mp H
                obtain ⟨t199, A90, H⟩ := H
                replace H : (if t199 = true then (spec_ShrOk.l0 k2 l1 (wrap64 (x5_2 + 1))) else (some false)) = some r := H
                have A9 := Aside0.mk A90
                clear A90
                by_cases c10 : t199 = true
                · subst c10
                  have H1 : (spec_ShrOk.l0 k2 l1 (wrap64 (x5_2 + 1))) = some r := by rw [if_pos rfl] at H; exact H
                  clear H
                  have H := H1
                  clear H1
                  have H' := Aside0.mk H
                  clear H
                  have p198 : 0 ≤ (x5_2 : Int) := of_decide_eq_true (by first | (with_reducible assumption) | assumption)
                  have q198 : x5_2 < (l1.length : Int) := of_decide_eq_true (by first | (with_reducible assumption) | assumption)
                  obtain ⟨ad198, e198, hx198_0⟩ := Kd.at_int HR1.out x5_2 p198 q198
                  cases e198
                  replace p198 := eq_true p198
                  replace q198 := eq_true q198
                  go_wp2_with (first | ((with_reducible refine gate_callee (f := 53) rfl ?_); refine goesL_ (some 24) rfl rfl Tryd.func53 (by kernel_rfl) rfl #[.int .i64 (rd l1 x5_2), .int .i64 0, .int .i64 100000] rfl (by (try simp only [List.map_toArray, List.map_cons, List.map_nil]); first | done | rfl | (simp only [List.length_drop, List.length_take]; rfl)) ?_; (with_reducible refine (spec_l1In.calls (rd l1 x5_2) 0 100000 true _ A9.out).mono ?_); rintro e w' ⟨rfl, ⟨nd, rfl⟩⟩; refine ⟨_, rfl, ?_⟩))
                  go_roundg k2
                  case measure => have := HJ2.out; have := HK2.out; omega
                  case rel => exact ⟨(wrap64 (x5_2 + 1)), (by first | rfl | (simp; done) | (simp [*]; done)), H', ⟨by have := HJ2.out; have := HK2.out; omega⟩, by repeat (first | exact Drawn0.refl _ | apply Drawn0.step)⟩
                · replace c10 := Bool.eq_false_iff.mpr c10
                  subst c10
                  have H1 : (some false) = some r := by rw [if_neg (show ¬ (false = true) by decide)] at H; exact H
                  clear H
                  have H := H1
                  clear H1
                  obtain rfl := Option.some.inj H
                  have p198 : 0 ≤ (x5_2 : Int) := of_decide_eq_true (by first | (with_reducible assumption) | assumption)
                  have q198 : x5_2 < (l1.length : Int) := of_decide_eq_true (by first | (with_reducible assumption) | assumption)
                  obtain ⟨ad198, e198, hx198_0⟩ := Kd.at_int HR1.out x5_2 p198 q198
                  cases e198
                  replace p198 := eq_true p198
                  replace q198 := eq_true q198
                  go_wp2_with (first | ((with_reducible refine gate_callee (f := 53) rfl ?_); refine goesL_ (some 24) rfl rfl Tryd.func53 (by kernel_rfl) rfl #[.int .i64 (rd l1 x5_2), .int .i64 0, .int .i64 100000] rfl (by (try simp only [List.map_toArray, List.map_cons, List.map_nil]); first | done | rfl | (simp only [List.length_drop, List.length_take]; rfl)) ?_; (with_reducible refine (spec_l1In.calls (rd l1 x5_2) 0 100000 false _ A9.out).mono ?_); rintro e w' ⟨rfl, ⟨nd, rfl⟩⟩; refine ⟨_, rfl, ?_⟩))
                  go_ret
                  exact ⟨by first | rfl | (simp; done) | (simp [*]; done), by repeat (first | exact Drawn0.refl _ | apply Drawn0.step)⟩
              · rw [if_neg c8] at H
                exact absurd H (by simp)
            · rw [if_neg c7] at H
              have c7b0 : decide (x5_2 < (l1.length : Int)) = false := decide_eq_false c7
              clear c7
              obtain rfl := Option.some.inj H
              go_wp2
              go_ret
              exact ⟨by first | rfl | (simp; done) | (simp [*]; done), by repeat (first | exact Drawn0.refl _ | apply Drawn0.step)⟩
end Go.Proofs.YtcjpojppbmlfaaaDoor.Pr
namespace Go.Proofs.YtcjpojppbmlfaaaDoor.Pr
open Go.RowKit Go.Proofs.YtcjpojppbmlfaaaDoorW.PrintWords Go.Proofs.YtcjpojppbmlfaaaDoorW.PrintLast Go.Proofs.YtcjpojppbmlfaaaDoorW.PrintMore
attribute [local go_sem] max2_int min2_int max_two min_two max_three min_three max_four min_four
set_option linter.unusedVariables false
set_option linter.unusedSimpArgs false
def spec_l1Sum.l0 : Nat → List Int → Int → Int → Option (Int)
  | 0, _, _, _ => none
  | k + 1, x0, x3, x4 => if x4 < (x0.length : Int) then (if 0 ≤ x4 then (spec_l1Sum.l0 k x0 (wrap64 (x3 + (rd x0 x4))) (wrap64 (x4 + 1))) else (none)) else (some x3)
def spec_l1Sum.f (k : Nat) (l0 : List Int) : Option (Int) := spec_l1Sum.l0 k l0 0 0
theorem spec_l1Sum.mono_l : ∀ k, (∀ y0 y1 y2, LeO (spec_l1Sum.l0 k y0 y1 y2) (spec_l1Sum.l0 (k + 1) y0 y1 y2))
  | 0 => fun _ _ _ r h => by simp [spec_l1Sum.l0] at h
  | k + 1 => by
    have ih0 := spec_l1Sum.mono_l k
    · intro y0 y1 y2
      unfold spec_l1Sum.l0
      repeat' first
      | (with_reducible exact ih0 _ _ _)
      | (with_reducible exact LeO.refl _)
      | (with_reducible exact LeO.none _)
      | (with_reducible refine LeO.ite ?_ ?_)
      | (with_reducible refine LeO.bind ?_ (fun _ => ?_))
      | exact ih0 _ _ _
      | exact LeO.none _
      | refine LeO.ite ?_ ?_
      | refine LeO.bind ?_ (fun _ => ?_)
theorem spec_l1Sum.mono : ∀ a0 k, LeO (spec_l1Sum.f k a0) (spec_l1Sum.f (k + 1) a0) := by
  intro a0 k
  have ih0 := spec_l1Sum.mono_l k
  unfold spec_l1Sum.f
  repeat' first
      | (with_reducible exact ih0 _ _ _)
      | (with_reducible exact LeO.refl _)
      | (with_reducible exact LeO.none _)
      | (with_reducible refine LeO.ite ?_ ?_)
      | (with_reducible refine LeO.bind ?_ (fun _ => ?_))
      | exact ih0 _ _ _
      | exact LeO.none _
      | refine LeO.ite ?_ ?_
      | refine LeO.bind ?_ (fun _ => ?_)
set_option maxHeartbeats 8000000 in
set_option maxRecDepth 100000 in
theorem spec_l1Sum.calls (k : Nat) (A0 : Option Addr) (c0 : Nat) (l0 : List Int) (r : Int) (w : World) (hr0 : Kd.C (Kd.int .i64) w A0 l0.length l0) (hc0 : l0.length ≤ c0) (h : spec_l1Sum.f k l0 = some r) :
    Calls Tryd.prog 54 #[.slice A0 l0.length c0] w fun e w' => e = .returned (.int .i64 r) ∧ Drawn0 w w' := by
  have HR0 := Aside0.mk hr0
  have HC0 := Aside0.mk hc0
  clear hr0 hc0
  have H : (spec_l1Sum.l0 k l0 0 0) = some r := h
  clear h
  have H' := Aside0.mk H
  clear H
  go_enter Tryd.func54, Tryd.ntmps54
  go_wp2
  go_loopg [3, 4] k (fun kq v3 v4 w' => ∃ (x3_1 : Int) (x4_1 : Int), v3 = .int .i64 x3_1 ∧ v4 = .int .i64 x4_1 ∧ Aside0 (spec_l1Sum.l0 kq l0 x3_1 x4_1 = some r) ∧ Aside0 (kq ≤ k) ∧ Drawn0 w w')
  case atStart => exact ⟨(0), (0), (by first | rfl | (simp; done) | (simp [*]; done)), (by first | rfl | (simp; done) | (simp [*]; done)), H', ⟨Nat.le_refl _⟩, by repeat (first | exact Drawn0.refl _ | apply Drawn0.step)⟩
  case round =>
    clear H'
    obtain ⟨x3_1, x4_1, rfl, rfl, HA, HK1, ⟨m1, rfl⟩⟩ := hrel
    cases gk with
    | zero => exact absurd HA.out (by simp [spec_l1Sum.l0])
    | succ k1 =>
      have H := HA.out
      clear HA
      simp only [spec_l1Sum.l0] at H
      by_cases c2 : x4_1 < (l0.length : Int)
      · rw [if_pos c2] at H
        have c2b0 : decide (x4_1 < (l0.length : Int)) = true := decide_eq_true c2
        clear c2
        by_cases c3 : 0 ≤ x4_1
        · rw [if_pos c3] at H
          have c3b0 : decide (0 ≤ x4_1) = true := decide_eq_true c3
          clear c3
          have H' := Aside0.mk H
          clear H
          have p200 : 0 ≤ (x4_1 : Int) := of_decide_eq_true (by first | (with_reducible assumption) | assumption)
          have q200 : x4_1 < (l0.length : Int) := of_decide_eq_true (by first | (with_reducible assumption) | assumption)
          obtain ⟨ad200, e200, hx200_0⟩ := Kd.at_int HR0.out x4_1 p200 q200
          cases e200
          replace p200 := eq_true p200
          replace q200 := eq_true q200
          go_wp2
          go_roundg k1
          case measure => have := HK1.out; omega
          case rel => exact ⟨(wrap64 (x3_1 + (rd l0 x4_1))), (wrap64 (x4_1 + 1)), (by first | rfl | (simp; done) | (simp [*]; done)), (by first | rfl | (simp; done) | (simp [*]; done)), H', ⟨by have := HK1.out; omega⟩, by repeat (first | exact Drawn0.refl _ | apply Drawn0.step)⟩
        · rw [if_neg c3] at H
          exact absurd H (by simp)
      · rw [if_neg c2] at H
        have c2b0 : decide (x4_1 < (l0.length : Int)) = false := decide_eq_false c2
        clear c2
        obtain rfl := Option.some.inj H
        go_wp2
        go_ret
        exact ⟨by first | rfl | (simp; done) | (simp [*]; done), by repeat (first | exact Drawn0.refl _ | apply Drawn0.step)⟩
end Go.Proofs.YtcjpojppbmlfaaaDoor.Pr
namespace Go.Proofs.YtcjpojppbmlfaaaDoor.Pr
open Go.RowKit Go.Proofs.YtcjpojppbmlfaaaDoorW.PrintWords Go.Proofs.YtcjpojppbmlfaaaDoorW.PrintLast Go.Proofs.YtcjpojppbmlfaaaDoorW.PrintMore
attribute [local go_sem] max2_int min2_int max_two min_two max_three min_three max_four min_four
set_option linter.unusedVariables false
set_option linter.unusedSimpArgs false
def spec_l4Next.l0 : Nat → List Int → List Bool → Int → Int → Option (Int)
  | 0, _, _, _, _ => none
  | k + 1, x0, x1, x5, x6 => if x6 < (x0.length : Int) then (if 0 ≤ x6 then (if x6 < (x1.length : Int) then (if rdOf false x1 x6 = true then (spec_l4Next.l0 k x0 x1 x5 (wrap64 (x6 + 1))) else (if x5 < 0 then (spec_l4Next.l0 k x0 x1 x6 (wrap64 (x6 + 1))) else (if 0 ≤ x5 then (if x5 < (x0.length : Int) then (if (rd x0 x6) > (rd x0 x5) then (spec_l4Next.l0 k x0 x1 x6 (wrap64 (x6 + 1))) else (spec_l4Next.l0 k x0 x1 x5 (wrap64 (x6 + 1)))) else (none)) else (none)))) else (none)) else (none)) else (some x5)
def spec_l4Next.f (k : Nat) (l0 : List Int) (l1 : List Bool) : Option (Int) := spec_l4Next.l0 k l0 l1 (-1) 0
theorem spec_l4Next.mono_l : ∀ k, (∀ y0 y1 y2 y3, LeO (spec_l4Next.l0 k y0 y1 y2 y3) (spec_l4Next.l0 (k + 1) y0 y1 y2 y3))
  | 0 => fun _ _ _ _ r h => by simp [spec_l4Next.l0] at h
  | k + 1 => by
    have ih0 := spec_l4Next.mono_l k
    · intro y0 y1 y2 y3
      unfold spec_l4Next.l0
      repeat' first
      | (with_reducible exact ih0 _ _ _ _)
      | (with_reducible exact LeO.refl _)
      | (with_reducible exact LeO.none _)
      | (with_reducible refine LeO.ite ?_ ?_)
      | (with_reducible refine LeO.bind ?_ (fun _ => ?_))
      | exact ih0 _ _ _ _
      | exact LeO.none _
      | refine LeO.ite ?_ ?_
      | refine LeO.bind ?_ (fun _ => ?_)
theorem spec_l4Next.mono : ∀ a0 a1 k, LeO (spec_l4Next.f k a0 a1) (spec_l4Next.f (k + 1) a0 a1) := by
  intro a0 a1 k
  have ih0 := spec_l4Next.mono_l k
  unfold spec_l4Next.f
  repeat' first
      | (with_reducible exact ih0 _ _ _ _)
      | (with_reducible exact LeO.refl _)
      | (with_reducible exact LeO.none _)
      | (with_reducible refine LeO.ite ?_ ?_)
      | (with_reducible refine LeO.bind ?_ (fun _ => ?_))
      | exact ih0 _ _ _ _
      | exact LeO.none _
      | refine LeO.ite ?_ ?_
      | refine LeO.bind ?_ (fun _ => ?_)
set_option maxHeartbeats 8000000 in
set_option maxRecDepth 100000 in
theorem spec_l4Next.calls (k : Nat) (A0 : Option Addr) (c0 : Nat) (l0 : List Int) (A1 : Option Addr) (c1 : Nat) (l1 : List Bool) (r : Int) (w : World) (hr0 : Kd.C (Kd.int .i64) w A0 l0.length l0) (hc0 : l0.length ≤ c0) (hr1 : Kd.C Kd.bool w A1 l1.length l1) (hc1 : l1.length ≤ c1) (h : spec_l4Next.f k l0 l1 = some r) :
    Calls Tryd.prog 64 #[.slice A0 l0.length c0, .slice A1 l1.length c1] w fun e w' => e = .returned (.int .i64 r) ∧ Drawn0 w w' := by
  have HR0 := Aside0.mk hr0
  have HC0 := Aside0.mk hc0
  clear hr0 hc0
  have HR1 := Aside0.mk hr1
  have HC1 := Aside0.mk hc1
  clear hr1 hc1
  have H : (spec_l4Next.l0 k l0 l1 (-1) 0) = some r := h
  clear h
  have H' := Aside0.mk H
  clear H
  go_enter Tryd.func64, Tryd.ntmps64
  go_wp2
  repeat (go_quiet (fail); try go_wp2)
  go_loopg [5, 6] k (fun kq v5 v6 w' => ∃ (x5_1 : Int) (x6_1 : Int), v5 = .int .i64 x5_1 ∧ v6 = .int .i64 x6_1 ∧ Aside0 (spec_l4Next.l0 kq l0 l1 x5_1 x6_1 = some r) ∧ Aside0 (kq ≤ k) ∧ Drawn0 w w')
  case atStart => exact ⟨((-1)), (0), (by first | rfl | (simp; done) | (simp [*]; done)), (by first | rfl | (simp; done) | (simp [*]; done)), H', ⟨Nat.le_refl _⟩, by repeat (first | exact Drawn0.refl _ | apply Drawn0.step)⟩
  case round =>
    clear H'
    try clear c1
    try clear p2
    obtain ⟨x5_1, x6_1, rfl, rfl, HA, HK1, ⟨m1, rfl⟩⟩ := hrel
    cases gk with
    | zero => exact absurd HA.out (by simp [spec_l4Next.l0])
    | succ k1 =>
      have H := HA.out
      clear HA
      simp only [spec_l4Next.l0] at H
      by_cases c3 : x6_1 < (l0.length : Int)
      · rw [if_pos c3] at H
        have c3b0 : decide (x6_1 < (l0.length : Int)) = true := decide_eq_true c3
        clear c3
        by_cases c4 : 0 ≤ x6_1
        · rw [if_pos c4] at H
          have c4b0 : decide (0 ≤ x6_1) = true := decide_eq_true c4
          clear c4
          by_cases c5 : x6_1 < (l1.length : Int)
          · rw [if_pos c5] at H
            have c5b0 : decide (x6_1 < (l1.length : Int)) = true := decide_eq_true c5
            clear c5
            obtain ⟨bq6, hbq6⟩ : ∃ b_ : Bool, b_ = (rdOf false l1 x6_1) := ⟨_, rfl⟩
            replace H : (if bq6 = true then (spec_l4Next.l0 k1 l0 l1 x5_1 (wrap64 (x6_1 + 1))) else (if x5_1 < 0 then (spec_l4Next.l0 k1 l0 l1 x6_1 (wrap64 (x6_1 + 1))) else (if 0 ≤ x5_1 then (if x5_1 < (l0.length : Int) then (if (rd l0 x6_1) > (rd l0 x5_1) then (spec_l4Next.l0 k1 l0 l1 x6_1 (wrap64 (x6_1 + 1))) else (spec_l4Next.l0 k1 l0 l1 x5_1 (wrap64 (x6_1 + 1)))) else (none)) else (none)))) = some r := by rw [← hbq6] at H; exact H
            have Nbq6 := Aside0.mk hbq6
            clear hbq6
            by_cases c7 : bq6 = true
            · subst c7
              have H1 : (spec_l4Next.l0 k1 l0 l1 x5_1 (wrap64 (x6_1 + 1))) = some r := by rw [if_pos rfl] at H; exact H
              clear H
              have H := H1
              clear H1
              have H' := Aside0.mk H
              clear H
              have p201 : 0 ≤ (x6_1 : Int) := of_decide_eq_true (by first | (with_reducible assumption) | assumption)
              have q201 : x6_1 < (l1.length : Int) := of_decide_eq_true (by first | (with_reducible assumption) | assumption)
              obtain ⟨ad201, e201, hx201_0⟩ := Kd.at_bool HR1.out x6_1 p201 q201
              (try rw [← Nbq6.out] at hx201_0)
              cases e201
              replace p201 := eq_true p201
              replace q201 := eq_true q201
              go_wp2
              repeat (go_quiet (fail); try go_wp2)
              go_roundg k1
              case measure => have := HK1.out; omega
              case rel => exact ⟨(x5_1), (wrap64 (x6_1 + 1)), (by first | rfl | (simp; done) | (simp [*]; done)), (by first | rfl | (simp; done) | (simp [*]; done)), H', ⟨by have := HK1.out; omega⟩, by repeat (first | exact Drawn0.refl _ | apply Drawn0.step)⟩
            · replace c7 := Bool.eq_false_iff.mpr c7
              subst c7
              have H1 : (if x5_1 < 0 then (spec_l4Next.l0 k1 l0 l1 x6_1 (wrap64 (x6_1 + 1))) else (if 0 ≤ x5_1 then (if x5_1 < (l0.length : Int) then (if (rd l0 x6_1) > (rd l0 x5_1) then (spec_l4Next.l0 k1 l0 l1 x6_1 (wrap64 (x6_1 + 1))) else (spec_l4Next.l0 k1 l0 l1 x5_1 (wrap64 (x6_1 + 1)))) else (none)) else (none))) = some r := by rw [if_neg (show ¬ (false = true) by decide)] at H; exact H
              clear H
              have H := H1
              clear H1
              by_cases c8 : x5_1 < 0
              · rw [if_pos c8] at H
                have c8b0 : decide (x5_1 < 0) = true := decide_eq_true c8
                clear c8
                have H' := Aside0.mk H
                clear H
                have p201 : 0 ≤ (x6_1 : Int) := of_decide_eq_true (by first | (with_reducible assumption) | assumption)
                have q201 : x6_1 < (l1.length : Int) := of_decide_eq_true (by first | (with_reducible assumption) | assumption)
                obtain ⟨ad201, e201, hx201_0⟩ := Kd.at_bool HR1.out x6_1 p201 q201
                (try rw [← Nbq6.out] at hx201_0)
                cases e201
                replace p201 := eq_true p201
                replace q201 := eq_true q201
                go_wp2
                repeat (go_quiet (fail); try go_wp2)
                go_roundg k1
                case measure => have := HK1.out; omega
                case rel => exact ⟨(x6_1), (wrap64 (x6_1 + 1)), (by first | rfl | (simp; done) | (simp [*]; done)), (by first | rfl | (simp; done) | (simp [*]; done)), H', ⟨by have := HK1.out; omega⟩, by repeat (first | exact Drawn0.refl _ | apply Drawn0.step)⟩
              · rw [if_neg c8] at H
                have c8b0 : decide (x5_1 < 0) = false := decide_eq_false c8
                clear c8
                by_cases c9 : 0 ≤ x5_1
                · rw [if_pos c9] at H
                  have c9b0 : decide (0 ≤ x5_1) = true := decide_eq_true c9
                  clear c9
                  by_cases c10 : x5_1 < (l0.length : Int)
                  · rw [if_pos c10] at H
                    have c10b0 : decide (x5_1 < (l0.length : Int)) = true := decide_eq_true c10
                    clear c10
                    by_cases c11 : (rd l0 x6_1) > (rd l0 x5_1)
                    · rw [if_pos c11] at H
                      have c11b0 : decide ((rd l0 x5_1) < (rd l0 x6_1)) = true := decide_eq_true c11
                      clear c11
                      have H' := Aside0.mk H
                      clear H
                      have p201 : 0 ≤ (x6_1 : Int) := of_decide_eq_true (by first | (with_reducible assumption) | assumption)
                      have q201 : x6_1 < (l1.length : Int) := of_decide_eq_true (by first | (with_reducible assumption) | assumption)
                      obtain ⟨ad201, e201, hx201_0⟩ := Kd.at_bool HR1.out x6_1 p201 q201
                      (try rw [← Nbq6.out] at hx201_0)
                      cases e201
                      replace p201 := eq_true p201
                      replace q201 := eq_true q201
                      have p202 : 0 ≤ (x6_1 : Int) := of_decide_eq_true (by first | (with_reducible assumption) | assumption)
                      have q202 : x6_1 < (l0.length : Int) := of_decide_eq_true (by first | (with_reducible assumption) | assumption)
                      obtain ⟨ad202, e202, hx202_0⟩ := Kd.at_int HR0.out x6_1 p202 q202
                      cases e202
                      replace p202 := eq_true p202
                      replace q202 := eq_true q202
                      have p203 : 0 ≤ (x5_1 : Int) := of_decide_eq_true (by first | (with_reducible assumption) | assumption)
                      have q203 : x5_1 < (l0.length : Int) := of_decide_eq_true (by first | (with_reducible assumption) | assumption)
                      obtain ⟨ad203, e203, hx203_0⟩ := Kd.at_int HR0.out x5_1 p203 q203
                      obtain rfl : ad202 = ad203 := (by injection e203)
                      replace p203 := eq_true p203
                      replace q203 := eq_true q203
                      go_wp2
                      repeat (go_quiet (fail); try go_wp2)
                      go_roundg k1
                      case measure => have := HK1.out; omega
                      case rel => exact ⟨(x6_1), (wrap64 (x6_1 + 1)), (by first | rfl | (simp; done) | (simp [*]; done)), (by first | rfl | (simp; done) | (simp [*]; done)), H', ⟨by have := HK1.out; omega⟩, by repeat (first | exact Drawn0.refl _ | apply Drawn0.step)⟩
                    · rw [if_neg c11] at H
                      have c11b0 : decide ((rd l0 x5_1) < (rd l0 x6_1)) = false := decide_eq_false c11
                      clear c11
                      have H' := Aside0.mk H
                      clear H
                      have p201 : 0 ≤ (x6_1 : Int) := of_decide_eq_true (by first | (with_reducible assumption) | assumption)
                      have q201 : x6_1 < (l1.length : Int) := of_decide_eq_true (by first | (with_reducible assumption) | assumption)
                      obtain ⟨ad201, e201, hx201_0⟩ := Kd.at_bool HR1.out x6_1 p201 q201
                      (try rw [← Nbq6.out] at hx201_0)
                      cases e201
                      replace p201 := eq_true p201
                      replace q201 := eq_true q201
                      have p202 : 0 ≤ (x6_1 : Int) := of_decide_eq_true (by first | (with_reducible assumption) | assumption)
                      have q202 : x6_1 < (l0.length : Int) := of_decide_eq_true (by first | (with_reducible assumption) | assumption)
                      obtain ⟨ad202, e202, hx202_0⟩ := Kd.at_int HR0.out x6_1 p202 q202
                      cases e202
                      replace p202 := eq_true p202
                      replace q202 := eq_true q202
                      have p203 : 0 ≤ (x5_1 : Int) := of_decide_eq_true (by first | (with_reducible assumption) | assumption)
                      have q203 : x5_1 < (l0.length : Int) := of_decide_eq_true (by first | (with_reducible assumption) | assumption)
                      obtain ⟨ad203, e203, hx203_0⟩ := Kd.at_int HR0.out x5_1 p203 q203
                      obtain rfl : ad202 = ad203 := (by injection e203)
                      replace p203 := eq_true p203
                      replace q203 := eq_true q203
                      go_wp2
                      repeat (go_quiet (fail); try go_wp2)
                      go_roundg k1
                      case measure => have := HK1.out; omega
                      case rel => exact ⟨(x5_1), (wrap64 (x6_1 + 1)), (by first | rfl | (simp; done) | (simp [*]; done)), (by first | rfl | (simp; done) | (simp [*]; done)), H', ⟨by have := HK1.out; omega⟩, by repeat (first | exact Drawn0.refl _ | apply Drawn0.step)⟩
                  · rw [if_neg c10] at H
                    exact absurd H (by simp)
                · rw [if_neg c9] at H
                  exact absurd H (by simp)
          · rw [if_neg c5] at H
            exact absurd H (by simp)
        · rw [if_neg c4] at H
          exact absurd H (by simp)
      · rw [if_neg c3] at H
        have c3b0 : decide (x6_1 < (l0.length : Int)) = false := decide_eq_false c3
        clear c3
        obtain rfl := Option.some.inj H
        go_wp2
        repeat (go_quiet (fail); try go_wp2)
        go_ret
        exact ⟨by first | rfl | (simp; done) | (simp [*]; done), by repeat (first | exact Drawn0.refl _ | apply Drawn0.step)⟩
end Go.Proofs.YtcjpojppbmlfaaaDoor.Pr
