/- A part of what the claim of 'FnExactGrdEmpty' leans on. -/
import Derived.Test.YtemcdfkmpikegaaFnExactGrdEmptyPr0
import Derived.Test.YtemcdfkmpikegaaFnExactGrdEmptyPr19
namespace Go.Proofs.Ytemcdfkmpikegaa.Pr
open Go.RowKit Go.Proofs.YtemcdfkmpikegaaW.PrintWords Go.Proofs.YtemcdfkmpikegaaW.PrintLast Go.Proofs.YtemcdfkmpikegaaW.PrintMore
attribute [local go_sem] max2_int min2_int max_two min_two max_three min_three max_four min_four
set_option linter.unusedVariables false
set_option linter.unusedSimpArgs false
def impl_GrdEmpty.l0 : Nat → Int → List (S65) → Int → Int → Option (Int)
  | 0, _, _, _, _ => none
  | k + 1, x3, x15, x16, x17 => if x17 < x16 then (if 0 ≤ x17 then (if x17 < (x15.length : Int) then (impl_GrdEmpty.l0 k (wrap64 (x3 - (wrap64 (((rd_T65 x15 x17).f2) * ((rd_T65 x15 x17).f3))))) x15 x16 (wrap64 (x17 + 1))) else (none)) else (none)) else (some x3)
def impl_GrdEmpty.f (k : Nat) (a0_0 : Int) (a0_1 : Int) (l0_2 : List (S65)) : Option (Int) := (impl_GrdOk.f k a0_0 a0_1 l0_2).bind fun t355 => (if t355 = true then (impl_GrdEmpty.l0 k (wrap64 (a0_0 * a0_1)) l0_2 (l0_2.length : Int) 0) else (some 0))
theorem impl_GrdEmpty.mono_l : ∀ k, (∀ y0 y1 y2 y3, LeO (impl_GrdEmpty.l0 k y0 y1 y2 y3) (impl_GrdEmpty.l0 (k + 1) y0 y1 y2 y3))
  | 0 => fun _ _ _ _ r h => by simp [impl_GrdEmpty.l0] at h
  | k + 1 => by
    have ih0 := impl_GrdEmpty.mono_l k
    · intro y0 y1 y2 y3
      unfold impl_GrdEmpty.l0
      repeat' first
      | (with_reducible exact ih0 _ _ _ _)
      | (with_reducible exact impl_GrdOk.mono _ _ _ _)
      | (with_reducible exact LeO.refl _)
      | (with_reducible exact LeO.none _)
      | (with_reducible refine LeO.ite ?_ ?_)
      | (with_reducible refine LeO.bind ?_ (fun _ => ?_))
      | exact ih0 _ _ _ _
      | exact impl_GrdOk.mono _ _ _ _
      | exact LeO.none _
      | refine LeO.ite ?_ ?_
      | refine LeO.bind ?_ (fun _ => ?_)
theorem impl_GrdEmpty.mono : ∀ a0 a1 a2 k, LeO (impl_GrdEmpty.f k a0 a1 a2) (impl_GrdEmpty.f (k + 1) a0 a1 a2) := by
  intro a0 a1 a2 k
  have ih0 := impl_GrdEmpty.mono_l k
  unfold impl_GrdEmpty.f
  repeat' first
      | (with_reducible exact ih0 _ _ _ _)
      | (with_reducible exact impl_GrdOk.mono _ _ _ _)
      | (with_reducible exact LeO.refl _)
      | (with_reducible exact LeO.none _)
      | (with_reducible refine LeO.ite ?_ ?_)
      | (with_reducible refine LeO.bind ?_ (fun _ => ?_))
      | exact ih0 _ _ _ _
      | exact impl_GrdOk.mono _ _ _ _
      | exact LeO.none _
      | refine LeO.ite ?_ ?_
      | refine LeO.bind ?_ (fun _ => ?_)
set_option maxHeartbeats 8000000 in
set_option maxRecDepth 100000 in
theorem impl_GrdEmpty.calls (k : Nat) (a0_0 : Int) (a0_1 : Int) (A0_2 : Option Addr) (c0_2 : Nat) (l0_2 : List (S65)) (r : Int) (w : World) (hr0_2 : Kd.C k65 w A0_2 l0_2.length l0_2) (hc0_2 : l0_2.length ≤ c0_2) (h : impl_GrdEmpty.f k a0_0 a0_1 l0_2 = some r) :
    Calls Try.prog 21 #[.agg #[.int .i64 a0_0, .int .i64 a0_1, .slice A0_2 l0_2.length c0_2]] w fun e w' => e = .returned (.int .i64 r) ∧ Below w.heap.size w w' := by
  have hu42 := Try.underlying42
  have hu65 := Try.underlying65
  have HR0_2 := Aside0.mk hr0_2
  have HC0_2 := Aside0.mk hc0_2
  clear hr0_2 hc0_2
  have HB := Aside0.mk (Below.refl w.heap.size w)
  have H : ((impl_GrdOk.f k a0_0 a0_1 l0_2).bind fun t355 => (if t355 = true then (impl_GrdEmpty.l0 k (wrap64 (a0_0 * a0_1)) l0_2 (l0_2.length : Int) 0) else (some 0))) = some r := h
  clear h
  replace H := Option.bind_eq_some_iff.mp H
  obtain ⟨t355, A20, H⟩ := H
  replace H : (if t355 = true then (impl_GrdEmpty.l0 k (wrap64 (a0_0 * a0_1)) l0_2 (l0_2.length : Int) 0) else (some 0)) = some r := H
  have A2 := Aside0.mk A20
  clear A20
  by_cases c3 : t355 = true
  · subst c3
    have H1 : (impl_GrdEmpty.l0 k (wrap64 (a0_0 * a0_1)) l0_2 (l0_2.length : Int) 0) = some r := by rw [if_pos rfl] at H; exact H
    clear H
    have H := H1
    clear H1
    have H' := Aside0.mk H
    clear H
    go_enter Try.func21, Try.ntmps21
    go_wp2_with (first | ((with_reducible refine gate_dst (N := 1) rfl ?_); refine box_event ?hg (N := 1) ?hd (cs := #[.int .i64 a0_0, .int .i64 a0_1, .slice A0_2 l0_2.length c0_2]) (t := 42) ?hr ?_; (case hd => rfl); (case hg => rfl); (case hr => first | (go_simp; done) | (go_simp; rfl)); intro gb354 hg w4 hbox hb; have n0_ := Aside0.mk (below_step (by repeat (first | (with_reducible first | exact HB.out | apply below_alloc | apply pw_below_drewN | apply below_drew1) | exact HB.out)) hb); have n1_ := Aside0.mk (hbox); have n2_ := Aside0.mk ((by rw [hg]; exact (below_size (by repeat (first | (with_reducible first | exact HB.out | apply below_alloc | apply pw_below_drewN | apply below_drew1) | exact HB.out))) : w.heap.size ≤ gb354)); have n3_ := Aside0.mk ((by rw [hg]; exact (below_size (by repeat (first | (with_reducible first | exact HB.out | apply below_alloc | apply pw_below_drewN | apply below_drew1) | exact HB.out))) : w.heap.size ≤ gb354)); clear HB; have HB := n0_; have BK354 := n1_; have GW354 := n2_; have GE354 := n3_; clear n0_ n1_ n2_ n3_; clear hb hbox hg; have hcz5_0 : w4.cell? ⟨gb354, 0, none⟩ = some (.int .i64 a0_0) := (blk_cell BK354.out 0).trans rfl; have hcz5_1 : w4.cell? ⟨gb354, 1, none⟩ = some (.int .i64 a0_1) := (blk_cell BK354.out 1).trans rfl; have hcz5_2 : w4.cell? ⟨gb354, 2, none⟩ = some (.slice A0_2 l0_2.length c0_2) := (blk_cell BK354.out 2).trans rfl; have hfz5_0 := blk_frozen BK354.out 0; have hfz5_1 := blk_frozen BK354.out 1; have hfz5_2 := blk_frozen BK354.out 2) | ((with_reducible refine gate_callee (f := 19) rfl ?_); refine goesL_ (some 7) rfl rfl Try.func19 (by kernel_rfl) rfl #[.agg #[.int .i64 a0_0, .int .i64 a0_1, .slice A0_2 l0_2.length c0_2]] rfl (by (try simp only [List.map_toArray, List.map_cons, List.map_nil]); first | done | rfl | (simp only [List.length_drop, List.length_take]; rfl)) ?_; (with_reducible refine (impl_GrdOk.calls k a0_0 a0_1 _ _ l0_2 true _ ?side1 ?side2 A2.out).mono ?_); (case side1 => repeat (first | exact (Kd.C_below HR0_2.out HB.out) | (with_reducible refine Kd.C_alloc ?_ _) | (with_reducible refine Kd.C_drewN ?_ _) | (with_reducible refine Kd.C_drew ?_))); (case side2 => exact HC0_2.out); rintro e w6 ⟨rfl, hb⟩; refine ⟨_, rfl, ?_⟩; have n0_ := Aside0.mk (blk_below (g := gb354) (o := .cells #[.int .i64 a0_0, .int .i64 a0_1, .slice A0_2 l0_2.length c0_2] 42 (0, 0)) (by (with_reducible repeat (first | refine blk_drewN ?_ _ | refine blk_drew ?_ | refine blk_alloc ?_ _)); exact BK354.out) hb); have n1_ := Aside0.mk (below_step (by repeat (first | (with_reducible first | exact HB.out | apply below_alloc | apply pw_below_drewN | apply below_drew1 | refine below_set ?_ GE354.out) | exact HB.out)) hb); clear BK354; clear HB; have BK354 := n0_; have HB := n1_; clear n0_ n1_; (try clear hb); (try clear hb2); (try clear hk); (try clear hi); have hcz7_0 : w6.cell? ⟨gb354, 0, none⟩ = some (.int .i64 a0_0) := (blk_cell BK354.out 0).trans rfl; have hcz7_1 : w6.cell? ⟨gb354, 1, none⟩ = some (.int .i64 a0_1) := (blk_cell BK354.out 1).trans rfl; have hcz7_2 : w6.cell? ⟨gb354, 2, none⟩ = some (.slice A0_2 l0_2.length c0_2) := (blk_cell BK354.out 2).trans rfl; have hfz7_0 := blk_frozen BK354.out 0; have hfz7_1 := blk_frozen BK354.out 1; have hfz7_2 := blk_frozen BK354.out 2))
    go_loopg [3, 17] k (fun kq v3 v17 w' => ∃ (x3_1 : Int) (x17_1 : Int), v3 = .int .i64 x3_1 ∧ v17 = .int .i64 x17_1 ∧ Aside0 (impl_GrdEmpty.l0 kq x3_1 l0_2 (l0_2.length : Int) x17_1 = some r) ∧ Aside0 (kq ≤ k) ∧ Aside0 (w'.heap[gb354]? = some (.cells #[.int .i64 a0_0, .int .i64 a0_1, (.slice A0_2 l0_2.length c0_2)] 42 (0, 0))) ∧ Aside0 (Below w.heap.size w w'))
    case atStart => exact ⟨(wrap64 (a0_0 * a0_1)), (0), (by first | rfl | (simp; done) | (simp [*]; done)), (by first | rfl | (simp; done) | (simp [*]; done)), H', ⟨Nat.le_refl _⟩, ⟨by (with_reducible repeat (first | refine blk_drewN ?_ _ | refine blk_drew ?_ | refine blk_alloc ?_ _)); exact BK354.out⟩, ⟨by repeat (first | (with_reducible first | exact HB.out | apply below_alloc | apply pw_below_drewN | apply below_drew1 | refine below_set ?_ GE354.out) | exact HB.out)⟩⟩
    case round =>
      clear H'
      try clear c1
      try clear c2
      try clear p2
      try clear c3
      try clear p6
      try clear hcz5_0
      try clear hcz5_1
      try clear hcz5_2
      try clear hcz7_0
      try clear hcz7_1
      try clear hcz7_2
      try clear hfz5_0
      try clear hfz5_1
      try clear hfz5_2
      try clear hfz7_0
      try clear hfz7_1
      try clear hfz7_2
      obtain ⟨x3_1, x17_1, rfl, rfl, HA, HK1, BK354, HB⟩ := hrel
      cases gk with
      | zero => exact absurd HA.out (by simp [impl_GrdEmpty.l0])
      | succ k1 =>
        have H := HA.out
        clear HA
        simp only [impl_GrdEmpty.l0] at H
        by_cases c8 : x17_1 < (l0_2.length : Int)
        · rw [if_pos c8] at H
          have c8b0 : decide (x17_1 < (l0_2.length : Int)) = true := decide_eq_true c8
          clear c8
          by_cases c9 : 0 ≤ x17_1
          · rw [if_pos c9] at H
            have c9b0 : decide (0 ≤ x17_1) = true := decide_eq_true c9
            clear c9
            by_cases c10 : x17_1 < (l0_2.length : Int)
            · rw [if_pos c10] at H
              have c10b0 : decide (x17_1 < (l0_2.length : Int)) = true := decide_eq_true c10
              clear c10
              have H' := Aside0.mk H
              clear H
              have p356 : 0 ≤ (x17_1 : Int) := of_decide_eq_true (by first | (with_reducible assumption) | assumption)
              have q356 : x17_1 < (l0_2.length : Int) := of_decide_eq_true (by first | (with_reducible assumption) | assumption)
              obtain ⟨ad356, e356, hx356_0, hx356_1, hx356_2, hx356_3, hx356_4⟩ := at_T65 HR0_2.out x17_1 p356 q356
              cases e356
              replace hx356_0 := (HB.out.cell (World.block_lt_of_cell? w _ hx356_0)).trans hx356_0
              replace hx356_1 := (HB.out.cell (World.block_lt_of_cell? w _ hx356_1)).trans hx356_1
              replace hx356_2 := (HB.out.cell (World.block_lt_of_cell? w _ hx356_2)).trans hx356_2
              replace hx356_3 := (HB.out.cell (World.block_lt_of_cell? w _ hx356_3)).trans hx356_3
              replace hx356_4 := (HB.out.cell (World.block_lt_of_cell? w _ hx356_4)).trans hx356_4
              replace p356 := eq_true p356
              replace q356 := eq_true q356
              go_wp2_with (first | ((with_reducible refine gate_dst (N := 5) rfl ?_); refine box_event ?hg (N := 5) ?hd (cs := #[.int .i64 0, .int .i64 0, .int .i64 0, .int .i64 0, .int .i64 0]) (t := 65) ?hr ?_; (case hd => rfl); (case hg => rfl); (case hr => first | (go_simp; done) | (go_simp; rfl)); intro gb357 hg w11 hbox hb; have n0_ := Aside0.mk (blk_below (g := gb354) (o := .cells #[.int .i64 a0_0, .int .i64 a0_1, .slice (some ad356) l0_2.length c0_2] 42 (0, 0)) (by (with_reducible repeat (first | refine blk_drewN ?_ _ | refine blk_drew ?_ | refine blk_alloc ?_ _)); exact BK354.out) hb); have n1_ := Aside0.mk (below_step (by repeat (first | (with_reducible first | exact HB.out | apply below_alloc | apply pw_below_drewN | apply below_drew1 | refine below_set ?_ GE354.out) | exact HB.out)) hb); have n2_ := Aside0.mk (hbox); have n3_ := Aside0.mk ((by rw [hg]; exact (below_size (by repeat (first | (with_reducible first | exact HB.out | apply below_alloc | apply pw_below_drewN | apply below_drew1 | refine below_set ?_ GE354.out) | exact HB.out))) : w.heap.size ≤ gb357)); have n4_ := Aside0.mk ((by rw [hg]; exact (below_size (by repeat (first | (with_reducible first | exact HB.out | apply below_alloc | apply pw_below_drewN | apply below_drew1 | refine below_set ?_ GE354.out) | exact HB.out))) : w.heap.size ≤ gb357)); have n5_ := Aside0.mk ((by rw [hg]; exact Nat.ne_of_lt (blk_lt (g := gb354) (o := .cells #[.int .i64 a0_0, .int .i64 a0_1, .slice (some ad356) l0_2.length c0_2] 42 (0, 0)) (by (with_reducible repeat (first | refine blk_drewN ?_ _ | refine blk_drew ?_ | refine blk_alloc ?_ _)); exact BK354.out)) : gb354 ≠ gb357)); have n6_ := Aside0.mk ((by rw [hg]; exact Nat.ne_of_gt (blk_lt (g := gb354) (o := .cells #[.int .i64 a0_0, .int .i64 a0_1, .slice (some ad356) l0_2.length c0_2] 42 (0, 0)) (by (with_reducible repeat (first | refine blk_drewN ?_ _ | refine blk_drew ?_ | refine blk_alloc ?_ _)); exact BK354.out)) : gb357 ≠ gb354)); clear BK354; clear HB; have BK354 := n0_; have HB := n1_; have BK357 := n2_; have GW357 := n3_; have GE357 := n4_; have NB354_357 := n5_; have NB357_354 := n6_; clear n0_ n1_ n2_ n3_ n4_ n5_ n6_; clear hb hbox hg; have hnb12 := NB357_354.out; have hnc12 := NB354_357.out; have hcz13_0 : w11.cell? ⟨gb357, 0, none⟩ = some (.int .i64 0) := (blk_cell BK357.out 0).trans rfl; have hcz13_1 : w11.cell? ⟨gb357, 1, none⟩ = some (.int .i64 0) := (blk_cell BK357.out 1).trans rfl; have hcz13_2 : w11.cell? ⟨gb357, 2, none⟩ = some (.int .i64 0) := (blk_cell BK357.out 2).trans rfl; have hcz13_3 : w11.cell? ⟨gb357, 3, none⟩ = some (.int .i64 0) := (blk_cell BK357.out 3).trans rfl; have hcz13_4 : w11.cell? ⟨gb357, 4, none⟩ = some (.int .i64 0) := (blk_cell BK357.out 4).trans rfl; have hfz13_0 := blk_frozen BK357.out 0; have hfz13_1 := blk_frozen BK357.out 1; have hfz13_2 := blk_frozen BK357.out 2; have hfz13_3 := blk_frozen BK357.out 3; have hfz13_4 := blk_frozen BK357.out 4))
              go_roundg k1
              case measure => have := HK1.out; omega
              case rel => exact ⟨(wrap64 (x3_1 - (wrap64 (((rd_T65 l0_2 x17_1).f2) * ((rd_T65 l0_2 x17_1).f3))))), (wrap64 (x17_1 + 1)), (by first | rfl | (simp; done) | (simp [*]; done)), (by first | rfl | (simp; done) | (simp [*]; done)), H', ⟨by have := HK1.out; omega⟩, ⟨by (with_reducible repeat (first | refine blk_drewN ?_ _ | refine blk_drew ?_ | refine blk_alloc ?_ _)); refine blk_far ?_ NB354_357.out _; (with_reducible repeat (first | refine blk_drewN ?_ _ | refine blk_drew ?_ | refine blk_alloc ?_ _)); refine blk_far ?_ NB354_357.out _; (with_reducible repeat (first | refine blk_drewN ?_ _ | refine blk_drew ?_ | refine blk_alloc ?_ _)); refine blk_far ?_ NB354_357.out _; (with_reducible repeat (first | refine blk_drewN ?_ _ | refine blk_drew ?_ | refine blk_alloc ?_ _)); refine blk_far ?_ NB354_357.out _; (with_reducible repeat (first | refine blk_drewN ?_ _ | refine blk_drew ?_ | refine blk_alloc ?_ _)); refine blk_far ?_ NB354_357.out _; (with_reducible repeat (first | refine blk_drewN ?_ _ | refine blk_drew ?_ | refine blk_alloc ?_ _)); exact BK354.out⟩, ⟨by repeat (first | (with_reducible first | exact HB.out | apply below_alloc | apply pw_below_drewN | apply below_drew1 | refine below_set ?_ GE354.out | refine below_set ?_ GE357.out) | exact HB.out)⟩⟩
            · rw [if_neg c10] at H
              exact absurd H (by simp)
          · rw [if_neg c9] at H
            exact absurd H (by simp)
        · rw [if_neg c8] at H
          have c8b0 : decide (x17_1 < (l0_2.length : Int)) = false := decide_eq_false c8
          clear c8
          obtain rfl := Option.some.inj H
          go_wp2
          go_ret
          exact ⟨by first | rfl | (simp [errW_none, errW_some] <;> rfl) | (simp [*, errW_none, errW_some] <;> rfl), by repeat (first | (with_reducible first | exact HB.out | apply below_alloc | apply pw_below_drewN | apply below_drew1 | refine below_set ?_ GE354.out) | exact HB.out)⟩
  · replace c3 := Bool.eq_false_iff.mpr c3
    subst c3
    have H1 : (some 0) = some r := by rw [if_neg (show ¬ (false = true) by decide)] at H; exact H
    clear H
    have H := H1
    clear H1
    obtain rfl := Option.some.inj H
    go_enter Try.func21, Try.ntmps21
    go_wp2_with (first | ((with_reducible refine gate_dst (N := 1) rfl ?_); refine box_event ?hg (N := 1) ?hd (cs := #[.int .i64 a0_0, .int .i64 a0_1, .slice A0_2 l0_2.length c0_2]) (t := 42) ?hr ?_; (case hd => rfl); (case hg => rfl); (case hr => first | (go_simp; done) | (go_simp; rfl)); intro gb354 hg w14 hbox hb; have n0_ := Aside0.mk (below_step (by repeat (first | (with_reducible first | exact HB.out | apply below_alloc | apply pw_below_drewN | apply below_drew1) | exact HB.out)) hb); have n1_ := Aside0.mk (hbox); have n2_ := Aside0.mk ((by rw [hg]; exact (below_size (by repeat (first | (with_reducible first | exact HB.out | apply below_alloc | apply pw_below_drewN | apply below_drew1) | exact HB.out))) : w.heap.size ≤ gb354)); have n3_ := Aside0.mk ((by rw [hg]; exact (below_size (by repeat (first | (with_reducible first | exact HB.out | apply below_alloc | apply pw_below_drewN | apply below_drew1) | exact HB.out))) : w.heap.size ≤ gb354)); clear HB; have HB := n0_; have BK354 := n1_; have GW354 := n2_; have GE354 := n3_; clear n0_ n1_ n2_ n3_; clear hb hbox hg; have hcz15_0 : w14.cell? ⟨gb354, 0, none⟩ = some (.int .i64 a0_0) := (blk_cell BK354.out 0).trans rfl; have hcz15_1 : w14.cell? ⟨gb354, 1, none⟩ = some (.int .i64 a0_1) := (blk_cell BK354.out 1).trans rfl; have hcz15_2 : w14.cell? ⟨gb354, 2, none⟩ = some (.slice A0_2 l0_2.length c0_2) := (blk_cell BK354.out 2).trans rfl; have hfz15_0 := blk_frozen BK354.out 0; have hfz15_1 := blk_frozen BK354.out 1; have hfz15_2 := blk_frozen BK354.out 2) | ((with_reducible refine gate_callee (f := 19) rfl ?_); refine goesL_ (some 7) rfl rfl Try.func19 (by kernel_rfl) rfl #[.agg #[.int .i64 a0_0, .int .i64 a0_1, .slice A0_2 l0_2.length c0_2]] rfl (by (try simp only [List.map_toArray, List.map_cons, List.map_nil]); first | done | rfl | (simp only [List.length_drop, List.length_take]; rfl)) ?_; (with_reducible refine (impl_GrdOk.calls k a0_0 a0_1 _ _ l0_2 false _ ?side1 ?side2 A2.out).mono ?_); (case side1 => repeat (first | exact (Kd.C_below HR0_2.out HB.out) | (with_reducible refine Kd.C_alloc ?_ _) | (with_reducible refine Kd.C_drewN ?_ _) | (with_reducible refine Kd.C_drew ?_))); (case side2 => exact HC0_2.out); rintro e w16 ⟨rfl, hb⟩; refine ⟨_, rfl, ?_⟩; have n0_ := Aside0.mk (blk_below (g := gb354) (o := .cells #[.int .i64 a0_0, .int .i64 a0_1, .slice A0_2 l0_2.length c0_2] 42 (0, 0)) (by (with_reducible repeat (first | refine blk_drewN ?_ _ | refine blk_drew ?_ | refine blk_alloc ?_ _)); exact BK354.out) hb); have n1_ := Aside0.mk (below_step (by repeat (first | (with_reducible first | exact HB.out | apply below_alloc | apply pw_below_drewN | apply below_drew1 | refine below_set ?_ GE354.out) | exact HB.out)) hb); clear BK354; clear HB; have BK354 := n0_; have HB := n1_; clear n0_ n1_; (try clear hb); (try clear hb2); (try clear hk); (try clear hi)))
    go_ret
    exact ⟨by first | rfl | (simp [errW_none, errW_some] <;> rfl) | (simp [*, errW_none, errW_some] <;> rfl), by repeat (first | (with_reducible first | exact HB.out | apply below_alloc | apply pw_below_drewN | apply below_drew1 | refine below_set ?_ GE354.out) | exact HB.out)⟩
end Go.Proofs.Ytemcdfkmpikegaa.Pr
