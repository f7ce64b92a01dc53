/- A part of what the claim of 'FnExactTblCells' leans on. -/
import Derived.Test.YtemcdfkmpikegaaFnExactTblCellsPr0
import Derived.Test.YtemcdfkmpikegaaFnExactTblCellsPr59
namespace Go.Proofs.Ytemcdfkmpikegaa.Pr
open Go.RowKit Go.Proofs.YtemcdfkmpikegaaW.PrintWords Go.Proofs.YtemcdfkmpikegaaW.PrintLast Go.Proofs.YtemcdfkmpikegaaW.PrintMore
attribute [local go_sem] max2_int min2_int max_two min_two max_three min_three max_four min_four
set_option linter.unusedVariables false
set_option linter.unusedSimpArgs false
def laws_eqTblCellS.l0 : Nat → List (S98) → List (S98) → Int → Option (Bool)
  | 0, _, _, _ => none
  | k + 1, x0, x1, x5 => if x5 < (x0.length : Int) then (if 0 ≤ x5 then (if x5 < (x1.length : Int) then ((laws_eqTblCell.f ((rd_T98 x0 x5).f0) ((rd_T98 x0 x5).f1) ((rd_T98 x0 x5).f2) ((rd_T98 x0 x5).f3.f0) ((rd_T98 x0 x5).f3.f1) ((rd_T98 x0 x5).f4.f0) ((rd_T98 x0 x5).f4.f1) ((rd_T98 x0 x5).f5.f0) ((rd_T98 x0 x5).f5.f1) ((rd_T98 x0 x5).f6.f0) ((rd_T98 x0 x5).f6.f1) ((rd_T98 x1 x5).f0) ((rd_T98 x1 x5).f1) ((rd_T98 x1 x5).f2) ((rd_T98 x1 x5).f3.f0) ((rd_T98 x1 x5).f3.f1) ((rd_T98 x1 x5).f4.f0) ((rd_T98 x1 x5).f4.f1) ((rd_T98 x1 x5).f5.f0) ((rd_T98 x1 x5).f5.f1) ((rd_T98 x1 x5).f6.f0) ((rd_T98 x1 x5).f6.f1)).bind fun t195 => (if t195 = true then (laws_eqTblCellS.l0 k x0 x1 (wrap64 (x5 + 1))) else (some false))) else (none)) else (none)) else (some true)
def laws_eqTblCellS.f (k : Nat) (l0 : List (S98)) (l1 : List (S98)) : Option (Bool) := if (l0.length : Int) = (l1.length : Int) then (laws_eqTblCellS.l0 k l0 l1 0) else (some false)
theorem laws_eqTblCellS.mono_l : ∀ k, (∀ y0 y1 y2, LeO (laws_eqTblCellS.l0 k y0 y1 y2) (laws_eqTblCellS.l0 (k + 1) y0 y1 y2))
  | 0 => fun _ _ _ r h => by simp [laws_eqTblCellS.l0] at h
  | k + 1 => by
    have ih0 := laws_eqTblCellS.mono_l k
    · intro y0 y1 y2
      unfold laws_eqTblCellS.l0
      repeat' first
      | (with_reducible exact ih0 _ _ _)
      | (with_reducible exact LeO.refl _)
      | (with_reducible exact LeO.none _)
      | (with_reducible refine LeO.ite ?_ ?_)
      | (with_reducible refine LeO.bind ?_ (fun _ => ?_))
      | exact ih0 _ _ _
      | exact LeO.none _
      | refine LeO.ite ?_ ?_
      | refine LeO.bind ?_ (fun _ => ?_)
theorem laws_eqTblCellS.mono : ∀ a0 a1 k, LeO (laws_eqTblCellS.f k a0 a1) (laws_eqTblCellS.f (k + 1) a0 a1) := by
  intro a0 a1 k
  have ih0 := laws_eqTblCellS.mono_l k
  unfold laws_eqTblCellS.f
  repeat' first
      | (with_reducible exact ih0 _ _ _)
      | (with_reducible exact LeO.refl _)
      | (with_reducible exact LeO.none _)
      | (with_reducible refine LeO.ite ?_ ?_)
      | (with_reducible refine LeO.bind ?_ (fun _ => ?_))
      | exact ih0 _ _ _
      | exact LeO.none _
      | refine LeO.ite ?_ ?_
      | refine LeO.bind ?_ (fun _ => ?_)
def laws_eqTblCellS.T6 : Bool × List (List Nat × List Nat) := (true, [([], []), ([], []), ([0, 1], [0, 1]), ([2], [2]), ([], []), ([], []), ([4, 5], [4, 5]), ([6], [6]), ([3, 7], [3, 7]), ([8], [8])])
def laws_eqTblCellS.B6 : List Nat := [0, 0, 3, 7, 0, 0, 48, 112, 255, 511]
theorem laws_eqTblCellS.tab6 : rtab .any (opsOf Try.f56 6) = laws_eqTblCellS.T6 := by kernel_rfl
theorem laws_eqTblCellS.bits6 : waitsOk laws_eqTblCellS.T6.2 laws_eqTblCellS.B6 = true := by kernel_rfl
set_option maxHeartbeats 8000000 in
set_option maxRecDepth 100000 in
theorem laws_eqTblCellS.calls (k : Nat) (A0 : Option Addr) (c0 : Nat) (l0 : List (S98)) (A1 : Option Addr) (c1 : Nat) (l1 : List (S98)) (r : Bool) (w : World) (hr0 : Kd.C k98 w A0 l0.length l0) (hc0 : l0.length ≤ c0) (hr1 : Kd.C k98 w A1 l1.length l1) (hc1 : l1.length ≤ c1) (h : laws_eqTblCellS.f k l0 l1 = some r) :
    Calls Try.prog 56 #[.slice A0 l0.length c0, .slice A1 l1.length c1] w fun e w' => e = .returned (.bool r) ∧ Below w.heap.size w w' := by
  have hu98 := Try.underlying98
  have HR0 := Aside0.mk hr0
  have HC0 := Aside0.mk hc0
  clear hr0 hc0
  have HR1 := Aside0.mk hr1
  have HC1 := Aside0.mk hc1
  clear hr1 hc1
  have HB := Aside0.mk (Below.refl w.heap.size w)
  have H : (if (l0.length : Int) = (l1.length : Int) then (laws_eqTblCellS.l0 k l0 l1 0) else (some false)) = some r := h
  clear h
  by_cases c3 : (l0.length : Int) = (l1.length : Int)
  · rw [if_pos c3] at H
    have c3b0 : ((l0.length : Int) == (l1.length : Int)) = true := beq_iff_eq.mpr c3
    have c3b1 : ((l0.length : Int) != (l1.length : Int)) = false := bne_eq_false_iff_eq.mpr c3
    have c3b2 : (l0.length == l1.length) = true := by first | simpa using c3 | (simp at c3 ⊢; omega)
    clear c3
    have H' := Aside0.mk H
    clear H
    go_enter Try.func56, Try.ntmps56
    go_wp2
    go_loopg [5] k (fun kq v5 w' => ∃ (x5_1 : Int), v5 = .int .i64 x5_1 ∧ Aside0 (laws_eqTblCellS.l0 kq l0 l1 x5_1 = some r) ∧ Aside0 (kq ≤ k) ∧ Aside0 (Below w.heap.size w w'))
    case atStart => exact ⟨(0), (by first | rfl | (simp; done) | (simp [*]; done)), H', ⟨Nat.le_refl _⟩, ⟨by repeat (first | (with_reducible first | exact HB.out | apply below_alloc | apply pw_below_drewN | apply below_drew1) | exact HB.out)⟩⟩
    case round =>
      clear H'
      try clear c1
      try clear p2
      try clear c3
      try clear c3b0
      try clear c3b1
      try clear c3b2
      obtain ⟨x5_1, rfl, HA, HK1, HB⟩ := hrel
      cases gk with
      | zero => exact absurd HA.out (by simp [laws_eqTblCellS.l0])
      | succ k1 =>
        have H := HA.out
        clear HA
        simp only [laws_eqTblCellS.l0] at H
        by_cases c4 : x5_1 < (l0.length : Int)
        · rw [if_pos c4] at H
          have c4b0 : decide (x5_1 < (l0.length : Int)) = true := decide_eq_true c4
          clear c4
          by_cases c5 : 0 ≤ x5_1
          · rw [if_pos c5] at H
            have c5b0 : decide (0 ≤ x5_1) = true := decide_eq_true c5
            clear c5
            by_cases c6 : x5_1 < (l1.length : Int)
            · rw [if_pos c6] at H
              have c6b0 : decide (x5_1 < (l1.length : Int)) = true := decide_eq_true c6
              clear c6
              replace H := Option.bind_eq_some_iff.mp H
              obtain ⟨t195, A70, H⟩ := H
              replace H : (if t195 = true then (laws_eqTblCellS.l0 k1 l0 l1 (wrap64 (x5_1 + 1))) else (some false)) = some r := H
              have A7 := Aside0.mk A70
              clear A70
              by_cases c8 : t195 = true
              · subst c8
                have H1 : (laws_eqTblCellS.l0 k1 l0 l1 (wrap64 (x5_1 + 1))) = some r := by rw [if_pos rfl] at H; exact H
                clear H
                have H := H1
                clear H1
                have H' := Aside0.mk H
                clear H
                try go_wp2
                have n0_ := Aside0.mk (below_drew1 HB.out)
                clear HB
                have HB := n0_
                clear n0_
                have p193 : 0 ≤ (x5_1 : Int) := of_decide_eq_true (by first | (with_reducible assumption) | assumption)
                have q193 : x5_1 < (l0.length : Int) := of_decide_eq_true (by first | (with_reducible assumption) | assumption)
                obtain ⟨ad193, e193, hx193_0, hx193_1, hx193_2, hx193_3, hx193_4, hx193_5, hx193_6, hx193_7, hx193_8, hx193_9, hx193_10⟩ := at_T98 HR0.out x5_1 p193 q193
                have hw193_10 := hx193_10
                have hw193_9 := hx193_9
                have hw193_8 := hx193_8
                have hw193_7 := hx193_7
                have hw193_6 := hx193_6
                have hw193_5 := hx193_5
                have hw193_4 := hx193_4
                have hw193_3 := hx193_3
                have hw193_2 := hx193_2
                have hw193_1 := hx193_1
                have hw193_0 := hx193_0
                cases e193
                replace hx193_0 := (HB.out.cell (World.block_lt_of_cell? w _ hx193_0)).trans hx193_0
                replace hx193_1 := (HB.out.cell (World.block_lt_of_cell? w _ hx193_1)).trans hx193_1
                replace hx193_2 := (HB.out.cell (World.block_lt_of_cell? w _ hx193_2)).trans hx193_2
                replace hx193_3 := (HB.out.cell (World.block_lt_of_cell? w _ hx193_3)).trans hx193_3
                replace hx193_4 := (HB.out.cell (World.block_lt_of_cell? w _ hx193_4)).trans hx193_4
                replace hx193_5 := (HB.out.cell (World.block_lt_of_cell? w _ hx193_5)).trans hx193_5
                replace hx193_6 := (HB.out.cell (World.block_lt_of_cell? w _ hx193_6)).trans hx193_6
                replace hx193_7 := (HB.out.cell (World.block_lt_of_cell? w _ hx193_7)).trans hx193_7
                replace hx193_8 := (HB.out.cell (World.block_lt_of_cell? w _ hx193_8)).trans hx193_8
                replace hx193_9 := (HB.out.cell (World.block_lt_of_cell? w _ hx193_9)).trans hx193_9
                replace hx193_10 := (HB.out.cell (World.block_lt_of_cell? w _ hx193_10)).trans hx193_10
                replace p193 := eq_true p193
                replace q193 := eq_true q193
                have p194 : 0 ≤ (x5_1 : Int) := of_decide_eq_true (by first | (with_reducible assumption) | assumption)
                have q194 : x5_1 < (l1.length : Int) := of_decide_eq_true (by first | (with_reducible assumption) | assumption)
                obtain ⟨ad194, e194, hx194_0, hx194_1, hx194_2, hx194_3, hx194_4, hx194_5, hx194_6, hx194_7, hx194_8, hx194_9, hx194_10⟩ := at_T98 HR1.out x5_1 p194 q194
                have hw194_10 := hx194_10
                have hw194_9 := hx194_9
                have hw194_8 := hx194_8
                have hw194_7 := hx194_7
                have hw194_6 := hx194_6
                have hw194_5 := hx194_5
                have hw194_4 := hx194_4
                have hw194_3 := hx194_3
                have hw194_2 := hx194_2
                have hw194_1 := hx194_1
                have hw194_0 := hx194_0
                cases e194
                replace hx194_0 := (HB.out.cell (World.block_lt_of_cell? w _ hx194_0)).trans hx194_0
                replace hx194_1 := (HB.out.cell (World.block_lt_of_cell? w _ hx194_1)).trans hx194_1
                replace hx194_2 := (HB.out.cell (World.block_lt_of_cell? w _ hx194_2)).trans hx194_2
                replace hx194_3 := (HB.out.cell (World.block_lt_of_cell? w _ hx194_3)).trans hx194_3
                replace hx194_4 := (HB.out.cell (World.block_lt_of_cell? w _ hx194_4)).trans hx194_4
                replace hx194_5 := (HB.out.cell (World.block_lt_of_cell? w _ hx194_5)).trans hx194_5
                replace hx194_6 := (HB.out.cell (World.block_lt_of_cell? w _ hx194_6)).trans hx194_6
                replace hx194_7 := (HB.out.cell (World.block_lt_of_cell? w _ hx194_7)).trans hx194_7
                replace hx194_8 := (HB.out.cell (World.block_lt_of_cell? w _ hx194_8)).trans hx194_8
                replace hx194_9 := (HB.out.cell (World.block_lt_of_cell? w _ hx194_9)).trans hx194_9
                replace hx194_10 := (HB.out.cell (World.block_lt_of_cell? w _ hx194_10)).trans hx194_10
                replace p194 := eq_true p194
                replace q194 := eq_true q194
                refine start_ (n := 10) (S := fun w' => w'.cell? (ad193.add ((x5_1).toNat * 11)) = some (.string ((rd_T98 l0 x5_1).f0)) ∧ w'.cell? ⟨(ad193.add ((x5_1).toNat * 11)).block, (ad193.add ((x5_1).toNat * 11)).off + 1, none⟩ = some (.int .i64 ((rd_T98 l0 x5_1).f1)) ∧ w'.cell? ⟨(ad193.add ((x5_1).toNat * 11)).block, (ad193.add ((x5_1).toNat * 11)).off + 2, none⟩ = some (.int .i64 ((rd_T98 l0 x5_1).f2)) ∧ w'.cell? ⟨(ad193.add ((x5_1).toNat * 11)).block, (ad193.add ((x5_1).toNat * 11)).off + 3, none⟩ = some (.int .i64 ((rd_T98 l0 x5_1).f3.f0)) ∧ w'.cell? ⟨(ad193.add ((x5_1).toNat * 11)).block, (ad193.add ((x5_1).toNat * 11)).off + 4, none⟩ = some (.int .i64 ((rd_T98 l0 x5_1).f3.f1)) ∧ w'.cell? ⟨(ad193.add ((x5_1).toNat * 11)).block, (ad193.add ((x5_1).toNat * 11)).off + 5, none⟩ = some (.int .i64 ((rd_T98 l0 x5_1).f4.f0)) ∧ w'.cell? ⟨(ad193.add ((x5_1).toNat * 11)).block, (ad193.add ((x5_1).toNat * 11)).off + 6, none⟩ = some (.int .i64 ((rd_T98 l0 x5_1).f4.f1)) ∧ w'.cell? ⟨(ad193.add ((x5_1).toNat * 11)).block, (ad193.add ((x5_1).toNat * 11)).off + 7, none⟩ = some (.int .i64 ((rd_T98 l0 x5_1).f5.f0)) ∧ w'.cell? ⟨(ad193.add ((x5_1).toNat * 11)).block, (ad193.add ((x5_1).toNat * 11)).off + 8, none⟩ = some (.int .i64 ((rd_T98 l0 x5_1).f5.f1)) ∧ w'.cell? ⟨(ad193.add ((x5_1).toNat * 11)).block, (ad193.add ((x5_1).toNat * 11)).off + 9, none⟩ = some (.int .i64 ((rd_T98 l0 x5_1).f6.f0)) ∧ w'.cell? ⟨(ad193.add ((x5_1).toNat * 11)).block, (ad193.add ((x5_1).toNat * 11)).off + 10, none⟩ = some (.int .i64 ((rd_T98 l0 x5_1).f6.f1)) ∧ w'.cell? (ad194.add ((x5_1).toNat * 11)) = some (.string ((rd_T98 l1 x5_1).f0)) ∧ w'.cell? ⟨(ad194.add ((x5_1).toNat * 11)).block, (ad194.add ((x5_1).toNat * 11)).off + 1, none⟩ = some (.int .i64 ((rd_T98 l1 x5_1).f1)) ∧ w'.cell? ⟨(ad194.add ((x5_1).toNat * 11)).block, (ad194.add ((x5_1).toNat * 11)).off + 2, none⟩ = some (.int .i64 ((rd_T98 l1 x5_1).f2)) ∧ w'.cell? ⟨(ad194.add ((x5_1).toNat * 11)).block, (ad194.add ((x5_1).toNat * 11)).off + 3, none⟩ = some (.int .i64 ((rd_T98 l1 x5_1).f3.f0)) ∧ w'.cell? ⟨(ad194.add ((x5_1).toNat * 11)).block, (ad194.add ((x5_1).toNat * 11)).off + 4, none⟩ = some (.int .i64 ((rd_T98 l1 x5_1).f3.f1)) ∧ w'.cell? ⟨(ad194.add ((x5_1).toNat * 11)).block, (ad194.add ((x5_1).toNat * 11)).off + 5, none⟩ = some (.int .i64 ((rd_T98 l1 x5_1).f4.f0)) ∧ w'.cell? ⟨(ad194.add ((x5_1).toNat * 11)).block, (ad194.add ((x5_1).toNat * 11)).off + 6, none⟩ = some (.int .i64 ((rd_T98 l1 x5_1).f4.f1)) ∧ w'.cell? ⟨(ad194.add ((x5_1).toNat * 11)).block, (ad194.add ((x5_1).toNat * 11)).off + 7, none⟩ = some (.int .i64 ((rd_T98 l1 x5_1).f5.f0)) ∧ w'.cell? ⟨(ad194.add ((x5_1).toNat * 11)).block, (ad194.add ((x5_1).toNat * 11)).off + 8, none⟩ = some (.int .i64 ((rd_T98 l1 x5_1).f5.f1)) ∧ w'.cell? ⟨(ad194.add ((x5_1).toNat * 11)).block, (ad194.add ((x5_1).toNat * 11)).off + 9, none⟩ = some (.int .i64 ((rd_T98 l1 x5_1).f6.f0)) ∧ w'.cell? ⟨(ad194.add ((x5_1).toNat * 11)).block, (ad194.add ((x5_1).toNat * 11)).off + 10, none⟩ = some (.int .i64 ((rd_T98 l1 x5_1).f6.f1))) (ds := []) #[false, false, false, false, false, false, false, false, false, false] (by kernel_rfl) rfl rfl ⟨((HB.out.cell (World.block_lt_of_cell? w _ hw193_0)).trans hw193_0), ((HB.out.cell (World.block_lt_of_cell? w _ hw193_1)).trans hw193_1), ((HB.out.cell (World.block_lt_of_cell? w _ hw193_2)).trans hw193_2), ((HB.out.cell (World.block_lt_of_cell? w _ hw193_3)).trans hw193_3), ((HB.out.cell (World.block_lt_of_cell? w _ hw193_4)).trans hw193_4), ((HB.out.cell (World.block_lt_of_cell? w _ hw193_5)).trans hw193_5), ((HB.out.cell (World.block_lt_of_cell? w _ hw193_6)).trans hw193_6), ((HB.out.cell (World.block_lt_of_cell? w _ hw193_7)).trans hw193_7), ((HB.out.cell (World.block_lt_of_cell? w _ hw193_8)).trans hw193_8), ((HB.out.cell (World.block_lt_of_cell? w _ hw193_9)).trans hw193_9), ((HB.out.cell (World.block_lt_of_cell? w _ hw193_10)).trans hw193_10), ((HB.out.cell (World.block_lt_of_cell? w _ hw194_0)).trans hw194_0), ((HB.out.cell (World.block_lt_of_cell? w _ hw194_1)).trans hw194_1), ((HB.out.cell (World.block_lt_of_cell? w _ hw194_2)).trans hw194_2), ((HB.out.cell (World.block_lt_of_cell? w _ hw194_3)).trans hw194_3), ((HB.out.cell (World.block_lt_of_cell? w _ hw194_4)).trans hw194_4), ((HB.out.cell (World.block_lt_of_cell? w _ hw194_5)).trans hw194_5), ((HB.out.cell (World.block_lt_of_cell? w _ hw194_6)).trans hw194_6), ((HB.out.cell (World.block_lt_of_cell? w _ hw194_7)).trans hw194_7), ((HB.out.cell (World.block_lt_of_cell? w _ hw194_8)).trans hw194_8), ((HB.out.cell (World.block_lt_of_cell? w _ hw194_9)).trans hw194_9), ((HB.out.cell (World.block_lt_of_cell? w _ hw194_10)).trans hw194_10)⟩ (fun hHeld => ?_); refine with_tabW laws_eqTblCellS.tab6 laws_eqTblCellS.bits6 (fun HT_ HW_ => ?_)
                generalize wr.drew = w9 at HB hx193_0 hx193_1 hx193_10 hx193_2 hx193_3 hx193_4 hx193_5 hx193_6 hx193_7 hx193_8 hx193_9 hx194_0 hx194_1 hx194_10 hx194_2 hx194_3 hx194_4 hx194_5 hx194_6 hx194_7 hx194_8 hx194_9 hHeld ⊢
                refine pure_ (i := 0) (N := some 17) (v := ?_) (a' := ?_) #[true, false, false, false, false, false, false, false, false, false] rfl rfl (any_of HT_.out (by kernel_rfl)) (fun _ _ _ h => h) (Or.inl ⟨by rfl, ?_⟩) ?_ ?_
                rotate_left
                · intro w'
                  go_simp
                  with_reducible rfl
                rotate_left
                · simp only [Act.put, List.setIfInBounds_toArray, List.set_cons_zero, List.set_cons_succ, i64_w, i32_w]
                  rfl
                refine pure_ (i := 1) (N := some 18) (v := ?_) (a' := ?_) #[true, true, false, false, false, false, false, false, false, false] rfl rfl (any_of HT_.out (by kernel_rfl)) (fun _ _ _ h => h) (Or.inl ⟨by rfl, ?_⟩) ?_ ?_
                rotate_left
                · intro w'
                  go_simp
                  with_reducible rfl
                rotate_left
                · simp only [Act.put, List.setIfInBounds_toArray, List.set_cons_zero, List.set_cons_succ, i64_w, i32_w]
                  rfl
                refine pure_ (i := 2) (N := some 19) (v := ?_) (a' := ?_) #[true, true, true, false, false, false, false, false, false, false] rfl rfl (any_of HT_.out (by kernel_rfl)) (fun _ _ _ h => h) (Or.inl ⟨by rfl, ?_⟩) ?_ ?_
                rotate_left
                · intro w'
                  go_simp
                  with_reducible rfl
                rotate_left
                · simp only [Act.put, List.setIfInBounds_toArray, List.set_cons_zero, List.set_cons_succ, i64_w, i32_w]
                  rfl
                refine pure_ (i := 4) (N := some 21) (v := ?_) (a' := ?_) #[true, true, true, false, true, false, false, false, false, false] rfl rfl (any_of HT_.out (by kernel_rfl)) (fun _ _ _ h => h) (Or.inl ⟨by rfl, ?_⟩) ?_ ?_
                rotate_left
                · intro w'
                  go_simp
                  with_reducible rfl
                rotate_left
                · simp only [Act.put, List.setIfInBounds_toArray, List.set_cons_zero, List.set_cons_succ, i64_w, i32_w]
                  rfl
                refine pure_ (i := 5) (N := some 22) (v := ?_) (a' := ?_) #[true, true, true, false, true, true, false, false, false, false] rfl rfl (any_of HT_.out (by kernel_rfl)) (fun _ _ _ h => h) (Or.inl ⟨by rfl, ?_⟩) ?_ ?_
                rotate_left
                · intro w'
                  go_simp
                  with_reducible rfl
                rotate_left
                · simp only [Act.put, List.setIfInBounds_toArray, List.set_cons_zero, List.set_cons_succ, i64_w, i32_w]
                  rfl
                refine pure_ (i := 6) (N := some 23) (v := ?_) (a' := ?_) #[true, true, true, false, true, true, true, false, false, false] rfl rfl (any_of HT_.out (by kernel_rfl)) (fun _ _ _ h => h) (Or.inl ⟨by rfl, ?_⟩) ?_ ?_
                rotate_left
                · intro w'
                  go_simp
                  with_reducible rfl
                rotate_left
                · simp only [Act.put, List.setIfInBounds_toArray, List.set_cons_zero, List.set_cons_succ, i64_w, i32_w]
                  rfl
                refine take_ (i := 3) (N := some 20) (v := ?_) (a' := ?_) #[true, true, true, true, true, true, true, false, false, false] rfl rfl (take_ofW HT_.out HW_.out (by kernel_rfl)) (fun _ _ _ h => h) (Or.inl ⟨by rfl, ?_⟩) hHeld ?_ ?_
                rotate_left
                · rintro w' ⟨s0, s1, s2, s3, s4, s5, s6, s7, s8, s9, s10, s11, s12, s13, s14, s15, s16, s17, s18, s19, s20, s21⟩
                  go_simp
                  with_reducible rfl
                rotate_left
                · simp only [Act.put, List.setIfInBounds_toArray, List.set_cons_zero, List.set_cons_succ, i64_w, i32_w]
                  rfl
                refine take_ (i := 7) (N := some 24) (v := ?_) (a' := ?_) #[true, true, true, true, true, true, true, true, false, false] rfl rfl (take_ofW HT_.out HW_.out (by kernel_rfl)) (fun _ _ _ h => h) (Or.inl ⟨by rfl, ?_⟩) hHeld ?_ ?_
                rotate_left
                · rintro w' ⟨s0, s1, s2, s3, s4, s5, s6, s7, s8, s9, s10, s11, s12, s13, s14, s15, s16, s17, s18, s19, s20, s21⟩
                  go_simp
                  with_reducible rfl
                rotate_left
                · simp only [Act.put, List.setIfInBounds_toArray, List.set_cons_zero, List.set_cons_succ, i64_w, i32_w]
                  rfl
                refine one_ (i := 8) (N := some 25) #[true, true, true, true, true, true, true, true, true, false] rfl rfl (one_of HT_.out (by kernel_rfl)) (by decide) (fun K hK => ?_)
                refine goes_ Try.func59 (by kernel_rfl) rfl #[.agg #[.string ((rd_T98 l0 x5_1).f0), .int .i64 ((rd_T98 l0 x5_1).f1), .int .i64 ((rd_T98 l0 x5_1).f2), .int .i64 ((rd_T98 l0 x5_1).f3.f0), .int .i64 ((rd_T98 l0 x5_1).f3.f1), .int .i64 ((rd_T98 l0 x5_1).f4.f0), .int .i64 ((rd_T98 l0 x5_1).f4.f1), .int .i64 ((rd_T98 l0 x5_1).f5.f0), .int .i64 ((rd_T98 l0 x5_1).f5.f1), .int .i64 ((rd_T98 l0 x5_1).f6.f0), .int .i64 ((rd_T98 l0 x5_1).f6.f1)], .agg #[.string ((rd_T98 l1 x5_1).f0), .int .i64 ((rd_T98 l1 x5_1).f1), .int .i64 ((rd_T98 l1 x5_1).f2), .int .i64 ((rd_T98 l1 x5_1).f3.f0), .int .i64 ((rd_T98 l1 x5_1).f3.f1), .int .i64 ((rd_T98 l1 x5_1).f4.f0), .int .i64 ((rd_T98 l1 x5_1).f4.f1), .int .i64 ((rd_T98 l1 x5_1).f5.f0), .int .i64 ((rd_T98 l1 x5_1).f5.f1), .int .i64 ((rd_T98 l1 x5_1).f6.f0), .int .i64 ((rd_T98 l1 x5_1).f6.f1)]] (by rfl) rfl rfl (by (try simp only [List.map_toArray, List.map_cons, List.map_nil]); first | done | rfl | (simp only [List.length_drop, List.length_take]; rfl)) ?_
                with_reducible refine (laws_eqTblCell.calls ((rd_T98 l0 x5_1).f0) ((rd_T98 l0 x5_1).f1) ((rd_T98 l0 x5_1).f2) ((rd_T98 l0 x5_1).f3.f0) ((rd_T98 l0 x5_1).f3.f1) ((rd_T98 l0 x5_1).f4.f0) ((rd_T98 l0 x5_1).f4.f1) ((rd_T98 l0 x5_1).f5.f0) ((rd_T98 l0 x5_1).f5.f1) ((rd_T98 l0 x5_1).f6.f0) ((rd_T98 l0 x5_1).f6.f1) ((rd_T98 l1 x5_1).f0) ((rd_T98 l1 x5_1).f1) ((rd_T98 l1 x5_1).f2) ((rd_T98 l1 x5_1).f3.f0) ((rd_T98 l1 x5_1).f3.f1) ((rd_T98 l1 x5_1).f4.f0) ((rd_T98 l1 x5_1).f4.f1) ((rd_T98 l1 x5_1).f5.f0) ((rd_T98 l1 x5_1).f5.f1) ((rd_T98 l1 x5_1).f6.f0) ((rd_T98 l1 x5_1).f6.f1) true _ A7.out).mono ?_
                rintro e w10 ⟨rfl, hb⟩
                refine ⟨_, rfl, ?_⟩
                have n0_ := Aside0.mk (below_step (by repeat (first | (with_reducible first | exact HB.out | apply below_alloc | apply pw_below_drewN | apply below_drew1) | exact HB.out)) hb)
                clear HB
                have HB := n0_
                clear n0_
                (try clear hb)
                (try clear hb2)
                (try clear hk)
                (try clear hi)
                refine hK.out _ _ ⟨((HB.out.cell (World.block_lt_of_cell? w _ hw193_0)).trans hw193_0), ((HB.out.cell (World.block_lt_of_cell? w _ hw193_1)).trans hw193_1), ((HB.out.cell (World.block_lt_of_cell? w _ hw193_2)).trans hw193_2), ((HB.out.cell (World.block_lt_of_cell? w _ hw193_3)).trans hw193_3), ((HB.out.cell (World.block_lt_of_cell? w _ hw193_4)).trans hw193_4), ((HB.out.cell (World.block_lt_of_cell? w _ hw193_5)).trans hw193_5), ((HB.out.cell (World.block_lt_of_cell? w _ hw193_6)).trans hw193_6), ((HB.out.cell (World.block_lt_of_cell? w _ hw193_7)).trans hw193_7), ((HB.out.cell (World.block_lt_of_cell? w _ hw193_8)).trans hw193_8), ((HB.out.cell (World.block_lt_of_cell? w _ hw193_9)).trans hw193_9), ((HB.out.cell (World.block_lt_of_cell? w _ hw193_10)).trans hw193_10), ((HB.out.cell (World.block_lt_of_cell? w _ hw194_0)).trans hw194_0), ((HB.out.cell (World.block_lt_of_cell? w _ hw194_1)).trans hw194_1), ((HB.out.cell (World.block_lt_of_cell? w _ hw194_2)).trans hw194_2), ((HB.out.cell (World.block_lt_of_cell? w _ hw194_3)).trans hw194_3), ((HB.out.cell (World.block_lt_of_cell? w _ hw194_4)).trans hw194_4), ((HB.out.cell (World.block_lt_of_cell? w _ hw194_5)).trans hw194_5), ((HB.out.cell (World.block_lt_of_cell? w _ hw194_6)).trans hw194_6), ((HB.out.cell (World.block_lt_of_cell? w _ hw194_7)).trans hw194_7), ((HB.out.cell (World.block_lt_of_cell? w _ hw194_8)).trans hw194_8), ((HB.out.cell (World.block_lt_of_cell? w _ hw194_9)).trans hw194_9), ((HB.out.cell (World.block_lt_of_cell? w _ hw194_10)).trans hw194_10)⟩ (fun hHeld => ?_)
                clear hK K
                refine norm_ (a' := ?_) ?_ ?_
                rotate_left
                · show Act.put _ (some 25) _ = _
                  simp only [Act.put, List.setIfInBounds_toArray, List.set_cons_zero, List.set_cons_succ, i64_w, i32_w]
                  rfl
                refine pure_ (i := 9) (N := some 26) (v := ?_) (a' := ?_) #[true, true, true, true, true, true, true, true, true, true] rfl rfl (any_of HT_.out (by kernel_rfl)) (fun _ _ _ h => h) (Or.inl ⟨by rfl, ?_⟩) ?_ ?_
                rotate_left
                · intro w'
                  go_simp
                  with_reducible rfl
                rotate_left
                · simp only [Act.put, List.setIfInBounds_toArray, List.set_cons_zero, List.set_cons_succ, i64_w, i32_w]
                  rfl
                refine done_ (done_of HT_.out (by kernel_rfl)) ?_
                try go_wp2
                go_roundg k1
                case measure => have := HK1.out; omega
                case rel => exact ⟨(wrap64 (x5_1 + 1)), (by first | rfl | (simp; done) | (simp [*]; done)), H', ⟨by have := HK1.out; omega⟩, ⟨by repeat (first | (with_reducible first | exact HB.out | apply below_alloc | apply pw_below_drewN | apply below_drew1) | exact HB.out)⟩⟩
              · replace c8 := Bool.eq_false_iff.mpr c8
                subst c8
                have H1 : (some false) = some r := by rw [if_neg (show ¬ (false = true) by decide)] at H; exact H
                clear H
                have H := H1
                clear H1
                obtain rfl := Option.some.inj H
                try go_wp2
                have n0_ := Aside0.mk (below_drew1 HB.out)
                clear HB
                have HB := n0_
                clear n0_
                have p193 : 0 ≤ (x5_1 : Int) := of_decide_eq_true (by first | (with_reducible assumption) | assumption)
                have q193 : x5_1 < (l0.length : Int) := of_decide_eq_true (by first | (with_reducible assumption) | assumption)
                obtain ⟨ad193, e193, hx193_0, hx193_1, hx193_2, hx193_3, hx193_4, hx193_5, hx193_6, hx193_7, hx193_8, hx193_9, hx193_10⟩ := at_T98 HR0.out x5_1 p193 q193
                have hw193_10 := hx193_10
                have hw193_9 := hx193_9
                have hw193_8 := hx193_8
                have hw193_7 := hx193_7
                have hw193_6 := hx193_6
                have hw193_5 := hx193_5
                have hw193_4 := hx193_4
                have hw193_3 := hx193_3
                have hw193_2 := hx193_2
                have hw193_1 := hx193_1
                have hw193_0 := hx193_0
                cases e193
                replace hx193_0 := (HB.out.cell (World.block_lt_of_cell? w _ hx193_0)).trans hx193_0
                replace hx193_1 := (HB.out.cell (World.block_lt_of_cell? w _ hx193_1)).trans hx193_1
                replace hx193_2 := (HB.out.cell (World.block_lt_of_cell? w _ hx193_2)).trans hx193_2
                replace hx193_3 := (HB.out.cell (World.block_lt_of_cell? w _ hx193_3)).trans hx193_3
                replace hx193_4 := (HB.out.cell (World.block_lt_of_cell? w _ hx193_4)).trans hx193_4
                replace hx193_5 := (HB.out.cell (World.block_lt_of_cell? w _ hx193_5)).trans hx193_5
                replace hx193_6 := (HB.out.cell (World.block_lt_of_cell? w _ hx193_6)).trans hx193_6
                replace hx193_7 := (HB.out.cell (World.block_lt_of_cell? w _ hx193_7)).trans hx193_7
                replace hx193_8 := (HB.out.cell (World.block_lt_of_cell? w _ hx193_8)).trans hx193_8
                replace hx193_9 := (HB.out.cell (World.block_lt_of_cell? w _ hx193_9)).trans hx193_9
                replace hx193_10 := (HB.out.cell (World.block_lt_of_cell? w _ hx193_10)).trans hx193_10
                replace p193 := eq_true p193
                replace q193 := eq_true q193
                have p194 : 0 ≤ (x5_1 : Int) := of_decide_eq_true (by first | (with_reducible assumption) | assumption)
                have q194 : x5_1 < (l1.length : Int) := of_decide_eq_true (by first | (with_reducible assumption) | assumption)
                obtain ⟨ad194, e194, hx194_0, hx194_1, hx194_2, hx194_3, hx194_4, hx194_5, hx194_6, hx194_7, hx194_8, hx194_9, hx194_10⟩ := at_T98 HR1.out x5_1 p194 q194
                have hw194_10 := hx194_10
                have hw194_9 := hx194_9
                have hw194_8 := hx194_8
                have hw194_7 := hx194_7
                have hw194_6 := hx194_6
                have hw194_5 := hx194_5
                have hw194_4 := hx194_4
                have hw194_3 := hx194_3
                have hw194_2 := hx194_2
                have hw194_1 := hx194_1
                have hw194_0 := hx194_0
                cases e194
                replace hx194_0 := (HB.out.cell (World.block_lt_of_cell? w _ hx194_0)).trans hx194_0
                replace hx194_1 := (HB.out.cell (World.block_lt_of_cell? w _ hx194_1)).trans hx194_1
                replace hx194_2 := (HB.out.cell (World.block_lt_of_cell? w _ hx194_2)).trans hx194_2
                replace hx194_3 := (HB.out.cell (World.block_lt_of_cell? w _ hx194_3)).trans hx194_3
                replace hx194_4 := (HB.out.cell (World.block_lt_of_cell? w _ hx194_4)).trans hx194_4
                replace hx194_5 := (HB.out.cell (World.block_lt_of_cell? w _ hx194_5)).trans hx194_5
                replace hx194_6 := (HB.out.cell (World.block_lt_of_cell? w _ hx194_6)).trans hx194_6
                replace hx194_7 := (HB.out.cell (World.block_lt_of_cell? w _ hx194_7)).trans hx194_7
                replace hx194_8 := (HB.out.cell (World.block_lt_of_cell? w _ hx194_8)).trans hx194_8
                replace hx194_9 := (HB.out.cell (World.block_lt_of_cell? w _ hx194_9)).trans hx194_9
                replace hx194_10 := (HB.out.cell (World.block_lt_of_cell? w _ hx194_10)).trans hx194_10
                replace p194 := eq_true p194
                replace q194 := eq_true q194
                refine start_ (n := 10) (S := fun w' => w'.cell? (ad193.add ((x5_1).toNat * 11)) = some (.string ((rd_T98 l0 x5_1).f0)) ∧ w'.cell? ⟨(ad193.add ((x5_1).toNat * 11)).block, (ad193.add ((x5_1).toNat * 11)).off + 1, none⟩ = some (.int .i64 ((rd_T98 l0 x5_1).f1)) ∧ w'.cell? ⟨(ad193.add ((x5_1).toNat * 11)).block, (ad193.add ((x5_1).toNat * 11)).off + 2, none⟩ = some (.int .i64 ((rd_T98 l0 x5_1).f2)) ∧ w'.cell? ⟨(ad193.add ((x5_1).toNat * 11)).block, (ad193.add ((x5_1).toNat * 11)).off + 3, none⟩ = some (.int .i64 ((rd_T98 l0 x5_1).f3.f0)) ∧ w'.cell? ⟨(ad193.add ((x5_1).toNat * 11)).block, (ad193.add ((x5_1).toNat * 11)).off + 4, none⟩ = some (.int .i64 ((rd_T98 l0 x5_1).f3.f1)) ∧ w'.cell? ⟨(ad193.add ((x5_1).toNat * 11)).block, (ad193.add ((x5_1).toNat * 11)).off + 5, none⟩ = some (.int .i64 ((rd_T98 l0 x5_1).f4.f0)) ∧ w'.cell? ⟨(ad193.add ((x5_1).toNat * 11)).block, (ad193.add ((x5_1).toNat * 11)).off + 6, none⟩ = some (.int .i64 ((rd_T98 l0 x5_1).f4.f1)) ∧ w'.cell? ⟨(ad193.add ((x5_1).toNat * 11)).block, (ad193.add ((x5_1).toNat * 11)).off + 7, none⟩ = some (.int .i64 ((rd_T98 l0 x5_1).f5.f0)) ∧ w'.cell? ⟨(ad193.add ((x5_1).toNat * 11)).block, (ad193.add ((x5_1).toNat * 11)).off + 8, none⟩ = some (.int .i64 ((rd_T98 l0 x5_1).f5.f1)) ∧ w'.cell? ⟨(ad193.add ((x5_1).toNat * 11)).block, (ad193.add ((x5_1).toNat * 11)).off + 9, none⟩ = some (.int .i64 ((rd_T98 l0 x5_1).f6.f0)) ∧ w'.cell? ⟨(ad193.add ((x5_1).toNat * 11)).block, (ad193.add ((x5_1).toNat * 11)).off + 10, none⟩ = some (.int .i64 ((rd_T98 l0 x5_1).f6.f1)) ∧ w'.cell? (ad194.add ((x5_1).toNat * 11)) = some (.string ((rd_T98 l1 x5_1).f0)) ∧ w'.cell? ⟨(ad194.add ((x5_1).toNat * 11)).block, (ad194.add ((x5_1).toNat * 11)).off + 1, none⟩ = some (.int .i64 ((rd_T98 l1 x5_1).f1)) ∧ w'.cell? ⟨(ad194.add ((x5_1).toNat * 11)).block, (ad194.add ((x5_1).toNat * 11)).off + 2, none⟩ = some (.int .i64 ((rd_T98 l1 x5_1).f2)) ∧ w'.cell? ⟨(ad194.add ((x5_1).toNat * 11)).block, (ad194.add ((x5_1).toNat * 11)).off + 3, none⟩ = some (.int .i64 ((rd_T98 l1 x5_1).f3.f0)) ∧ w'.cell? ⟨(ad194.add ((x5_1).toNat * 11)).block, (ad194.add ((x5_1).toNat * 11)).off + 4, none⟩ = some (.int .i64 ((rd_T98 l1 x5_1).f3.f1)) ∧ w'.cell? ⟨(ad194.add ((x5_1).toNat * 11)).block, (ad194.add ((x5_1).toNat * 11)).off + 5, none⟩ = some (.int .i64 ((rd_T98 l1 x5_1).f4.f0)) ∧ w'.cell? ⟨(ad194.add ((x5_1).toNat * 11)).block, (ad194.add ((x5_1).toNat * 11)).off + 6, none⟩ = some (.int .i64 ((rd_T98 l1 x5_1).f4.f1)) ∧ w'.cell? ⟨(ad194.add ((x5_1).toNat * 11)).block, (ad194.add ((x5_1).toNat * 11)).off + 7, none⟩ = some (.int .i64 ((rd_T98 l1 x5_1).f5.f0)) ∧ w'.cell? ⟨(ad194.add ((x5_1).toNat * 11)).block, (ad194.add ((x5_1).toNat * 11)).off + 8, none⟩ = some (.int .i64 ((rd_T98 l1 x5_1).f5.f1)) ∧ w'.cell? ⟨(ad194.add ((x5_1).toNat * 11)).block, (ad194.add ((x5_1).toNat * 11)).off + 9, none⟩ = some (.int .i64 ((rd_T98 l1 x5_1).f6.f0)) ∧ w'.cell? ⟨(ad194.add ((x5_1).toNat * 11)).block, (ad194.add ((x5_1).toNat * 11)).off + 10, none⟩ = some (.int .i64 ((rd_T98 l1 x5_1).f6.f1))) (ds := []) #[false, false, false, false, false, false, false, false, false, false] (by kernel_rfl) rfl rfl ⟨((HB.out.cell (World.block_lt_of_cell? w _ hw193_0)).trans hw193_0), ((HB.out.cell (World.block_lt_of_cell? w _ hw193_1)).trans hw193_1), ((HB.out.cell (World.block_lt_of_cell? w _ hw193_2)).trans hw193_2), ((HB.out.cell (World.block_lt_of_cell? w _ hw193_3)).trans hw193_3), ((HB.out.cell (World.block_lt_of_cell? w _ hw193_4)).trans hw193_4), ((HB.out.cell (World.block_lt_of_cell? w _ hw193_5)).trans hw193_5), ((HB.out.cell (World.block_lt_of_cell? w _ hw193_6)).trans hw193_6), ((HB.out.cell (World.block_lt_of_cell? w _ hw193_7)).trans hw193_7), ((HB.out.cell (World.block_lt_of_cell? w _ hw193_8)).trans hw193_8), ((HB.out.cell (World.block_lt_of_cell? w _ hw193_9)).trans hw193_9), ((HB.out.cell (World.block_lt_of_cell? w _ hw193_10)).trans hw193_10), ((HB.out.cell (World.block_lt_of_cell? w _ hw194_0)).trans hw194_0), ((HB.out.cell (World.block_lt_of_cell? w _ hw194_1)).trans hw194_1), ((HB.out.cell (World.block_lt_of_cell? w _ hw194_2)).trans hw194_2), ((HB.out.cell (World.block_lt_of_cell? w _ hw194_3)).trans hw194_3), ((HB.out.cell (World.block_lt_of_cell? w _ hw194_4)).trans hw194_4), ((HB.out.cell (World.block_lt_of_cell? w _ hw194_5)).trans hw194_5), ((HB.out.cell (World.block_lt_of_cell? w _ hw194_6)).trans hw194_6), ((HB.out.cell (World.block_lt_of_cell? w _ hw194_7)).trans hw194_7), ((HB.out.cell (World.block_lt_of_cell? w _ hw194_8)).trans hw194_8), ((HB.out.cell (World.block_lt_of_cell? w _ hw194_9)).trans hw194_9), ((HB.out.cell (World.block_lt_of_cell? w _ hw194_10)).trans hw194_10)⟩ (fun hHeld => ?_); refine with_tabW laws_eqTblCellS.tab6 laws_eqTblCellS.bits6 (fun HT_ HW_ => ?_)
                generalize wr.drew = w11 at HB hx193_0 hx193_1 hx193_10 hx193_2 hx193_3 hx193_4 hx193_5 hx193_6 hx193_7 hx193_8 hx193_9 hx194_0 hx194_1 hx194_10 hx194_2 hx194_3 hx194_4 hx194_5 hx194_6 hx194_7 hx194_8 hx194_9 hHeld ⊢
                refine pure_ (i := 0) (N := some 17) (v := ?_) (a' := ?_) #[true, false, false, false, false, false, false, false, false, false] rfl rfl (any_of HT_.out (by kernel_rfl)) (fun _ _ _ h => h) (Or.inl ⟨by rfl, ?_⟩) ?_ ?_
                rotate_left
                · intro w'
                  go_simp
                  with_reducible rfl
                rotate_left
                · simp only [Act.put, List.setIfInBounds_toArray, List.set_cons_zero, List.set_cons_succ, i64_w, i32_w]
                  rfl
                refine pure_ (i := 1) (N := some 18) (v := ?_) (a' := ?_) #[true, true, false, false, false, false, false, false, false, false] rfl rfl (any_of HT_.out (by kernel_rfl)) (fun _ _ _ h => h) (Or.inl ⟨by rfl, ?_⟩) ?_ ?_
                rotate_left
                · intro w'
                  go_simp
                  with_reducible rfl
                rotate_left
                · simp only [Act.put, List.setIfInBounds_toArray, List.set_cons_zero, List.set_cons_succ, i64_w, i32_w]
                  rfl
                refine pure_ (i := 2) (N := some 19) (v := ?_) (a' := ?_) #[true, true, true, false, false, false, false, false, false, false] rfl rfl (any_of HT_.out (by kernel_rfl)) (fun _ _ _ h => h) (Or.inl ⟨by rfl, ?_⟩) ?_ ?_
                rotate_left
                · intro w'
                  go_simp
                  with_reducible rfl
                rotate_left
                · simp only [Act.put, List.setIfInBounds_toArray, List.set_cons_zero, List.set_cons_succ, i64_w, i32_w]
                  rfl
                refine pure_ (i := 4) (N := some 21) (v := ?_) (a' := ?_) #[true, true, true, false, true, false, false, false, false, false] rfl rfl (any_of HT_.out (by kernel_rfl)) (fun _ _ _ h => h) (Or.inl ⟨by rfl, ?_⟩) ?_ ?_
                rotate_left
                · intro w'
                  go_simp
                  with_reducible rfl
                rotate_left
                · simp only [Act.put, List.setIfInBounds_toArray, List.set_cons_zero, List.set_cons_succ, i64_w, i32_w]
                  rfl
                refine pure_ (i := 5) (N := some 22) (v := ?_) (a' := ?_) #[true, true, true, false, true, true, false, false, false, false] rfl rfl (any_of HT_.out (by kernel_rfl)) (fun _ _ _ h => h) (Or.inl ⟨by rfl, ?_⟩) ?_ ?_
                rotate_left
                · intro w'
                  go_simp
                  with_reducible rfl
                rotate_left
                · simp only [Act.put, List.setIfInBounds_toArray, List.set_cons_zero, List.set_cons_succ, i64_w, i32_w]
                  rfl
                refine pure_ (i := 6) (N := some 23) (v := ?_) (a' := ?_) #[true, true, true, false, true, true, true, false, false, false] rfl rfl (any_of HT_.out (by kernel_rfl)) (fun _ _ _ h => h) (Or.inl ⟨by rfl, ?_⟩) ?_ ?_
                rotate_left
                · intro w'
                  go_simp
                  with_reducible rfl
                rotate_left
                · simp only [Act.put, List.setIfInBounds_toArray, List.set_cons_zero, List.set_cons_succ, i64_w, i32_w]
                  rfl
                refine take_ (i := 3) (N := some 20) (v := ?_) (a' := ?_) #[true, true, true, true, true, true, true, false, false, false] rfl rfl (take_ofW HT_.out HW_.out (by kernel_rfl)) (fun _ _ _ h => h) (Or.inl ⟨by rfl, ?_⟩) hHeld ?_ ?_
                rotate_left
                · rintro w' ⟨s0, s1, s2, s3, s4, s5, s6, s7, s8, s9, s10, s11, s12, s13, s14, s15, s16, s17, s18, s19, s20, s21⟩
                  go_simp
                  with_reducible rfl
                rotate_left
                · simp only [Act.put, List.setIfInBounds_toArray, List.set_cons_zero, List.set_cons_succ, i64_w, i32_w]
                  rfl
                refine take_ (i := 7) (N := some 24) (v := ?_) (a' := ?_) #[true, true, true, true, true, true, true, true, false, false] rfl rfl (take_ofW HT_.out HW_.out (by kernel_rfl)) (fun _ _ _ h => h) (Or.inl ⟨by rfl, ?_⟩) hHeld ?_ ?_
                rotate_left
                · rintro w' ⟨s0, s1, s2, s3, s4, s5, s6, s7, s8, s9, s10, s11, s12, s13, s14, s15, s16, s17, s18, s19, s20, s21⟩
                  go_simp
                  with_reducible rfl
                rotate_left
                · simp only [Act.put, List.setIfInBounds_toArray, List.set_cons_zero, List.set_cons_succ, i64_w, i32_w]
                  rfl
                refine one_ (i := 8) (N := some 25) #[true, true, true, true, true, true, true, true, true, false] rfl rfl (one_of HT_.out (by kernel_rfl)) (by decide) (fun K hK => ?_)
                refine goes_ Try.func59 (by kernel_rfl) rfl #[.agg #[.string ((rd_T98 l0 x5_1).f0), .int .i64 ((rd_T98 l0 x5_1).f1), .int .i64 ((rd_T98 l0 x5_1).f2), .int .i64 ((rd_T98 l0 x5_1).f3.f0), .int .i64 ((rd_T98 l0 x5_1).f3.f1), .int .i64 ((rd_T98 l0 x5_1).f4.f0), .int .i64 ((rd_T98 l0 x5_1).f4.f1), .int .i64 ((rd_T98 l0 x5_1).f5.f0), .int .i64 ((rd_T98 l0 x5_1).f5.f1), .int .i64 ((rd_T98 l0 x5_1).f6.f0), .int .i64 ((rd_T98 l0 x5_1).f6.f1)], .agg #[.string ((rd_T98 l1 x5_1).f0), .int .i64 ((rd_T98 l1 x5_1).f1), .int .i64 ((rd_T98 l1 x5_1).f2), .int .i64 ((rd_T98 l1 x5_1).f3.f0), .int .i64 ((rd_T98 l1 x5_1).f3.f1), .int .i64 ((rd_T98 l1 x5_1).f4.f0), .int .i64 ((rd_T98 l1 x5_1).f4.f1), .int .i64 ((rd_T98 l1 x5_1).f5.f0), .int .i64 ((rd_T98 l1 x5_1).f5.f1), .int .i64 ((rd_T98 l1 x5_1).f6.f0), .int .i64 ((rd_T98 l1 x5_1).f6.f1)]] (by rfl) rfl rfl (by (try simp only [List.map_toArray, List.map_cons, List.map_nil]); first | done | rfl | (simp only [List.length_drop, List.length_take]; rfl)) ?_
                with_reducible refine (laws_eqTblCell.calls ((rd_T98 l0 x5_1).f0) ((rd_T98 l0 x5_1).f1) ((rd_T98 l0 x5_1).f2) ((rd_T98 l0 x5_1).f3.f0) ((rd_T98 l0 x5_1).f3.f1) ((rd_T98 l0 x5_1).f4.f0) ((rd_T98 l0 x5_1).f4.f1) ((rd_T98 l0 x5_1).f5.f0) ((rd_T98 l0 x5_1).f5.f1) ((rd_T98 l0 x5_1).f6.f0) ((rd_T98 l0 x5_1).f6.f1) ((rd_T98 l1 x5_1).f0) ((rd_T98 l1 x5_1).f1) ((rd_T98 l1 x5_1).f2) ((rd_T98 l1 x5_1).f3.f0) ((rd_T98 l1 x5_1).f3.f1) ((rd_T98 l1 x5_1).f4.f0) ((rd_T98 l1 x5_1).f4.f1) ((rd_T98 l1 x5_1).f5.f0) ((rd_T98 l1 x5_1).f5.f1) ((rd_T98 l1 x5_1).f6.f0) ((rd_T98 l1 x5_1).f6.f1) false _ A7.out).mono ?_
                rintro e w12 ⟨rfl, hb⟩
                refine ⟨_, rfl, ?_⟩
                have n0_ := Aside0.mk (below_step (by repeat (first | (with_reducible first | exact HB.out | apply below_alloc | apply pw_below_drewN | apply below_drew1) | exact HB.out)) hb)
                clear HB
                have HB := n0_
                clear n0_
                (try clear hb)
                (try clear hb2)
                (try clear hk)
                (try clear hi)
                refine hK.out _ _ ⟨((HB.out.cell (World.block_lt_of_cell? w _ hw193_0)).trans hw193_0), ((HB.out.cell (World.block_lt_of_cell? w _ hw193_1)).trans hw193_1), ((HB.out.cell (World.block_lt_of_cell? w _ hw193_2)).trans hw193_2), ((HB.out.cell (World.block_lt_of_cell? w _ hw193_3)).trans hw193_3), ((HB.out.cell (World.block_lt_of_cell? w _ hw193_4)).trans hw193_4), ((HB.out.cell (World.block_lt_of_cell? w _ hw193_5)).trans hw193_5), ((HB.out.cell (World.block_lt_of_cell? w _ hw193_6)).trans hw193_6), ((HB.out.cell (World.block_lt_of_cell? w _ hw193_7)).trans hw193_7), ((HB.out.cell (World.block_lt_of_cell? w _ hw193_8)).trans hw193_8), ((HB.out.cell (World.block_lt_of_cell? w _ hw193_9)).trans hw193_9), ((HB.out.cell (World.block_lt_of_cell? w _ hw193_10)).trans hw193_10), ((HB.out.cell (World.block_lt_of_cell? w _ hw194_0)).trans hw194_0), ((HB.out.cell (World.block_lt_of_cell? w _ hw194_1)).trans hw194_1), ((HB.out.cell (World.block_lt_of_cell? w _ hw194_2)).trans hw194_2), ((HB.out.cell (World.block_lt_of_cell? w _ hw194_3)).trans hw194_3), ((HB.out.cell (World.block_lt_of_cell? w _ hw194_4)).trans hw194_4), ((HB.out.cell (World.block_lt_of_cell? w _ hw194_5)).trans hw194_5), ((HB.out.cell (World.block_lt_of_cell? w _ hw194_6)).trans hw194_6), ((HB.out.cell (World.block_lt_of_cell? w _ hw194_7)).trans hw194_7), ((HB.out.cell (World.block_lt_of_cell? w _ hw194_8)).trans hw194_8), ((HB.out.cell (World.block_lt_of_cell? w _ hw194_9)).trans hw194_9), ((HB.out.cell (World.block_lt_of_cell? w _ hw194_10)).trans hw194_10)⟩ (fun hHeld => ?_)
                clear hK K
                refine norm_ (a' := ?_) ?_ ?_
                rotate_left
                · show Act.put _ (some 25) _ = _
                  simp only [Act.put, List.setIfInBounds_toArray, List.set_cons_zero, List.set_cons_succ, i64_w, i32_w]
                  rfl
                refine pure_ (i := 9) (N := some 26) (v := ?_) (a' := ?_) #[true, true, true, true, true, true, true, true, true, true] rfl rfl (any_of HT_.out (by kernel_rfl)) (fun _ _ _ h => h) (Or.inl ⟨by rfl, ?_⟩) ?_ ?_
                rotate_left
                · intro w'
                  go_simp
                  with_reducible rfl
                rotate_left
                · simp only [Act.put, List.setIfInBounds_toArray, List.set_cons_zero, List.set_cons_succ, i64_w, i32_w]
                  rfl
                refine done_ (done_of HT_.out (by kernel_rfl)) ?_
                try go_wp2
                go_ret
                exact ⟨by first | rfl | (simp [errW_none, errW_some] <;> rfl) | (simp [*, errW_none, errW_some] <;> rfl), by repeat (first | (with_reducible first | exact HB.out | apply below_alloc | apply pw_below_drewN | apply below_drew1) | exact HB.out)⟩
            · rw [if_neg c6] at H
              exact absurd H (by simp)
          · rw [if_neg c5] at H
            exact absurd H (by simp)
        · rw [if_neg c4] at H
          have c4b0 : decide (x5_1 < (l0.length : Int)) = false := decide_eq_false c4
          clear c4
          obtain rfl := Option.some.inj H
          go_wp2
          go_ret
          exact ⟨by first | rfl | (simp [errW_none, errW_some] <;> rfl) | (simp [*, errW_none, errW_some] <;> rfl), by repeat (first | (with_reducible first | exact HB.out | apply below_alloc | apply pw_below_drewN | apply below_drew1) | exact HB.out)⟩
  · rw [if_neg c3] at H
    have c3b0 : ((l0.length : Int) == (l1.length : Int)) = false := beq_eq_false_iff_ne.mpr c3
    have c3b1 : ((l0.length : Int) != (l1.length : Int)) = true := bne_iff_ne.mpr c3
    have c3b2 : (l0.length == l1.length) = false := by first | simpa using c3 | (simp at c3 ⊢; omega)
    obtain rfl := Option.some.inj H
    go_enter Try.func56, Try.ntmps56
    go_wp2
    go_ret
    exact ⟨by first | rfl | (simp [errW_none, errW_some] <;> rfl) | (simp [*, errW_none, errW_some] <;> rfl), by repeat (first | (with_reducible first | exact HB.out | apply below_alloc | apply pw_below_drewN | apply below_drew1) | exact HB.out)⟩
end Go.Proofs.Ytemcdfkmpikegaa.Pr
