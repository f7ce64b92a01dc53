/- A part of what the claim of 'FnExactTblPart' leans on. -/
import Derived.Test.YtemcdfkmpikegaaDoorFnExactTblPartP0
import Derived.Test.YtemcdfkmpikegaaDoorFnExactTblPartPr60
namespace Go.Proofs.YtemcdfkmpikegaaDoor.Pr
open Go.RowKit Go.Proofs.YtemcdfkmpikegaaDoorW.PrintWords Go.Proofs.YtemcdfkmpikegaaDoorW.PrintLast Go.Proofs.YtemcdfkmpikegaaDoorW.PrintMore
attribute [local go_sem] max2_int min2_int max_two min_two max_three min_three max_four min_four
set_option linter.unusedVariables false
set_option linter.unusedSimpArgs false
def laws_eqTblCellS.l0 : Nat → List (S50) → List (S50) → Int → Option (Bool)
  | 0, _, _, _ => none
  | k + 1, x0, x1, x5 => if x5 < (x0.length : Int) then (if 0 ≤ x5 then (if x5 < (x1.length : Int) then ((laws_eqTblCell.f ((rd_T50 x0 x5).f0) ((rd_T50 x0 x5).f1) ((rd_T50 x0 x5).f2) ((rd_T50 x0 x5).f3.f0) ((rd_T50 x0 x5).f3.f1) ((rd_T50 x0 x5).f4.f0) ((rd_T50 x0 x5).f4.f1) ((rd_T50 x0 x5).f5.f0) ((rd_T50 x0 x5).f5.f1) ((rd_T50 x0 x5).f6.f0) ((rd_T50 x0 x5).f6.f1) ((rd_T50 x1 x5).f0) ((rd_T50 x1 x5).f1) ((rd_T50 x1 x5).f2) ((rd_T50 x1 x5).f3.f0) ((rd_T50 x1 x5).f3.f1) ((rd_T50 x1 x5).f4.f0) ((rd_T50 x1 x5).f4.f1) ((rd_T50 x1 x5).f5.f0) ((rd_T50 x1 x5).f5.f1) ((rd_T50 x1 x5).f6.f0) ((rd_T50 x1 x5).f6.f1)).bind fun t245 => (if t245 = true then (laws_eqTblCellS.l0 k x0 x1 (wrap64 (x5 + 1))) else (some false))) else (none)) else (none)) else (some true)
def laws_eqTblCellS.f (k : Nat) (l0 : List (S50)) (l1 : List (S50)) : Option (Bool) := if (l0.length : Int) = (l1.length : Int) then (laws_eqTblCellS.l0 k l0 l1 0) else (some false)
theorem laws_eqTblCellS.mono_l : ∀ k, (∀ y0 y1 y2, LeO (laws_eqTblCellS.l0 k y0 y1 y2) (laws_eqTblCellS.l0 (k + 1) y0 y1 y2))
  | 0 => fun _ _ _ r h => by simp [laws_eqTblCellS.l0] at h
  | k + 1 => by
    have ih0 := laws_eqTblCellS.mono_l k
    · intro y0 y1 y2
      unfold laws_eqTblCellS.l0
      repeat' first
      | (with_reducible exact ih0 _ _ _)
      | (with_reducible exact LeO.refl _)
      | (with_reducible exact LeO.none _)
      | (with_reducible refine LeO.ite ?_ ?_)
      | (with_reducible refine LeO.bind ?_ (fun _ => ?_))
      | exact ih0 _ _ _
      | exact LeO.none _
      | refine LeO.ite ?_ ?_
      | refine LeO.bind ?_ (fun _ => ?_)
theorem laws_eqTblCellS.mono : ∀ a0 a1 k, LeO (laws_eqTblCellS.f k a0 a1) (laws_eqTblCellS.f (k + 1) a0 a1) := by
  intro a0 a1 k
  have ih0 := laws_eqTblCellS.mono_l k
  unfold laws_eqTblCellS.f
  repeat' first
      | (with_reducible exact ih0 _ _ _)
      | (with_reducible exact LeO.refl _)
      | (with_reducible exact LeO.none _)
      | (with_reducible refine LeO.ite ?_ ?_)
      | (with_reducible refine LeO.bind ?_ (fun _ => ?_))
      | exact ih0 _ _ _
      | exact LeO.none _
      | refine LeO.ite ?_ ?_
      | refine LeO.bind ?_ (fun _ => ?_)
def laws_eqTblCellS.T6 : Bool × List (List Nat × List Nat) := (true, [([], []), ([], []), ([0, 1], [0, 1]), ([2], [2]), ([], []), ([], []), ([4, 5], [4, 5]), ([6], [6]), ([3, 7], [3, 7]), ([8], [8])])
def laws_eqTblCellS.B6 : List Nat := [0, 0, 3, 7, 0, 0, 48, 112, 255, 511]
theorem laws_eqTblCellS.tab6 : rtab .any (opsOf Tryd.f49 6) = laws_eqTblCellS.T6 := by kernel_rfl
theorem laws_eqTblCellS.bits6 : waitsOk laws_eqTblCellS.T6.2 laws_eqTblCellS.B6 = true := by kernel_rfl
set_option maxHeartbeats 8000000 in
set_option maxRecDepth 100000 in
theorem laws_eqTblCellS.calls (k : Nat) (A0 : Option Addr) (c0 : Nat) (l0 : List (S50)) (A1 : Option Addr) (c1 : Nat) (l1 : List (S50)) (r : Bool) (w : World) (hr0 : Kd.C k50 w A0 l0.length l0) (hc0 : l0.length ≤ c0) (hr1 : Kd.C k50 w A1 l1.length l1) (hc1 : l1.length ≤ c1) (h : laws_eqTblCellS.f k l0 l1 = some r) :
    Calls Tryd.prog 49 #[.slice A0 l0.length c0, .slice A1 l1.length c1] w fun e w' => e = .returned (.bool r) ∧ Below w.heap.size w w' := by
  have hu50 := Tryd.underlying50
  have HR0 := Aside0.mk hr0
  have HC0 := Aside0.mk hc0
  clear hr0 hc0
  have HR1 := Aside0.mk hr1
  have HC1 := Aside0.mk hc1
  clear hr1 hc1
  have HB := Aside0.mk (Below.refl w.heap.size w)
  have H : (if (l0.length : Int) = (l1.length : Int) then (laws_eqTblCellS.l0 k l0 l1 0) else (some false)) = some r := h
  clear h
  by_cases c3 : (l0.length : Int) = (l1.length : Int)
  · rw [if_pos c3] at H
    have c3b0 : ((l0.length : Int) == (l1.length : Int)) = true := beq_iff_eq.mpr c3
    have c3b1 : ((l0.length : Int) != (l1.length : Int)) = false := bne_eq_false_iff_eq.mpr c3
    have c3b2 : (l0.length == l1.length) = true := by first | simpa using c3 | (simp at c3 ⊢; omega)
    clear c3
    have H' := Aside0.mk H
    clear H
    go_enter Tryd.func49, Tryd.ntmps49
    go_wp2
    go_loopg [5] k (fun kq v5 w' => ∃ (x5_1 : Int), v5 = .int .i64 x5_1 ∧ Aside0 (laws_eqTblCellS.l0 kq l0 l1 x5_1 = some r) ∧ Aside0 (kq ≤ k) ∧ Aside0 (Below w.heap.size w w'))
    case atStart => exact ⟨(0), (by first | rfl | (simp; done) | (simp [*]; done)), H', ⟨Nat.le_refl _⟩, ⟨by repeat (first | (with_reducible first | exact HB.out | apply below_alloc | apply pw_below_drewN | apply below_drew1) | exact HB.out)⟩⟩
    case round =>
      clear H'
      try clear c1
      try clear p2
      try clear c3
      try clear c3b0
      try clear c3b1
      try clear c3b2
      obtain ⟨x5_1, rfl, HA, HK1, HB⟩ := hrel
      cases gk with
      | zero => exact absurd HA.out (by simp [laws_eqTblCellS.l0])
      | succ k1 =>
        have H := HA.out
        clear HA
        simp only [laws_eqTblCellS.l0] at H
        by_cases c4 : x5_1 < (l0.length : Int)
        · rw [if_pos c4] at H
          have c4b0 : decide (x5_1 < (l0.length : Int)) = true := decide_eq_true c4
          clear c4
          by_cases c5 : 0 ≤ x5_1
          · rw [if_pos c5] at H
            have c5b0 : decide (0 ≤ x5_1) = true := decide_eq_true c5
            clear c5
            by_cases c6 : x5_1 < (l1.length : Int)
            · rw [if_pos c6] at H
              have c6b0 : decide (x5_1 < (l1.length : Int)) = true := decide_eq_true c6
              clear c6
              replace H := Option.bind_eq_some_iff.mp H
              obtain ⟨t245, A70, H⟩ := H
              replace H : (if t245 = true then (laws_eqTblCellS.l0 k1 l0 l1 (wrap64 (x5_1 + 1))) else (some false)) = some r := H
              have A7 := Aside0.mk A70
              clear A70
              by_cases c8 : t245 = true
              · subst c8
                have H1 : (laws_eqTblCellS.l0 k1 l0 l1 (wrap64 (x5_1 + 1))) = some r := by rw [if_pos rfl] at H; exact H
                clear H
                have H := H1
                clear H1
                have H' := Aside0.mk H
                clear H
                try go_wp2
                have n0_ := Aside0.mk (below_drew1 HB.out)
                clear HB
                have HB := n0_
                clear n0_
                have p243 : 0 ≤ (x5_1 : Int) := of_decide_eq_true (by first | (with_reducible assumption) | assumption)
                have q243 : x5_1 < (l0.length : Int) := of_decide_eq_true (by first | (with_reducible assumption) | assumption)
                obtain ⟨ad243, e243, hx243_0, hx243_1, hx243_2, hx243_3, hx243_4, hx243_5, hx243_6, hx243_7, hx243_8, hx243_9, hx243_10⟩ := at_T50 HR0.out x5_1 p243 q243
                have hw243_10 := hx243_10
                have hw243_9 := hx243_9
                have hw243_8 := hx243_8
                have hw243_7 := hx243_7
                have hw243_6 := hx243_6
                have hw243_5 := hx243_5
                have hw243_4 := hx243_4
                have hw243_3 := hx243_3
                have hw243_2 := hx243_2
                have hw243_1 := hx243_1
                have hw243_0 := hx243_0
                cases e243
                replace hx243_0 := (HB.out.cell (World.block_lt_of_cell? w _ hx243_0)).trans hx243_0
                replace hx243_1 := (HB.out.cell (World.block_lt_of_cell? w _ hx243_1)).trans hx243_1
                replace hx243_2 := (HB.out.cell (World.block_lt_of_cell? w _ hx243_2)).trans hx243_2
                replace hx243_3 := (HB.out.cell (World.block_lt_of_cell? w _ hx243_3)).trans hx243_3
                replace hx243_4 := (HB.out.cell (World.block_lt_of_cell? w _ hx243_4)).trans hx243_4
                replace hx243_5 := (HB.out.cell (World.block_lt_of_cell? w _ hx243_5)).trans hx243_5
                replace hx243_6 := (HB.out.cell (World.block_lt_of_cell? w _ hx243_6)).trans hx243_6
                replace hx243_7 := (HB.out.cell (World.block_lt_of_cell? w _ hx243_7)).trans hx243_7
                replace hx243_8 := (HB.out.cell (World.block_lt_of_cell? w _ hx243_8)).trans hx243_8
                replace hx243_9 := (HB.out.cell (World.block_lt_of_cell? w _ hx243_9)).trans hx243_9
                replace hx243_10 := (HB.out.cell (World.block_lt_of_cell? w _ hx243_10)).trans hx243_10
                replace p243 := eq_true p243
                replace q243 := eq_true q243
                have p244 : 0 ≤ (x5_1 : Int) := of_decide_eq_true (by first | (with_reducible assumption) | assumption)
                have q244 : x5_1 < (l1.length : Int) := of_decide_eq_true (by first | (with_reducible assumption) | assumption)
                obtain ⟨ad244, e244, hx244_0, hx244_1, hx244_2, hx244_3, hx244_4, hx244_5, hx244_6, hx244_7, hx244_8, hx244_9, hx244_10⟩ := at_T50 HR1.out x5_1 p244 q244
                have hw244_10 := hx244_10
                have hw244_9 := hx244_9
                have hw244_8 := hx244_8
                have hw244_7 := hx244_7
                have hw244_6 := hx244_6
                have hw244_5 := hx244_5
                have hw244_4 := hx244_4
                have hw244_3 := hx244_3
                have hw244_2 := hx244_2
                have hw244_1 := hx244_1
                have hw244_0 := hx244_0
                cases e244
                replace hx244_0 := (HB.out.cell (World.block_lt_of_cell? w _ hx244_0)).trans hx244_0
                replace hx244_1 := (HB.out.cell (World.block_lt_of_cell? w _ hx244_1)).trans hx244_1
                replace hx244_2 := (HB.out.cell (World.block_lt_of_cell? w _ hx244_2)).trans hx244_2
                replace hx244_3 := (HB.out.cell (World.block_lt_of_cell? w _ hx244_3)).trans hx244_3
                replace hx244_4 := (HB.out.cell (World.block_lt_of_cell? w _ hx244_4)).trans hx244_4
                replace hx244_5 := (HB.out.cell (World.block_lt_of_cell? w _ hx244_5)).trans hx244_5
                replace hx244_6 := (HB.out.cell (World.block_lt_of_cell? w _ hx244_6)).trans hx244_6
                replace hx244_7 := (HB.out.cell (World.block_lt_of_cell? w _ hx244_7)).trans hx244_7
                replace hx244_8 := (HB.out.cell (World.block_lt_of_cell? w _ hx244_8)).trans hx244_8
                replace hx244_9 := (HB.out.cell (World.block_lt_of_cell? w _ hx244_9)).trans hx244_9
                replace hx244_10 := (HB.out.cell (World.block_lt_of_cell? w _ hx244_10)).trans hx244_10
                replace p244 := eq_true p244
                replace q244 := eq_true q244
                refine start_ (n := 10) (S := fun w' => w'.cell? (ad243.add ((x5_1).toNat * 11)) = some (.string ((rd_T50 l0 x5_1).f0)) ∧ w'.cell? ⟨(ad243.add ((x5_1).toNat * 11)).block, (ad243.add ((x5_1).toNat * 11)).off + 1, none⟩ = some (.int .i64 ((rd_T50 l0 x5_1).f1)) ∧ w'.cell? ⟨(ad243.add ((x5_1).toNat * 11)).block, (ad243.add ((x5_1).toNat * 11)).off + 2, none⟩ = some (.int .i64 ((rd_T50 l0 x5_1).f2)) ∧ w'.cell? ⟨(ad243.add ((x5_1).toNat * 11)).block, (ad243.add ((x5_1).toNat * 11)).off + 3, none⟩ = some (.int .i64 ((rd_T50 l0 x5_1).f3.f0)) ∧ w'.cell? ⟨(ad243.add ((x5_1).toNat * 11)).block, (ad243.add ((x5_1).toNat * 11)).off + 4, none⟩ = some (.int .i64 ((rd_T50 l0 x5_1).f3.f1)) ∧ w'.cell? ⟨(ad243.add ((x5_1).toNat * 11)).block, (ad243.add ((x5_1).toNat * 11)).off + 5, none⟩ = some (.int .i64 ((rd_T50 l0 x5_1).f4.f0)) ∧ w'.cell? ⟨(ad243.add ((x5_1).toNat * 11)).block, (ad243.add ((x5_1).toNat * 11)).off + 6, none⟩ = some (.int .i64 ((rd_T50 l0 x5_1).f4.f1)) ∧ w'.cell? ⟨(ad243.add ((x5_1).toNat * 11)).block, (ad243.add ((x5_1).toNat * 11)).off + 7, none⟩ = some (.int .i64 ((rd_T50 l0 x5_1).f5.f0)) ∧ w'.cell? ⟨(ad243.add ((x5_1).toNat * 11)).block, (ad243.add ((x5_1).toNat * 11)).off + 8, none⟩ = some (.int .i64 ((rd_T50 l0 x5_1).f5.f1)) ∧ w'.cell? ⟨(ad243.add ((x5_1).toNat * 11)).block, (ad243.add ((x5_1).toNat * 11)).off + 9, none⟩ = some (.int .i64 ((rd_T50 l0 x5_1).f6.f0)) ∧ w'.cell? ⟨(ad243.add ((x5_1).toNat * 11)).block, (ad243.add ((x5_1).toNat * 11)).off + 10, none⟩ = some (.int .i64 ((rd_T50 l0 x5_1).f6.f1)) ∧ w'.cell? (ad244.add ((x5_1).toNat * 11)) = some (.string ((rd_T50 l1 x5_1).f0)) ∧ w'.cell? ⟨(ad244.add ((x5_1).toNat * 11)).block, (ad244.add ((x5_1).toNat * 11)).off + 1, none⟩ = some (.int .i64 ((rd_T50 l1 x5_1).f1)) ∧ w'.cell? ⟨(ad244.add ((x5_1).toNat * 11)).block, (ad244.add ((x5_1).toNat * 11)).off + 2, none⟩ = some (.int .i64 ((rd_T50 l1 x5_1).f2)) ∧ w'.cell? ⟨(ad244.add ((x5_1).toNat * 11)).block, (ad244.add ((x5_1).toNat * 11)).off + 3, none⟩ = some (.int .i64 ((rd_T50 l1 x5_1).f3.f0)) ∧ w'.cell? ⟨(ad244.add ((x5_1).toNat * 11)).block, (ad244.add ((x5_1).toNat * 11)).off + 4, none⟩ = some (.int .i64 ((rd_T50 l1 x5_1).f3.f1)) ∧ w'.cell? ⟨(ad244.add ((x5_1).toNat * 11)).block, (ad244.add ((x5_1).toNat * 11)).off + 5, none⟩ = some (.int .i64 ((rd_T50 l1 x5_1).f4.f0)) ∧ w'.cell? ⟨(ad244.add ((x5_1).toNat * 11)).block, (ad244.add ((x5_1).toNat * 11)).off + 6, none⟩ = some (.int .i64 ((rd_T50 l1 x5_1).f4.f1)) ∧ w'.cell? ⟨(ad244.add ((x5_1).toNat * 11)).block, (ad244.add ((x5_1).toNat * 11)).off + 7, none⟩ = some (.int .i64 ((rd_T50 l1 x5_1).f5.f0)) ∧ w'.cell? ⟨(ad244.add ((x5_1).toNat * 11)).block, (ad244.add ((x5_1).toNat * 11)).off + 8, none⟩ = some (.int .i64 ((rd_T50 l1 x5_1).f5.f1)) ∧ w'.cell? ⟨(ad244.add ((x5_1).toNat * 11)).block, (ad244.add ((x5_1).toNat * 11)).off + 9, none⟩ = some (.int .i64 ((rd_T50 l1 x5_1).f6.f0)) ∧ w'.cell? ⟨(ad244.add ((x5_1).toNat * 11)).block, (ad244.add ((x5_1).toNat * 11)).off + 10, none⟩ = some (.int .i64 ((rd_T50 l1 x5_1).f6.f1))) (ds := []) #[false, false, false, false, false, false, false, false, false, false] (by kernel_rfl) rfl rfl ⟨((HB.out.cell (World.block_lt_of_cell? w _ hw243_0)).trans hw243_0), ((HB.out.cell (World.block_lt_of_cell? w _ hw243_1)).trans hw243_1), ((HB.out.cell (World.block_lt_of_cell? w _ hw243_2)).trans hw243_2), ((HB.out.cell (World.block_lt_of_cell? w _ hw243_3)).trans hw243_3), ((HB.out.cell (World.block_lt_of_cell? w _ hw243_4)).trans hw243_4), ((HB.out.cell (World.block_lt_of_cell? w _ hw243_5)).trans hw243_5), ((HB.out.cell (World.block_lt_of_cell? w _ hw243_6)).trans hw243_6), ((HB.out.cell (World.block_lt_of_cell? w _ hw243_7)).trans hw243_7), ((HB.out.cell (World.block_lt_of_cell? w _ hw243_8)).trans hw243_8), ((HB.out.cell (World.block_lt_of_cell? w _ hw243_9)).trans hw243_9), ((HB.out.cell (World.block_lt_of_cell? w _ hw243_10)).trans hw243_10), ((HB.out.cell (World.block_lt_of_cell? w _ hw244_0)).trans hw244_0), ((HB.out.cell (World.block_lt_of_cell? w _ hw244_1)).trans hw244_1), ((HB.out.cell (World.block_lt_of_cell? w _ hw244_2)).trans hw244_2), ((HB.out.cell (World.block_lt_of_cell? w _ hw244_3)).trans hw244_3), ((HB.out.cell (World.block_lt_of_cell? w _ hw244_4)).trans hw244_4), ((HB.out.cell (World.block_lt_of_cell? w _ hw244_5)).trans hw244_5), ((HB.out.cell (World.block_lt_of_cell? w _ hw244_6)).trans hw244_6), ((HB.out.cell (World.block_lt_of_cell? w _ hw244_7)).trans hw244_7), ((HB.out.cell (World.block_lt_of_cell? w _ hw244_8)).trans hw244_8), ((HB.out.cell (World.block_lt_of_cell? w _ hw244_9)).trans hw244_9), ((HB.out.cell (World.block_lt_of_cell? w _ hw244_10)).trans hw244_10)⟩ (fun hHeld => ?_); refine with_tabW laws_eqTblCellS.tab6 laws_eqTblCellS.bits6 (fun HT_ HW_ => ?_)
                generalize wr.drew = w9 at HB hx243_0 hx243_1 hx243_10 hx243_2 hx243_3 hx243_4 hx243_5 hx243_6 hx243_7 hx243_8 hx243_9 hx244_0 hx244_1 hx244_10 hx244_2 hx244_3 hx244_4 hx244_5 hx244_6 hx244_7 hx244_8 hx244_9 hHeld ⊢
                refine pure_ (i := 0) (N := some 17) (v := ?_) (a' := ?_) #[true, false, false, false, false, false, false, false, false, false] rfl rfl (any_of HT_.out (by kernel_rfl)) (fun _ _ _ h => h) (Or.inl ⟨by rfl, ?_⟩) ?_ ?_
                rotate_left
                · intro w'
                  go_simp
                  with_reducible rfl
                rotate_left
                · simp only [Act.put, List.setIfInBounds_toArray, List.set_cons_zero, List.set_cons_succ, i64_w, i32_w]
                  rfl
                refine pure_ (i := 1) (N := some 18) (v := ?_) (a' := ?_) #[true, true, false, false, false, false, false, false, false, false] rfl rfl (any_of HT_.out (by kernel_rfl)) (fun _ _ _ h => h) (Or.inl ⟨by rfl, ?_⟩) ?_ ?_
                rotate_left
                · intro w'
                  go_simp
                  with_reducible rfl
                rotate_left
                · simp only [Act.put, List.setIfInBounds_toArray, List.set_cons_zero, List.set_cons_succ, i64_w, i32_w]
                  rfl
                refine pure_ (i := 2) (N := some 19) (v := ?_) (a' := ?_) #[true, true, true, false, false, false, false, false, false, false] rfl rfl (any_of HT_.out (by kernel_rfl)) (fun _ _ _ h => h) (Or.inl ⟨by rfl, ?_⟩) ?_ ?_
                rotate_left
                · intro w'
                  go_simp
                  with_reducible rfl
                rotate_left
                · simp only [Act.put, List.setIfInBounds_toArray, List.set_cons_zero, List.set_cons_succ, i64_w, i32_w]
                  rfl
                refine pure_ (i := 4) (N := some 21) (v := ?_) (a' := ?_) #[true, true, true, false, true, false, false, false, false, false] rfl rfl (any_of HT_.out (by kernel_rfl)) (fun _ _ _ h => h) (Or.inl ⟨by rfl, ?_⟩) ?_ ?_
                rotate_left
                · intro w'
                  go_simp
                  with_reducible rfl
                rotate_left
                · simp only [Act.put, List.setIfInBounds_toArray, List.set_cons_zero, List.set_cons_succ, i64_w, i32_w]
                  rfl
                refine pure_ (i := 5) (N := some 22) (v := ?_) (a' := ?_) #[true, true, true, false, true, true, false, false, false, false] rfl rfl (any_of HT_.out (by kernel_rfl)) (fun _ _ _ h => h) (Or.inl ⟨by rfl, ?_⟩) ?_ ?_
                rotate_left
                · intro w'
                  go_simp
                  with_reducible rfl
                rotate_left
                · simp only [Act.put, List.setIfInBounds_toArray, List.set_cons_zero, List.set_cons_succ, i64_w, i32_w]
                  rfl
                refine pure_ (i := 6) (N := some 23) (v := ?_) (a' := ?_) #[true, true, true, false, true, true, true, false, false, false] rfl rfl (any_of HT_.out (by kernel_rfl)) (fun _ _ _ h => h) (Or.inl ⟨by rfl, ?_⟩) ?_ ?_
                rotate_left
                · intro w'
                  go_simp
                  with_reducible rfl
                rotate_left
                · simp only [Act.put, List.setIfInBounds_toArray, List.set_cons_zero, List.set_cons_succ, i64_w, i32_w]
                  rfl
                refine take_ (i := 3) (N := some 20) (v := ?_) (a' := ?_) #[true, true, true, true, true, true, true, false, false, false] rfl rfl (take_ofW HT_.out HW_.out (by kernel_rfl)) (fun _ _ _ h => h) (Or.inl ⟨by rfl, ?_⟩) hHeld ?_ ?_
                rotate_left
                · rintro w' ⟨s0, s1, s2, s3, s4, s5, s6, s7, s8, s9, s10, s11, s12, s13, s14, s15, s16, s17, s18, s19, s20, s21⟩
                  go_simp
                  with_reducible rfl
                rotate_left
                · simp only [Act.put, List.setIfInBounds_toArray, List.set_cons_zero, List.set_cons_succ, i64_w, i32_w]
                  rfl
                refine take_ (i := 7) (N := some 24) (v := ?_) (a' := ?_) #[true, true, true, true, true, true, true, true, false, false] rfl rfl (take_ofW HT_.out HW_.out (by kernel_rfl)) (fun _ _ _ h => h) (Or.inl ⟨by rfl, ?_⟩) hHeld ?_ ?_
                rotate_left
                · rintro w' ⟨s0, s1, s2, s3, s4, s5, s6, s7, s8, s9, s10, s11, s12, s13, s14, s15, s16, s17, s18, s19, s20, s21⟩
                  go_simp
                  with_reducible rfl
                rotate_left
                · simp only [Act.put, List.setIfInBounds_toArray, List.set_cons_zero, List.set_cons_succ, i64_w, i32_w]
                  rfl
                refine one_ (i := 8) (N := some 25) #[true, true, true, true, true, true, true, true, true, false] rfl rfl (one_of HT_.out (by kernel_rfl)) (by decide) (fun K hK => ?_)
                refine goes_ Tryd.func60 (by kernel_rfl) rfl #[.agg #[.string ((rd_T50 l0 x5_1).f0), .int .i64 ((rd_T50 l0 x5_1).f1), .int .i64 ((rd_T50 l0 x5_1).f2), .int .i64 ((rd_T50 l0 x5_1).f3.f0), .int .i64 ((rd_T50 l0 x5_1).f3.f1), .int .i64 ((rd_T50 l0 x5_1).f4.f0), .int .i64 ((rd_T50 l0 x5_1).f4.f1), .int .i64 ((rd_T50 l0 x5_1).f5.f0), .int .i64 ((rd_T50 l0 x5_1).f5.f1), .int .i64 ((rd_T50 l0 x5_1).f6.f0), .int .i64 ((rd_T50 l0 x5_1).f6.f1)], .agg #[.string ((rd_T50 l1 x5_1).f0), .int .i64 ((rd_T50 l1 x5_1).f1), .int .i64 ((rd_T50 l1 x5_1).f2), .int .i64 ((rd_T50 l1 x5_1).f3.f0), .int .i64 ((rd_T50 l1 x5_1).f3.f1), .int .i64 ((rd_T50 l1 x5_1).f4.f0), .int .i64 ((rd_T50 l1 x5_1).f4.f1), .int .i64 ((rd_T50 l1 x5_1).f5.f0), .int .i64 ((rd_T50 l1 x5_1).f5.f1), .int .i64 ((rd_T50 l1 x5_1).f6.f0), .int .i64 ((rd_T50 l1 x5_1).f6.f1)]] (by rfl) rfl rfl (by (try simp only [List.map_toArray, List.map_cons, List.map_nil]); first | done | rfl | (simp only [List.length_drop, List.length_take]; rfl)) ?_
                with_reducible refine (laws_eqTblCell.calls ((rd_T50 l0 x5_1).f0) ((rd_T50 l0 x5_1).f1) ((rd_T50 l0 x5_1).f2) ((rd_T50 l0 x5_1).f3.f0) ((rd_T50 l0 x5_1).f3.f1) ((rd_T50 l0 x5_1).f4.f0) ((rd_T50 l0 x5_1).f4.f1) ((rd_T50 l0 x5_1).f5.f0) ((rd_T50 l0 x5_1).f5.f1) ((rd_T50 l0 x5_1).f6.f0) ((rd_T50 l0 x5_1).f6.f1) ((rd_T50 l1 x5_1).f0) ((rd_T50 l1 x5_1).f1) ((rd_T50 l1 x5_1).f2) ((rd_T50 l1 x5_1).f3.f0) ((rd_T50 l1 x5_1).f3.f1) ((rd_T50 l1 x5_1).f4.f0) ((rd_T50 l1 x5_1).f4.f1) ((rd_T50 l1 x5_1).f5.f0) ((rd_T50 l1 x5_1).f5.f1) ((rd_T50 l1 x5_1).f6.f0) ((rd_T50 l1 x5_1).f6.f1) true _ A7.out).mono ?_
                rintro e w10 ⟨rfl, hb⟩
                refine ⟨_, rfl, ?_⟩
                have n0_ := Aside0.mk (below_step (by repeat (first | (with_reducible first | exact HB.out | apply below_alloc | apply pw_below_drewN | apply below_drew1) | exact HB.out)) hb)
                clear HB
                have HB := n0_
                clear n0_
                (try clear hb)
                (try clear hb2)
                (try clear hk)
                (try clear hi)
                refine hK.out _ _ ⟨((HB.out.cell (World.block_lt_of_cell? w _ hw243_0)).trans hw243_0), ((HB.out.cell (World.block_lt_of_cell? w _ hw243_1)).trans hw243_1), ((HB.out.cell (World.block_lt_of_cell? w _ hw243_2)).trans hw243_2), ((HB.out.cell (World.block_lt_of_cell? w _ hw243_3)).trans hw243_3), ((HB.out.cell (World.block_lt_of_cell? w _ hw243_4)).trans hw243_4), ((HB.out.cell (World.block_lt_of_cell? w _ hw243_5)).trans hw243_5), ((HB.out.cell (World.block_lt_of_cell? w _ hw243_6)).trans hw243_6), ((HB.out.cell (World.block_lt_of_cell? w _ hw243_7)).trans hw243_7), ((HB.out.cell (World.block_lt_of_cell? w _ hw243_8)).trans hw243_8), ((HB.out.cell (World.block_lt_of_cell? w _ hw243_9)).trans hw243_9), ((HB.out.cell (World.block_lt_of_cell? w _ hw243_10)).trans hw243_10), ((HB.out.cell (World.block_lt_of_cell? w _ hw244_0)).trans hw244_0), ((HB.out.cell (World.block_lt_of_cell? w _ hw244_1)).trans hw244_1), ((HB.out.cell (World.block_lt_of_cell? w _ hw244_2)).trans hw244_2), ((HB.out.cell (World.block_lt_of_cell? w _ hw244_3)).trans hw244_3), ((HB.out.cell (World.block_lt_of_cell? w _ hw244_4)).trans hw244_4), ((HB.out.cell (World.block_lt_of_cell? w _ hw244_5)).trans hw244_5), ((HB.out.cell (World.block_lt_of_cell? w _ hw244_6)).trans hw244_6), ((HB.out.cell (World.block_lt_of_cell? w _ hw244_7)).trans hw244_7), ((HB.out.cell (World.block_lt_of_cell? w _ hw244_8)).trans hw244_8), ((HB.out.cell (World.block_lt_of_cell? w _ hw244_9)).trans hw244_9), ((HB.out.cell (World.block_lt_of_cell? w _ hw244_10)).trans hw244_10)⟩ (fun hHeld => ?_)
                clear hK K
                refine norm_ (a' := ?_) ?_ ?_
                rotate_left
                · show Act.put _ (some 25) _ = _
                  simp only [Act.put, List.setIfInBounds_toArray, List.set_cons_zero, List.set_cons_succ, i64_w, i32_w]
                  rfl
                refine pure_ (i := 9) (N := some 26) (v := ?_) (a' := ?_) #[true, true, true, true, true, true, true, true, true, true] rfl rfl (any_of HT_.out (by kernel_rfl)) (fun _ _ _ h => h) (Or.inl ⟨by rfl, ?_⟩) ?_ ?_
                rotate_left
                · intro w'
                  go_simp
                  with_reducible rfl
                rotate_left
                · simp only [Act.put, List.setIfInBounds_toArray, List.set_cons_zero, List.set_cons_succ, i64_w, i32_w]
                  rfl
                refine done_ (done_of HT_.out (by kernel_rfl)) ?_
                try go_wp2
                go_roundg k1
                case measure => have := HK1.out; omega
                case rel => exact ⟨(wrap64 (x5_1 + 1)), (by first | rfl | (simp; done) | (simp [*]; done)), H', ⟨by have := HK1.out; omega⟩, ⟨by repeat (first | (with_reducible first | exact HB.out | apply below_alloc | apply pw_below_drewN | apply below_drew1) | exact HB.out)⟩⟩
              · replace c8 := Bool.eq_false_iff.mpr c8
                subst c8
                have H1 : (some false) = some r := by rw [if_neg (show ¬ (false = true) by decide)] at H; exact H
                clear H
                have H := H1
                clear H1
                obtain rfl := Option.some.inj H
                try go_wp2
                have n0_ := Aside0.mk (below_drew1 HB.out)
                clear HB
                have HB := n0_
                clear n0_
                have p243 : 0 ≤ (x5_1 : Int) := of_decide_eq_true (by first | (with_reducible assumption) | assumption)
                have q243 : x5_1 < (l0.length : Int) := of_decide_eq_true (by first | (with_reducible assumption) | assumption)
                obtain ⟨ad243, e243, hx243_0, hx243_1, hx243_2, hx243_3, hx243_4, hx243_5, hx243_6, hx243_7, hx243_8, hx243_9, hx243_10⟩ := at_T50 HR0.out x5_1 p243 q243
                have hw243_10 := hx243_10
                have hw243_9 := hx243_9
                have hw243_8 := hx243_8
                have hw243_7 := hx243_7
                have hw243_6 := hx243_6
                have hw243_5 := hx243_5
                have hw243_4 := hx243_4
                have hw243_3 := hx243_3
                have hw243_2 := hx243_2
                have hw243_1 := hx243_1
                have hw243_0 := hx243_0
                cases e243
                replace hx243_0 := (HB.out.cell (World.block_lt_of_cell? w _ hx243_0)).trans hx243_0
                replace hx243_1 := (HB.out.cell (World.block_lt_of_cell? w _ hx243_1)).trans hx243_1
                replace hx243_2 := (HB.out.cell (World.block_lt_of_cell? w _ hx243_2)).trans hx243_2
                replace hx243_3 := (HB.out.cell (World.block_lt_of_cell? w _ hx243_3)).trans hx243_3
                replace hx243_4 := (HB.out.cell (World.block_lt_of_cell? w _ hx243_4)).trans hx243_4
                replace hx243_5 := (HB.out.cell (World.block_lt_of_cell? w _ hx243_5)).trans hx243_5
                replace hx243_6 := (HB.out.cell (World.block_lt_of_cell? w _ hx243_6)).trans hx243_6
                replace hx243_7 := (HB.out.cell (World.block_lt_of_cell? w _ hx243_7)).trans hx243_7
                replace hx243_8 := (HB.out.cell (World.block_lt_of_cell? w _ hx243_8)).trans hx243_8
                replace hx243_9 := (HB.out.cell (World.block_lt_of_cell? w _ hx243_9)).trans hx243_9
                replace hx243_10 := (HB.out.cell (World.block_lt_of_cell? w _ hx243_10)).trans hx243_10
                replace p243 := eq_true p243
                replace q243 := eq_true q243
                have p244 : 0 ≤ (x5_1 : Int) := of_decide_eq_true (by first | (with_reducible assumption) | assumption)
                have q244 : x5_1 < (l1.length : Int) := of_decide_eq_true (by first | (with_reducible assumption) | assumption)
                obtain ⟨ad244, e244, hx244_0, hx244_1, hx244_2, hx244_3, hx244_4, hx244_5, hx244_6, hx244_7, hx244_8, hx244_9, hx244_10⟩ := at_T50 HR1.out x5_1 p244 q244
                have hw244_10 := hx244_10
                have hw244_9 := hx244_9
                have hw244_8 := hx244_8
                have hw244_7 := hx244_7
                have hw244_6 := hx244_6
                have hw244_5 := hx244_5
                have hw244_4 := hx244_4
                have hw244_3 := hx244_3
                have hw244_2 := hx244_2
                have hw244_1 := hx244_1
                have hw244_0 := hx244_0
                cases e244
                replace hx244_0 := (HB.out.cell (World.block_lt_of_cell? w _ hx244_0)).trans hx244_0
                replace hx244_1 := (HB.out.cell (World.block_lt_of_cell? w _ hx244_1)).trans hx244_1
                replace hx244_2 := (HB.out.cell (World.block_lt_of_cell? w _ hx244_2)).trans hx244_2
                replace hx244_3 := (HB.out.cell (World.block_lt_of_cell? w _ hx244_3)).trans hx244_3
                replace hx244_4 := (HB.out.cell (World.block_lt_of_cell? w _ hx244_4)).trans hx244_4
                replace hx244_5 := (HB.out.cell (World.block_lt_of_cell? w _ hx244_5)).trans hx244_5
                replace hx244_6 := (HB.out.cell (World.block_lt_of_cell? w _ hx244_6)).trans hx244_6
                replace hx244_7 := (HB.out.cell (World.block_lt_of_cell? w _ hx244_7)).trans hx244_7
                replace hx244_8 := (HB.out.cell (World.block_lt_of_cell? w _ hx244_8)).trans hx244_8
                replace hx244_9 := (HB.out.cell (World.block_lt_of_cell? w _ hx244_9)).trans hx244_9
                replace hx244_10 := (HB.out.cell (World.block_lt_of_cell? w _ hx244_10)).trans hx244_10
                replace p244 := eq_true p244
                replace q244 := eq_true q244
                refine start_ (n := 10) (S := fun w' => w'.cell? (ad243.add ((x5_1).toNat * 11)) = some (.string ((rd_T50 l0 x5_1).f0)) ∧ w'.cell? ⟨(ad243.add ((x5_1).toNat * 11)).block, (ad243.add ((x5_1).toNat * 11)).off + 1, none⟩ = some (.int .i64 ((rd_T50 l0 x5_1).f1)) ∧ w'.cell? ⟨(ad243.add ((x5_1).toNat * 11)).block, (ad243.add ((x5_1).toNat * 11)).off + 2, none⟩ = some (.int .i64 ((rd_T50 l0 x5_1).f2)) ∧ w'.cell? ⟨(ad243.add ((x5_1).toNat * 11)).block, (ad243.add ((x5_1).toNat * 11)).off + 3, none⟩ = some (.int .i64 ((rd_T50 l0 x5_1).f3.f0)) ∧ w'.cell? ⟨(ad243.add ((x5_1).toNat * 11)).block, (ad243.add ((x5_1).toNat * 11)).off + 4, none⟩ = some (.int .i64 ((rd_T50 l0 x5_1).f3.f1)) ∧ w'.cell? ⟨(ad243.add ((x5_1).toNat * 11)).block, (ad243.add ((x5_1).toNat * 11)).off + 5, none⟩ = some (.int .i64 ((rd_T50 l0 x5_1).f4.f0)) ∧ w'.cell? ⟨(ad243.add ((x5_1).toNat * 11)).block, (ad243.add ((x5_1).toNat * 11)).off + 6, none⟩ = some (.int .i64 ((rd_T50 l0 x5_1).f4.f1)) ∧ w'.cell? ⟨(ad243.add ((x5_1).toNat * 11)).block, (ad243.add ((x5_1).toNat * 11)).off + 7, none⟩ = some (.int .i64 ((rd_T50 l0 x5_1).f5.f0)) ∧ w'.cell? ⟨(ad243.add ((x5_1).toNat * 11)).block, (ad243.add ((x5_1).toNat * 11)).off + 8, none⟩ = some (.int .i64 ((rd_T50 l0 x5_1).f5.f1)) ∧ w'.cell? ⟨(ad243.add ((x5_1).toNat * 11)).block, (ad243.add ((x5_1).toNat * 11)).off + 9, none⟩ = some (.int .i64 ((rd_T50 l0 x5_1).f6.f0)) ∧ w'.cell? ⟨(ad243.add ((x5_1).toNat * 11)).block, (ad243.add ((x5_1).toNat * 11)).off + 10, none⟩ = some (.int .i64 ((rd_T50 l0 x5_1).f6.f1)) ∧ w'.cell? (ad244.add ((x5_1).toNat * 11)) = some (.string ((rd_T50 l1 x5_1).f0)) ∧ w'.cell? ⟨(ad244.add ((x5_1).toNat * 11)).block, (ad244.add ((x5_1).toNat * 11)).off + 1, none⟩ = some (.int .i64 ((rd_T50 l1 x5_1).f1)) ∧ w'.cell? ⟨(ad244.add ((x5_1).toNat * 11)).block, (ad244.add ((x5_1).toNat * 11)).off + 2, none⟩ = some (.int .i64 ((rd_T50 l1 x5_1).f2)) ∧ w'.cell? ⟨(ad244.add ((x5_1).toNat * 11)).block, (ad244.add ((x5_1).toNat * 11)).off + 3, none⟩ = some (.int .i64 ((rd_T50 l1 x5_1).f3.f0)) ∧ w'.cell? ⟨(ad244.add ((x5_1).toNat * 11)).block, (ad244.add ((x5_1).toNat * 11)).off + 4, none⟩ = some (.int .i64 ((rd_T50 l1 x5_1).f3.f1)) ∧ w'.cell? ⟨(ad244.add ((x5_1).toNat * 11)).block, (ad244.add ((x5_1).toNat * 11)).off + 5, none⟩ = some (.int .i64 ((rd_T50 l1 x5_1).f4.f0)) ∧ w'.cell? ⟨(ad244.add ((x5_1).toNat * 11)).block, (ad244.add ((x5_1).toNat * 11)).off + 6, none⟩ = some (.int .i64 ((rd_T50 l1 x5_1).f4.f1)) ∧ w'.cell? ⟨(ad244.add ((x5_1).toNat * 11)).block, (ad244.add ((x5_1).toNat * 11)).off + 7, none⟩ = some (.int .i64 ((rd_T50 l1 x5_1).f5.f0)) ∧ w'.cell? ⟨(ad244.add ((x5_1).toNat * 11)).block, (ad244.add ((x5_1).toNat * 11)).off + 8, none⟩ = some (.int .i64 ((rd_T50 l1 x5_1).f5.f1)) ∧ w'.cell? ⟨(ad244.add ((x5_1).toNat * 11)).block, (ad244.add ((x5_1).toNat * 11)).off + 9, none⟩ = some (.int .i64 ((rd_T50 l1 x5_1).f6.f0)) ∧ w'.cell? ⟨(ad244.add ((x5_1).toNat * 11)).block, (ad244.add ((x5_1).toNat * 11)).off + 10, none⟩ = some (.int .i64 ((rd_T50 l1 x5_1).f6.f1))) (ds := []) #[false, false, false, false, false, false, false, false, false, false] (by kernel_rfl) rfl rfl ⟨((HB.out.cell (World.block_lt_of_cell? w _ hw243_0)).trans hw243_0), ((HB.out.cell (World.block_lt_of_cell? w _ hw243_1)).trans hw243_1), ((HB.out.cell (World.block_lt_of_cell? w _ hw243_2)).trans hw243_2), ((HB.out.cell (World.block_lt_of_cell? w _ hw243_3)).trans hw243_3), ((HB.out.cell (World.block_lt_of_cell? w _ hw243_4)).trans hw243_4), ((HB.out.cell (World.block_lt_of_cell? w _ hw243_5)).trans hw243_5), ((HB.out.cell (World.block_lt_of_cell? w _ hw243_6)).trans hw243_6), ((HB.out.cell (World.block_lt_of_cell? w _ hw243_7)).trans hw243_7), ((HB.out.cell (World.block_lt_of_cell? w _ hw243_8)).trans hw243_8), ((HB.out.cell (World.block_lt_of_cell? w _ hw243_9)).trans hw243_9), ((HB.out.cell (World.block_lt_of_cell? w _ hw243_10)).trans hw243_10), ((HB.out.cell (World.block_lt_of_cell? w _ hw244_0)).trans hw244_0), ((HB.out.cell (World.block_lt_of_cell? w _ hw244_1)).trans hw244_1), ((HB.out.cell (World.block_lt_of_cell? w _ hw244_2)).trans hw244_2), ((HB.out.cell (World.block_lt_of_cell? w _ hw244_3)).trans hw244_3), ((HB.out.cell (World.block_lt_of_cell? w _ hw244_4)).trans hw244_4), ((HB.out.cell (World.block_lt_of_cell? w _ hw244_5)).trans hw244_5), ((HB.out.cell (World.block_lt_of_cell? w _ hw244_6)).trans hw244_6), ((HB.out.cell (World.block_lt_of_cell? w _ hw244_7)).trans hw244_7), ((HB.out.cell (World.block_lt_of_cell? w _ hw244_8)).trans hw244_8), ((HB.out.cell (World.block_lt_of_cell? w _ hw244_9)).trans hw244_9), ((HB.out.cell (World.block_lt_of_cell? w _ hw244_10)).trans hw244_10)⟩ (fun hHeld => ?_); refine with_tabW laws_eqTblCellS.tab6 laws_eqTblCellS.bits6 (fun HT_ HW_ => ?_)
                generalize wr.drew = w11 at HB hx243_0 hx243_1 hx243_10 hx243_2 hx243_3 hx243_4 hx243_5 hx243_6 hx243_7 hx243_8 hx243_9 hx244_0 hx244_1 hx244_10 hx244_2 hx244_3 hx244_4 hx244_5 hx244_6 hx244_7 hx244_8 hx244_9 hHeld ⊢
                refine pure_ (i := 0) (N := some 17) (v := ?_) (a' := ?_) #[true, false, false, false, false, false, false, false, false, false] rfl rfl (any_of HT_.out (by kernel_rfl)) (fun _ _ _ h => h) (Or.inl ⟨by rfl, ?_⟩) ?_ ?_
                rotate_left
                · intro w'
                  go_simp
                  with_reducible rfl
                rotate_left
                · simp only [Act.put, List.setIfInBounds_toArray, List.set_cons_zero, List.set_cons_succ, i64_w, i32_w]
                  rfl
                refine pure_ (i := 1) (N := some 18) (v := ?_) (a' := ?_) #[true, true, false, false, false, false, false, false, false, false] rfl rfl (any_of HT_.out (by kernel_rfl)) (fun _ _ _ h => h) (Or.inl ⟨by rfl, ?_⟩) ?_ ?_
                rotate_left
                · intro w'
                  go_simp
                  with_reducible rfl
                rotate_left
                · simp only [Act.put, List.setIfInBounds_toArray, List.set_cons_zero, List.set_cons_succ, i64_w, i32_w]
                  rfl
                refine pure_ (i := 2) (N := some 19) (v := ?_) (a' := ?_) #[true, true, true, false, false, false, false, false, false, false] rfl rfl (any_of HT_.out (by kernel_rfl)) (fun _ _ _ h => h) (Or.inl ⟨by rfl, ?_⟩) ?_ ?_
                rotate_left
                · intro w'
                  go_simp
                  with_reducible rfl
                rotate_left
                · simp only [Act.put, List.setIfInBounds_toArray, List.set_cons_zero, List.set_cons_succ, i64_w, i32_w]
                  rfl
                refine pure_ (i := 4) (N := some 21) (v := ?_) (a' := ?_) #[true, true, true, false, true, false, false, false, false, false] rfl rfl (any_of HT_.out (by kernel_rfl)) (fun _ _ _ h => h) (Or.inl ⟨by rfl, ?_⟩) ?_ ?_
                rotate_left
                · intro w'
                  go_simp
                  with_reducible rfl
                rotate_left
                · simp only [Act.put, List.setIfInBounds_toArray, List.set_cons_zero, List.set_cons_succ, i64_w, i32_w]
                  rfl
                refine pure_ (i := 5) (N := some 22) (v := ?_) (a' := ?_) #[true, true, true, false, true, true, false, false, false, false] rfl rfl (any_of HT_.out (by kernel_rfl)) (fun _ _ _ h => h) (Or.inl ⟨by rfl, ?_⟩) ?_ ?_
                rotate_left
                · intro w'
                  go_simp
                  with_reducible rfl
                rotate_left
                · simp only [Act.put, List.setIfInBounds_toArray, List.set_cons_zero, List.set_cons_succ, i64_w, i32_w]
                  rfl
                refine pure_ (i := 6) (N := some 23) (v := ?_) (a' := ?_) #[true, true, true, false, true, true, true, false, false, false] rfl rfl (any_of HT_.out (by kernel_rfl)) (fun _ _ _ h => h) (Or.inl ⟨by rfl, ?_⟩) ?_ ?_
                rotate_left
                · intro w'
                  go_simp
                  with_reducible rfl
                rotate_left
                · simp only [Act.put, List.setIfInBounds_toArray, List.set_cons_zero, List.set_cons_succ, i64_w, i32_w]
                  rfl
                refine take_ (i := 3) (N := some 20) (v := ?_) (a' := ?_) #[true, true, true, true, true, true, true, false, false, false] rfl rfl (take_ofW HT_.out HW_.out (by kernel_rfl)) (fun _ _ _ h => h) (Or.inl ⟨by rfl, ?_⟩) hHeld ?_ ?_
                rotate_left
                · rintro w' ⟨s0, s1, s2, s3, s4, s5, s6, s7, s8, s9, s10, s11, s12, s13, s14, s15, s16, s17, s18, s19, s20, s21⟩
                  go_simp
                  with_reducible rfl
                rotate_left
                · simp only [Act.put, List.setIfInBounds_toArray, List.set_cons_zero, List.set_cons_succ, i64_w, i32_w]
                  rfl
                refine take_ (i := 7) (N := some 24) (v := ?_) (a' := ?_) #[true, true, true, true, true, true, true, true, false, false] rfl rfl (take_ofW HT_.out HW_.out (by kernel_rfl)) (fun _ _ _ h => h) (Or.inl ⟨by rfl, ?_⟩) hHeld ?_ ?_
                rotate_left
                · rintro w' ⟨s0, s1, s2, s3, s4, s5, s6, s7, s8, s9, s10, s11, s12, s13, s14, s15, s16, s17, s18, s19, s20, s21⟩
                  go_simp
                  with_reducible rfl
                rotate_left
                · simp only [Act.put, List.setIfInBounds_toArray, List.set_cons_zero, List.set_cons_succ, i64_w, i32_w]
                  rfl
                refine one_ (i := 8) (N := some 25) #[true, true, true, true, true, true, true, true, true, false] rfl rfl (one_of HT_.out (by kernel_rfl)) (by decide) (fun K hK => ?_)
                refine goes_ Tryd.func60 (by kernel_rfl) rfl #[.agg #[.string ((rd_T50 l0 x5_1).f0), .int .i64 ((rd_T50 l0 x5_1).f1), .int .i64 ((rd_T50 l0 x5_1).f2), .int .i64 ((rd_T50 l0 x5_1).f3.f0), .int .i64 ((rd_T50 l0 x5_1).f3.f1), .int .i64 ((rd_T50 l0 x5_1).f4.f0), .int .i64 ((rd_T50 l0 x5_1).f4.f1), .int .i64 ((rd_T50 l0 x5_1).f5.f0), .int .i64 ((rd_T50 l0 x5_1).f5.f1), .int .i64 ((rd_T50 l0 x5_1).f6.f0), .int .i64 ((rd_T50 l0 x5_1).f6.f1)], .agg #[.string ((rd_T50 l1 x5_1).f0), .int .i64 ((rd_T50 l1 x5_1).f1), .int .i64 ((rd_T50 l1 x5_1).f2), .int .i64 ((rd_T50 l1 x5_1).f3.f0), .int .i64 ((rd_T50 l1 x5_1).f3.f1), .int .i64 ((rd_T50 l1 x5_1).f4.f0), .int .i64 ((rd_T50 l1 x5_1).f4.f1), .int .i64 ((rd_T50 l1 x5_1).f5.f0), .int .i64 ((rd_T50 l1 x5_1).f5.f1), .int .i64 ((rd_T50 l1 x5_1).f6.f0), .int .i64 ((rd_T50 l1 x5_1).f6.f1)]] (by rfl) rfl rfl (by (try simp only [List.map_toArray, List.map_cons, List.map_nil]); first | done | rfl | (simp only [List.length_drop, List.length_take]; rfl)) ?_
                with_reducible refine (laws_eqTblCell.calls ((rd_T50 l0 x5_1).f0) ((rd_T50 l0 x5_1).f1) ((rd_T50 l0 x5_1).f2) ((rd_T50 l0 x5_1).f3.f0) ((rd_T50 l0 x5_1).f3.f1) ((rd_T50 l0 x5_1).f4.f0) ((rd_T50 l0 x5_1).f4.f1) ((rd_T50 l0 x5_1).f5.f0) ((rd_T50 l0 x5_1).f5.f1) ((rd_T50 l0 x5_1).f6.f0) ((rd_T50 l0 x5_1).f6.f1) ((rd_T50 l1 x5_1).f0) ((rd_T50 l1 x5_1).f1) ((rd_T50 l1 x5_1).f2) ((rd_T50 l1 x5_1).f3.f0) ((rd_T50 l1 x5_1).f3.f1) ((rd_T50 l1 x5_1).f4.f0) ((rd_T50 l1 x5_1).f4.f1) ((rd_T50 l1 x5_1).f5.f0) ((rd_T50 l1 x5_1).f5.f1) ((rd_T50 l1 x5_1).f6.f0) ((rd_T50 l1 x5_1).f6.f1) false _ A7.out).mono ?_
                rintro e w12 ⟨rfl, hb⟩
                refine ⟨_, rfl, ?_⟩
                have n0_ := Aside0.mk (below_step (by repeat (first | (with_reducible first | exact HB.out | apply below_alloc | apply pw_below_drewN | apply below_drew1) | exact HB.out)) hb)
                clear HB
                have HB := n0_
                clear n0_
                (try clear hb)
                (try clear hb2)
                (try clear hk)
                (try clear hi)
                refine hK.out _ _ ⟨((HB.out.cell (World.block_lt_of_cell? w _ hw243_0)).trans hw243_0), ((HB.out.cell (World.block_lt_of_cell? w _ hw243_1)).trans hw243_1), ((HB.out.cell (World.block_lt_of_cell? w _ hw243_2)).trans hw243_2), ((HB.out.cell (World.block_lt_of_cell? w _ hw243_3)).trans hw243_3), ((HB.out.cell (World.block_lt_of_cell? w _ hw243_4)).trans hw243_4), ((HB.out.cell (World.block_lt_of_cell? w _ hw243_5)).trans hw243_5), ((HB.out.cell (World.block_lt_of_cell? w _ hw243_6)).trans hw243_6), ((HB.out.cell (World.block_lt_of_cell? w _ hw243_7)).trans hw243_7), ((HB.out.cell (World.block_lt_of_cell? w _ hw243_8)).trans hw243_8), ((HB.out.cell (World.block_lt_of_cell? w _ hw243_9)).trans hw243_9), ((HB.out.cell (World.block_lt_of_cell? w _ hw243_10)).trans hw243_10), ((HB.out.cell (World.block_lt_of_cell? w _ hw244_0)).trans hw244_0), ((HB.out.cell (World.block_lt_of_cell? w _ hw244_1)).trans hw244_1), ((HB.out.cell (World.block_lt_of_cell? w _ hw244_2)).trans hw244_2), ((HB.out.cell (World.block_lt_of_cell? w _ hw244_3)).trans hw244_3), ((HB.out.cell (World.block_lt_of_cell? w _ hw244_4)).trans hw244_4), ((HB.out.cell (World.block_lt_of_cell? w _ hw244_5)).trans hw244_5), ((HB.out.cell (World.block_lt_of_cell? w _ hw244_6)).trans hw244_6), ((HB.out.cell (World.block_lt_of_cell? w _ hw244_7)).trans hw244_7), ((HB.out.cell (World.block_lt_of_cell? w _ hw244_8)).trans hw244_8), ((HB.out.cell (World.block_lt_of_cell? w _ hw244_9)).trans hw244_9), ((HB.out.cell (World.block_lt_of_cell? w _ hw244_10)).trans hw244_10)⟩ (fun hHeld => ?_)
                clear hK K
                refine norm_ (a' := ?_) ?_ ?_
                rotate_left
                · show Act.put _ (some 25) _ = _
                  simp only [Act.put, List.setIfInBounds_toArray, List.set_cons_zero, List.set_cons_succ, i64_w, i32_w]
                  rfl
                refine pure_ (i := 9) (N := some 26) (v := ?_) (a' := ?_) #[true, true, true, true, true, true, true, true, true, true] rfl rfl (any_of HT_.out (by kernel_rfl)) (fun _ _ _ h => h) (Or.inl ⟨by rfl, ?_⟩) ?_ ?_
                rotate_left
                · intro w'
                  go_simp
                  with_reducible rfl
                rotate_left
                · simp only [Act.put, List.setIfInBounds_toArray, List.set_cons_zero, List.set_cons_succ, i64_w, i32_w]
                  rfl
                refine done_ (done_of HT_.out (by kernel_rfl)) ?_
                try go_wp2
                go_ret
                exact ⟨by first | rfl | (simp [errW_none, errW_some] <;> rfl) | (simp [*, errW_none, errW_some] <;> rfl), by repeat (first | (with_reducible first | exact HB.out | apply below_alloc | apply pw_below_drewN | apply below_drew1) | exact HB.out)⟩
            · rw [if_neg c6] at H
              exact absurd H (by simp)
          · rw [if_neg c5] at H
            exact absurd H (by simp)
        · rw [if_neg c4] at H
          have c4b0 : decide (x5_1 < (l0.length : Int)) = false := decide_eq_false c4
          clear c4
          obtain rfl := Option.some.inj H
          go_wp2
          go_ret
          exact ⟨by first | rfl | (simp [errW_none, errW_some] <;> rfl) | (simp [*, errW_none, errW_some] <;> rfl), by repeat (first | (with_reducible first | exact HB.out | apply below_alloc | apply pw_below_drewN | apply below_drew1) | exact HB.out)⟩
  · rw [if_neg c3] at H
    have c3b0 : ((l0.length : Int) == (l1.length : Int)) = false := beq_eq_false_iff_ne.mpr c3
    have c3b1 : ((l0.length : Int) != (l1.length : Int)) = true := bne_iff_ne.mpr c3
    have c3b2 : (l0.length == l1.length) = false := by first | simpa using c3 | (simp at c3 ⊢; omega)
    obtain rfl := Option.some.inj H
    go_enter Tryd.func49, Tryd.ntmps49
    go_wp2
    go_ret
    exact ⟨by first | rfl | (simp [errW_none, errW_some] <;> rfl) | (simp [*, errW_none, errW_some] <;> rfl), by repeat (first | (with_reducible first | exact HB.out | apply below_alloc | apply pw_below_drewN | apply below_drew1) | exact HB.out)⟩
end Go.Proofs.YtemcdfkmpikegaaDoor.Pr
namespace Go.Proofs.YtemcdfkmpikegaaDoor.Pr
open Go.RowKit Go.Proofs.YtemcdfkmpikegaaDoorW.PrintWords Go.Proofs.YtemcdfkmpikegaaDoorW.PrintLast Go.Proofs.YtemcdfkmpikegaaDoorW.PrintMore
attribute [local go_sem] max2_int min2_int max_two min_two max_three min_three max_four min_four
set_option linter.unusedVariables false
set_option linter.unusedSimpArgs false
def laws_eqTblRow.f (k : Nat) (l0_0 : List (S50)) (a0_1 : Bool) (l1_0 : List (S50)) (a1_1 : Bool) : Option (Bool) := (laws_eqTblCellS.f k l0_0 l1_0).bind fun t248 => (if t248 = true then (if (a0_1 != a1_1) = true then (some false) else (some true)) else (some false))
theorem laws_eqTblRow.mono : ∀ a0 a1 a2 a3 k, LeO (laws_eqTblRow.f k a0 a1 a2 a3) (laws_eqTblRow.f (k + 1) a0 a1 a2 a3) := by
  intro a0 a1 a2 a3 k
  unfold laws_eqTblRow.f
  repeat' first
      | (with_reducible exact laws_eqTblCellS.mono _ _ _)
      | (with_reducible exact LeO.refl _)
      | (with_reducible exact LeO.none _)
      | (with_reducible refine LeO.ite ?_ ?_)
      | (with_reducible refine LeO.bind ?_ (fun _ => ?_))
      | exact laws_eqTblCellS.mono _ _ _
      | exact LeO.none _
      | refine LeO.ite ?_ ?_
      | refine LeO.bind ?_ (fun _ => ?_)
set_option maxHeartbeats 8000000 in
set_option maxRecDepth 100000 in
theorem laws_eqTblRow.calls (k : Nat) (A0_0 : Option Addr) (c0_0 : Nat) (l0_0 : List (S50)) (a0_1 : Bool) (A1_0 : Option Addr) (c1_0 : Nat) (l1_0 : List (S50)) (a1_1 : Bool) (r : Bool) (w : World) (hr0_0 : Kd.C k50 w A0_0 l0_0.length l0_0) (hc0_0 : l0_0.length ≤ c0_0) (hr1_0 : Kd.C k50 w A1_0 l1_0.length l1_0) (hc1_0 : l1_0.length ≤ c1_0) (h : laws_eqTblRow.f k l0_0 a0_1 l1_0 a1_1 = some r) :
    Calls Tryd.prog 43 #[.agg #[.slice A0_0 l0_0.length c0_0, .bool a0_1], .agg #[.slice A1_0 l1_0.length c1_0, .bool a1_1]] w fun e w' => e = .returned (.bool r) ∧ Below w.heap.size w w' := by
  have hu45 := Tryd.underlying45
  have HR0_0 := Aside0.mk hr0_0
  have HC0_0 := Aside0.mk hc0_0
  clear hr0_0 hc0_0
  have HR1_0 := Aside0.mk hr1_0
  have HC1_0 := Aside0.mk hc1_0
  clear hr1_0 hc1_0
  have HB := Aside0.mk (Below.refl w.heap.size w)
  have H : ((laws_eqTblCellS.f k l0_0 l1_0).bind fun t248 => (if t248 = true then (if (a0_1 != a1_1) = true then (some false) else (some true)) else (some false))) = some r := h
  clear h
  replace H := Option.bind_eq_some_iff.mp H
  obtain ⟨t248, A30, H⟩ := H
  replace H : (if t248 = true then (if (a0_1 != a1_1) = true then (some false) else (some true)) else (some false)) = some r := H
  have A3 := Aside0.mk A30
  clear A30
  by_cases c4 : t248 = true
  · subst c4
    have H1 : (if (a0_1 != a1_1) = true then (some false) else (some true)) = some r := by rw [if_pos rfl] at H; exact H
    clear H
    have H := H1
    clear H1
    by_cases c5 : (a0_1 != a1_1) = true
    · rw [if_pos c5] at H
      have c5b0 : (a0_1 != a1_1) = true := c5
      (try (have c5b1 : decide (a0_1 = a1_1) = false := by simpa using c5))
      (try (have c5b2 : (a0_1 == a1_1) = false := by simpa using c5))
      (try (have c5b3 : ¬ (a0_1 = a1_1) := by simpa using c5))
      clear c5
      obtain rfl := Option.some.inj H
      go_enter Tryd.func43, Tryd.ntmps43
      go_wp2_with (first | ((with_reducible refine gate_dst (N := 2) rfl ?_); refine box_event ?hg (N := 2) ?hd (cs := #[.slice A0_0 l0_0.length c0_0, .bool a0_1]) (t := 45) ?hr ?_; (case hd => rfl); (case hg => rfl); (case hr => first | (go_simp; done) | (go_simp; rfl)); intro gb246 hg w6 hbox hb; have n0_ := Aside0.mk (below_step (by repeat (first | (with_reducible first | exact HB.out | apply below_alloc | apply pw_below_drewN | apply below_drew1) | exact HB.out)) hb); have n1_ := Aside0.mk (hbox); have n2_ := Aside0.mk ((by rw [hg]; exact (below_size (by repeat (first | (with_reducible first | exact HB.out | apply below_alloc | apply pw_below_drewN | apply below_drew1) | exact HB.out))) : w.heap.size ≤ gb246)); have n3_ := Aside0.mk ((by rw [hg]; exact (below_size (by repeat (first | (with_reducible first | exact HB.out | apply below_alloc | apply pw_below_drewN | apply below_drew1) | exact HB.out))) : w.heap.size ≤ gb246)); clear HB; have HB := n0_; have BK246 := n1_; have GW246 := n2_; have GE246 := n3_; clear n0_ n1_ n2_ n3_; clear hb hbox hg) | ((with_reducible refine gate_dst (N := 3) rfl ?_); refine box_event ?hg (N := 3) ?hd (cs := #[.slice A1_0 l1_0.length c1_0, .bool a1_1]) (t := 45) ?hr ?_; (case hd => rfl); (case hg => rfl); (case hr => first | (go_simp; done) | (go_simp; rfl)); intro gb247 hg w7 hbox hb; have n0_ := Aside0.mk (blk_below (g := gb246) (o := .cells #[.slice A0_0 l0_0.length c0_0, .bool a0_1] 45 (0, 0)) (by (with_reducible repeat (first | refine blk_drewN ?_ _ | refine blk_drew ?_ | refine blk_alloc ?_ _)); exact BK246.out) hb); have n1_ := Aside0.mk (below_step (by repeat (first | (with_reducible first | exact HB.out | apply below_alloc | apply pw_below_drewN | apply below_drew1 | refine below_set ?_ GE246.out) | exact HB.out)) hb); have n2_ := Aside0.mk (hbox); have n3_ := Aside0.mk ((by rw [hg]; exact (below_size (by repeat (first | (with_reducible first | exact HB.out | apply below_alloc | apply pw_below_drewN | apply below_drew1 | refine below_set ?_ GE246.out) | exact HB.out))) : w.heap.size ≤ gb247)); have n4_ := Aside0.mk ((by rw [hg]; exact (below_size (by repeat (first | (with_reducible first | exact HB.out | apply below_alloc | apply pw_below_drewN | apply below_drew1 | refine below_set ?_ GE246.out) | exact HB.out))) : w.heap.size ≤ gb247)); have n5_ := Aside0.mk ((by rw [hg]; exact Nat.ne_of_lt (blk_lt (g := gb246) (o := .cells #[.slice A0_0 l0_0.length c0_0, .bool a0_1] 45 (0, 0)) (by (with_reducible repeat (first | refine blk_drewN ?_ _ | refine blk_drew ?_ | refine blk_alloc ?_ _)); exact BK246.out)) : gb246 ≠ gb247)); have n6_ := Aside0.mk ((by rw [hg]; exact Nat.ne_of_gt (blk_lt (g := gb246) (o := .cells #[.slice A0_0 l0_0.length c0_0, .bool a0_1] 45 (0, 0)) (by (with_reducible repeat (first | refine blk_drewN ?_ _ | refine blk_drew ?_ | refine blk_alloc ?_ _)); exact BK246.out)) : gb247 ≠ gb246)); clear BK246; clear HB; have BK246 := n0_; have HB := n1_; have BK247 := n2_; have GW247 := n3_; have GE247 := n4_; have NB246_247 := n5_; have NB247_246 := n6_; clear n0_ n1_ n2_ n3_ n4_ n5_ n6_; clear hb hbox hg; have hnb8 := NB246_247.out; have hnc8 := NB247_246.out; have hcz9_0 : w7.cell? ⟨gb246, 0, none⟩ = some (.slice A0_0 l0_0.length c0_0) := (blk_cell BK246.out 0).trans rfl; have hcz9_1 : w7.cell? ⟨gb246, 1, none⟩ = some (.bool a0_1) := (blk_cell BK246.out 1).trans rfl; have hfz9_0 := blk_frozen BK246.out 0; have hfz9_1 := blk_frozen BK246.out 1; have hcz10_0 : w7.cell? ⟨gb247, 0, none⟩ = some (.slice A1_0 l1_0.length c1_0) := (blk_cell BK247.out 0).trans rfl; have hcz10_1 : w7.cell? ⟨gb247, 1, none⟩ = some (.bool a1_1) := (blk_cell BK247.out 1).trans rfl; have hfz10_0 := blk_frozen BK247.out 0; have hfz10_1 := blk_frozen BK247.out 1) | ((with_reducible refine gate_callee (f := 49) rfl ?_); refine goesL_ (some 9) rfl rfl Tryd.func49 (by kernel_rfl) rfl #[.slice A0_0 l0_0.length c0_0, .slice A1_0 l1_0.length c1_0] rfl (by (try simp only [List.map_toArray, List.map_cons, List.map_nil]); first | done | rfl | (simp only [List.length_drop, List.length_take]; rfl)) ?_; (with_reducible refine (laws_eqTblCellS.calls k _ _ l0_0 _ _ l1_0 true _ ?side1 ?side2 ?side3 ?side4 A3.out).mono ?_); (case side1 => repeat (first | exact (Kd.C_below HR0_0.out HB.out) | (with_reducible refine Kd.C_alloc ?_ _) | (with_reducible refine Kd.C_drewN ?_ _) | (with_reducible refine Kd.C_drew ?_))); (case side2 => exact HC0_0.out); (case side3 => repeat (first | exact (Kd.C_below HR1_0.out HB.out) | (with_reducible refine Kd.C_alloc ?_ _) | (with_reducible refine Kd.C_drewN ?_ _) | (with_reducible refine Kd.C_drew ?_))); (case side4 => exact HC1_0.out); rintro e w11 ⟨rfl, hb⟩; refine ⟨_, rfl, ?_⟩; have n0_ := Aside0.mk (blk_below (g := gb246) (o := .cells #[.slice A0_0 l0_0.length c0_0, .bool a0_1] 45 (0, 0)) (by (with_reducible repeat (first | refine blk_drewN ?_ _ | refine blk_drew ?_ | refine blk_alloc ?_ _)); exact BK246.out) hb); have n1_ := Aside0.mk (blk_below (g := gb247) (o := .cells #[.slice A1_0 l1_0.length c1_0, .bool a1_1] 45 (0, 0)) (by (with_reducible repeat (first | refine blk_drewN ?_ _ | refine blk_drew ?_ | refine blk_alloc ?_ _)); exact BK247.out) hb); have n2_ := Aside0.mk (below_step (by repeat (first | (with_reducible first | exact HB.out | apply below_alloc | apply pw_below_drewN | apply below_drew1 | refine below_set ?_ GE246.out | refine below_set ?_ GE247.out) | exact HB.out)) hb); clear BK246; clear BK247; clear HB; have BK246 := n0_; have BK247 := n1_; have HB := n2_; clear n0_ n1_ n2_; (try clear hb); (try clear hb2); (try clear hk); (try clear hi); have hcz12_0 : w11.cell? ⟨gb246, 0, none⟩ = some (.slice A0_0 l0_0.length c0_0) := (blk_cell BK246.out 0).trans rfl; have hcz12_1 : w11.cell? ⟨gb246, 1, none⟩ = some (.bool a0_1) := (blk_cell BK246.out 1).trans rfl; have hfz12_0 := blk_frozen BK246.out 0; have hfz12_1 := blk_frozen BK246.out 1; have hcz13_0 : w11.cell? ⟨gb247, 0, none⟩ = some (.slice A1_0 l1_0.length c1_0) := (blk_cell BK247.out 0).trans rfl; have hcz13_1 : w11.cell? ⟨gb247, 1, none⟩ = some (.bool a1_1) := (blk_cell BK247.out 1).trans rfl; have hfz13_0 := blk_frozen BK247.out 0; have hfz13_1 := blk_frozen BK247.out 1))
      go_ret
      exact ⟨by first | rfl | (simp [errW_none, errW_some] <;> rfl) | (simp [*, errW_none, errW_some] <;> rfl), by repeat (first | (with_reducible first | exact HB.out | apply below_alloc | apply pw_below_drewN | apply below_drew1 | refine below_set ?_ GE246.out | refine below_set ?_ GE247.out) | exact HB.out)⟩
    · rw [if_neg c5] at H
      have c5b0 : (a0_1 != a1_1) = false := by simpa using c5
      (try (have c5b1 : decide (a0_1 = a1_1) = true := by simpa using c5))
      (try (have c5b2 : (a0_1 == a1_1) = true := by simpa using c5))
      clear c5
      obtain rfl := Option.some.inj H
      go_enter Tryd.func43, Tryd.ntmps43
      go_wp2_with (first | ((with_reducible refine gate_dst (N := 2) rfl ?_); refine box_event ?hg (N := 2) ?hd (cs := #[.slice A0_0 l0_0.length c0_0, .bool a0_1]) (t := 45) ?hr ?_; (case hd => rfl); (case hg => rfl); (case hr => first | (go_simp; done) | (go_simp; rfl)); intro gb246 hg w14 hbox hb; have n0_ := Aside0.mk (below_step (by repeat (first | (with_reducible first | exact HB.out | apply below_alloc | apply pw_below_drewN | apply below_drew1) | exact HB.out)) hb); have n1_ := Aside0.mk (hbox); have n2_ := Aside0.mk ((by rw [hg]; exact (below_size (by repeat (first | (with_reducible first | exact HB.out | apply below_alloc | apply pw_below_drewN | apply below_drew1) | exact HB.out))) : w.heap.size ≤ gb246)); have n3_ := Aside0.mk ((by rw [hg]; exact (below_size (by repeat (first | (with_reducible first | exact HB.out | apply below_alloc | apply pw_below_drewN | apply below_drew1) | exact HB.out))) : w.heap.size ≤ gb246)); clear HB; have HB := n0_; have BK246 := n1_; have GW246 := n2_; have GE246 := n3_; clear n0_ n1_ n2_ n3_; clear hb hbox hg) | ((with_reducible refine gate_dst (N := 3) rfl ?_); refine box_event ?hg (N := 3) ?hd (cs := #[.slice A1_0 l1_0.length c1_0, .bool a1_1]) (t := 45) ?hr ?_; (case hd => rfl); (case hg => rfl); (case hr => first | (go_simp; done) | (go_simp; rfl)); intro gb247 hg w15 hbox hb; have n0_ := Aside0.mk (blk_below (g := gb246) (o := .cells #[.slice A0_0 l0_0.length c0_0, .bool a0_1] 45 (0, 0)) (by (with_reducible repeat (first | refine blk_drewN ?_ _ | refine blk_drew ?_ | refine blk_alloc ?_ _)); exact BK246.out) hb); have n1_ := Aside0.mk (below_step (by repeat (first | (with_reducible first | exact HB.out | apply below_alloc | apply pw_below_drewN | apply below_drew1 | refine below_set ?_ GE246.out) | exact HB.out)) hb); have n2_ := Aside0.mk (hbox); have n3_ := Aside0.mk ((by rw [hg]; exact (below_size (by repeat (first | (with_reducible first | exact HB.out | apply below_alloc | apply pw_below_drewN | apply below_drew1 | refine below_set ?_ GE246.out) | exact HB.out))) : w.heap.size ≤ gb247)); have n4_ := Aside0.mk ((by rw [hg]; exact (below_size (by repeat (first | (with_reducible first | exact HB.out | apply below_alloc | apply pw_below_drewN | apply below_drew1 | refine below_set ?_ GE246.out) | exact HB.out))) : w.heap.size ≤ gb247)); have n5_ := Aside0.mk ((by rw [hg]; exact Nat.ne_of_lt (blk_lt (g := gb246) (o := .cells #[.slice A0_0 l0_0.length c0_0, .bool a0_1] 45 (0, 0)) (by (with_reducible repeat (first | refine blk_drewN ?_ _ | refine blk_drew ?_ | refine blk_alloc ?_ _)); exact BK246.out)) : gb246 ≠ gb247)); have n6_ := Aside0.mk ((by rw [hg]; exact Nat.ne_of_gt (blk_lt (g := gb246) (o := .cells #[.slice A0_0 l0_0.length c0_0, .bool a0_1] 45 (0, 0)) (by (with_reducible repeat (first | refine blk_drewN ?_ _ | refine blk_drew ?_ | refine blk_alloc ?_ _)); exact BK246.out)) : gb247 ≠ gb246)); clear BK246; clear HB; have BK246 := n0_; have HB := n1_; have BK247 := n2_; have GW247 := n3_; have GE247 := n4_; have NB246_247 := n5_; have NB247_246 := n6_; clear n0_ n1_ n2_ n3_ n4_ n5_ n6_; clear hb hbox hg; have hnb16 := NB246_247.out; have hnc16 := NB247_246.out; have hcz17_0 : w15.cell? ⟨gb246, 0, none⟩ = some (.slice A0_0 l0_0.length c0_0) := (blk_cell BK246.out 0).trans rfl; have hcz17_1 : w15.cell? ⟨gb246, 1, none⟩ = some (.bool a0_1) := (blk_cell BK246.out 1).trans rfl; have hfz17_0 := blk_frozen BK246.out 0; have hfz17_1 := blk_frozen BK246.out 1; have hcz18_0 : w15.cell? ⟨gb247, 0, none⟩ = some (.slice A1_0 l1_0.length c1_0) := (blk_cell BK247.out 0).trans rfl; have hcz18_1 : w15.cell? ⟨gb247, 1, none⟩ = some (.bool a1_1) := (blk_cell BK247.out 1).trans rfl; have hfz18_0 := blk_frozen BK247.out 0; have hfz18_1 := blk_frozen BK247.out 1) | ((with_reducible refine gate_callee (f := 49) rfl ?_); refine goesL_ (some 9) rfl rfl Tryd.func49 (by kernel_rfl) rfl #[.slice A0_0 l0_0.length c0_0, .slice A1_0 l1_0.length c1_0] rfl (by (try simp only [List.map_toArray, List.map_cons, List.map_nil]); first | done | rfl | (simp only [List.length_drop, List.length_take]; rfl)) ?_; (with_reducible refine (laws_eqTblCellS.calls k _ _ l0_0 _ _ l1_0 true _ ?side1 ?side2 ?side3 ?side4 A3.out).mono ?_); (case side1 => repeat (first | exact (Kd.C_below HR0_0.out HB.out) | (with_reducible refine Kd.C_alloc ?_ _) | (with_reducible refine Kd.C_drewN ?_ _) | (with_reducible refine Kd.C_drew ?_))); (case side2 => exact HC0_0.out); (case side3 => repeat (first | exact (Kd.C_below HR1_0.out HB.out) | (with_reducible refine Kd.C_alloc ?_ _) | (with_reducible refine Kd.C_drewN ?_ _) | (with_reducible refine Kd.C_drew ?_))); (case side4 => exact HC1_0.out); rintro e w19 ⟨rfl, hb⟩; refine ⟨_, rfl, ?_⟩; have n0_ := Aside0.mk (blk_below (g := gb246) (o := .cells #[.slice A0_0 l0_0.length c0_0, .bool a0_1] 45 (0, 0)) (by (with_reducible repeat (first | refine blk_drewN ?_ _ | refine blk_drew ?_ | refine blk_alloc ?_ _)); exact BK246.out) hb); have n1_ := Aside0.mk (blk_below (g := gb247) (o := .cells #[.slice A1_0 l1_0.length c1_0, .bool a1_1] 45 (0, 0)) (by (with_reducible repeat (first | refine blk_drewN ?_ _ | refine blk_drew ?_ | refine blk_alloc ?_ _)); exact BK247.out) hb); have n2_ := Aside0.mk (below_step (by repeat (first | (with_reducible first | exact HB.out | apply below_alloc | apply pw_below_drewN | apply below_drew1 | refine below_set ?_ GE246.out | refine below_set ?_ GE247.out) | exact HB.out)) hb); clear BK246; clear BK247; clear HB; have BK246 := n0_; have BK247 := n1_; have HB := n2_; clear n0_ n1_ n2_; (try clear hb); (try clear hb2); (try clear hk); (try clear hi); have hcz20_0 : w19.cell? ⟨gb246, 0, none⟩ = some (.slice A0_0 l0_0.length c0_0) := (blk_cell BK246.out 0).trans rfl; have hcz20_1 : w19.cell? ⟨gb246, 1, none⟩ = some (.bool a0_1) := (blk_cell BK246.out 1).trans rfl; have hfz20_0 := blk_frozen BK246.out 0; have hfz20_1 := blk_frozen BK246.out 1; have hcz21_0 : w19.cell? ⟨gb247, 0, none⟩ = some (.slice A1_0 l1_0.length c1_0) := (blk_cell BK247.out 0).trans rfl; have hcz21_1 : w19.cell? ⟨gb247, 1, none⟩ = some (.bool a1_1) := (blk_cell BK247.out 1).trans rfl; have hfz21_0 := blk_frozen BK247.out 0; have hfz21_1 := blk_frozen BK247.out 1))
      go_ret
      exact ⟨by first | rfl | (simp [errW_none, errW_some] <;> rfl) | (simp [*, errW_none, errW_some] <;> rfl), by repeat (first | (with_reducible first | exact HB.out | apply below_alloc | apply pw_below_drewN | apply below_drew1 | refine below_set ?_ GE246.out | refine below_set ?_ GE247.out) | exact HB.out)⟩
  · replace c4 := Bool.eq_false_iff.mpr c4
    subst c4
    have H1 : (some false) = some r := by rw [if_neg (show ¬ (false = true) by decide)] at H; exact H
    clear H
    have H := H1
    clear H1
    obtain rfl := Option.some.inj H
    go_enter Tryd.func43, Tryd.ntmps43
    go_wp2_with (first | ((with_reducible refine gate_dst (N := 2) rfl ?_); refine box_event ?hg (N := 2) ?hd (cs := #[.slice A0_0 l0_0.length c0_0, .bool a0_1]) (t := 45) ?hr ?_; (case hd => rfl); (case hg => rfl); (case hr => first | (go_simp; done) | (go_simp; rfl)); intro gb246 hg w22 hbox hb; have n0_ := Aside0.mk (below_step (by repeat (first | (with_reducible first | exact HB.out | apply below_alloc | apply pw_below_drewN | apply below_drew1) | exact HB.out)) hb); have n1_ := Aside0.mk (hbox); have n2_ := Aside0.mk ((by rw [hg]; exact (below_size (by repeat (first | (with_reducible first | exact HB.out | apply below_alloc | apply pw_below_drewN | apply below_drew1) | exact HB.out))) : w.heap.size ≤ gb246)); have n3_ := Aside0.mk ((by rw [hg]; exact (below_size (by repeat (first | (with_reducible first | exact HB.out | apply below_alloc | apply pw_below_drewN | apply below_drew1) | exact HB.out))) : w.heap.size ≤ gb246)); clear HB; have HB := n0_; have BK246 := n1_; have GW246 := n2_; have GE246 := n3_; clear n0_ n1_ n2_ n3_; clear hb hbox hg) | ((with_reducible refine gate_dst (N := 3) rfl ?_); refine box_event ?hg (N := 3) ?hd (cs := #[.slice A1_0 l1_0.length c1_0, .bool a1_1]) (t := 45) ?hr ?_; (case hd => rfl); (case hg => rfl); (case hr => first | (go_simp; done) | (go_simp; rfl)); intro gb247 hg w23 hbox hb; have n0_ := Aside0.mk (blk_below (g := gb246) (o := .cells #[.slice A0_0 l0_0.length c0_0, .bool a0_1] 45 (0, 0)) (by (with_reducible repeat (first | refine blk_drewN ?_ _ | refine blk_drew ?_ | refine blk_alloc ?_ _)); exact BK246.out) hb); have n1_ := Aside0.mk (below_step (by repeat (first | (with_reducible first | exact HB.out | apply below_alloc | apply pw_below_drewN | apply below_drew1 | refine below_set ?_ GE246.out) | exact HB.out)) hb); have n2_ := Aside0.mk (hbox); have n3_ := Aside0.mk ((by rw [hg]; exact (below_size (by repeat (first | (with_reducible first | exact HB.out | apply below_alloc | apply pw_below_drewN | apply below_drew1 | refine below_set ?_ GE246.out) | exact HB.out))) : w.heap.size ≤ gb247)); have n4_ := Aside0.mk ((by rw [hg]; exact (below_size (by repeat (first | (with_reducible first | exact HB.out | apply below_alloc | apply pw_below_drewN | apply below_drew1 | refine below_set ?_ GE246.out) | exact HB.out))) : w.heap.size ≤ gb247)); have n5_ := Aside0.mk ((by rw [hg]; exact Nat.ne_of_lt (blk_lt (g := gb246) (o := .cells #[.slice A0_0 l0_0.length c0_0, .bool a0_1] 45 (0, 0)) (by (with_reducible repeat (first | refine blk_drewN ?_ _ | refine blk_drew ?_ | refine blk_alloc ?_ _)); exact BK246.out)) : gb246 ≠ gb247)); have n6_ := Aside0.mk ((by rw [hg]; exact Nat.ne_of_gt (blk_lt (g := gb246) (o := .cells #[.slice A0_0 l0_0.length c0_0, .bool a0_1] 45 (0, 0)) (by (with_reducible repeat (first | refine blk_drewN ?_ _ | refine blk_drew ?_ | refine blk_alloc ?_ _)); exact BK246.out)) : gb247 ≠ gb246)); clear BK246; clear HB; have BK246 := n0_; have HB := n1_; have BK247 := n2_; have GW247 := n3_; have GE247 := n4_; have NB246_247 := n5_; have NB247_246 := n6_; clear n0_ n1_ n2_ n3_ n4_ n5_ n6_; clear hb hbox hg; have hnb24 := NB246_247.out; have hnc24 := NB247_246.out; have hcz25_0 : w23.cell? ⟨gb246, 0, none⟩ = some (.slice A0_0 l0_0.length c0_0) := (blk_cell BK246.out 0).trans rfl; have hcz25_1 : w23.cell? ⟨gb246, 1, none⟩ = some (.bool a0_1) := (blk_cell BK246.out 1).trans rfl; have hfz25_0 := blk_frozen BK246.out 0; have hfz25_1 := blk_frozen BK246.out 1; have hcz26_0 : w23.cell? ⟨gb247, 0, none⟩ = some (.slice A1_0 l1_0.length c1_0) := (blk_cell BK247.out 0).trans rfl; have hcz26_1 : w23.cell? ⟨gb247, 1, none⟩ = some (.bool a1_1) := (blk_cell BK247.out 1).trans rfl; have hfz26_0 := blk_frozen BK247.out 0; have hfz26_1 := blk_frozen BK247.out 1) | ((with_reducible refine gate_callee (f := 49) rfl ?_); refine goesL_ (some 9) rfl rfl Tryd.func49 (by kernel_rfl) rfl #[.slice A0_0 l0_0.length c0_0, .slice A1_0 l1_0.length c1_0] rfl (by (try simp only [List.map_toArray, List.map_cons, List.map_nil]); first | done | rfl | (simp only [List.length_drop, List.length_take]; rfl)) ?_; (with_reducible refine (laws_eqTblCellS.calls k _ _ l0_0 _ _ l1_0 false _ ?side1 ?side2 ?side3 ?side4 A3.out).mono ?_); (case side1 => repeat (first | exact (Kd.C_below HR0_0.out HB.out) | (with_reducible refine Kd.C_alloc ?_ _) | (with_reducible refine Kd.C_drewN ?_ _) | (with_reducible refine Kd.C_drew ?_))); (case side2 => exact HC0_0.out); (case side3 => repeat (first | exact (Kd.C_below HR1_0.out HB.out) | (with_reducible refine Kd.C_alloc ?_ _) | (with_reducible refine Kd.C_drewN ?_ _) | (with_reducible refine Kd.C_drew ?_))); (case side4 => exact HC1_0.out); rintro e w27 ⟨rfl, hb⟩; refine ⟨_, rfl, ?_⟩; have n0_ := Aside0.mk (blk_below (g := gb246) (o := .cells #[.slice A0_0 l0_0.length c0_0, .bool a0_1] 45 (0, 0)) (by (with_reducible repeat (first | refine blk_drewN ?_ _ | refine blk_drew ?_ | refine blk_alloc ?_ _)); exact BK246.out) hb); have n1_ := Aside0.mk (blk_below (g := gb247) (o := .cells #[.slice A1_0 l1_0.length c1_0, .bool a1_1] 45 (0, 0)) (by (with_reducible repeat (first | refine blk_drewN ?_ _ | refine blk_drew ?_ | refine blk_alloc ?_ _)); exact BK247.out) hb); have n2_ := Aside0.mk (below_step (by repeat (first | (with_reducible first | exact HB.out | apply below_alloc | apply pw_below_drewN | apply below_drew1 | refine below_set ?_ GE246.out | refine below_set ?_ GE247.out) | exact HB.out)) hb); clear BK246; clear BK247; clear HB; have BK246 := n0_; have BK247 := n1_; have HB := n2_; clear n0_ n1_ n2_; (try clear hb); (try clear hb2); (try clear hk); (try clear hi)))
    go_ret
    exact ⟨by first | rfl | (simp [errW_none, errW_some] <;> rfl) | (simp [*, errW_none, errW_some] <;> rfl), by repeat (first | (with_reducible first | exact HB.out | apply below_alloc | apply pw_below_drewN | apply below_drew1 | refine below_set ?_ GE246.out | refine below_set ?_ GE247.out) | exact HB.out)⟩
end Go.Proofs.YtemcdfkmpikegaaDoor.Pr
namespace Go.Proofs.YtemcdfkmpikegaaDoor.Pr
open Go.RowKit Go.Proofs.YtemcdfkmpikegaaDoorW.PrintWords Go.Proofs.YtemcdfkmpikegaaDoorW.PrintLast Go.Proofs.YtemcdfkmpikegaaDoorW.PrintMore
attribute [local go_sem] max2_int min2_int max_two min_two max_three min_three max_four min_four
set_option linter.unusedVariables false
set_option linter.unusedSimpArgs false
def laws_eqTblRowS.l0 : Nat → List (S45) → List (S45) → Int → Option (Bool)
  | 0, _, _, _ => none
  | k + 1, x0, x1, x5 => if x5 < (x0.length : Int) then (if 0 ≤ x5 then (if x5 < (x1.length : Int) then ((laws_eqTblRow.f k ((rd_T45 x0 x5).f0) ((rd_T45 x0 x5).f1) ((rd_T45 x1 x5).f0) ((rd_T45 x1 x5).f1)).bind fun t251 => (if t251 = true then (laws_eqTblRowS.l0 k x0 x1 (wrap64 (x5 + 1))) else (some false))) else (none)) else (none)) else (some true)
def laws_eqTblRowS.f (k : Nat) (l0 : List (S45)) (l1 : List (S45)) : Option (Bool) := if (l0.length : Int) = (l1.length : Int) then (laws_eqTblRowS.l0 k l0 l1 0) else (some false)
theorem laws_eqTblRowS.mono_l : ∀ k, (∀ y0 y1 y2, LeO (laws_eqTblRowS.l0 k y0 y1 y2) (laws_eqTblRowS.l0 (k + 1) y0 y1 y2))
  | 0 => fun _ _ _ r h => by simp [laws_eqTblRowS.l0] at h
  | k + 1 => by
    have ih0 := laws_eqTblRowS.mono_l k
    · intro y0 y1 y2
      unfold laws_eqTblRowS.l0
      repeat' first
      | (with_reducible exact ih0 _ _ _)
      | (with_reducible exact laws_eqTblRow.mono _ _ _ _ _)
      | (with_reducible exact LeO.refl _)
      | (with_reducible exact LeO.none _)
      | (with_reducible refine LeO.ite ?_ ?_)
      | (with_reducible refine LeO.bind ?_ (fun _ => ?_))
      | exact ih0 _ _ _
      | exact laws_eqTblRow.mono _ _ _ _ _
      | exact LeO.none _
      | refine LeO.ite ?_ ?_
      | refine LeO.bind ?_ (fun _ => ?_)
theorem laws_eqTblRowS.mono : ∀ a0 a1 k, LeO (laws_eqTblRowS.f k a0 a1) (laws_eqTblRowS.f (k + 1) a0 a1) := by
  intro a0 a1 k
  have ih0 := laws_eqTblRowS.mono_l k
  unfold laws_eqTblRowS.f
  repeat' first
      | (with_reducible exact ih0 _ _ _)
      | (with_reducible exact laws_eqTblRow.mono _ _ _ _ _)
      | (with_reducible exact LeO.refl _)
      | (with_reducible exact LeO.none _)
      | (with_reducible refine LeO.ite ?_ ?_)
      | (with_reducible refine LeO.bind ?_ (fun _ => ?_))
      | exact ih0 _ _ _
      | exact laws_eqTblRow.mono _ _ _ _ _
      | exact LeO.none _
      | refine LeO.ite ?_ ?_
      | refine LeO.bind ?_ (fun _ => ?_)
def laws_eqTblRowS.T6 : Bool × List (List Nat × List Nat) := (true, [([], []), ([], []), ([0, 1], [0, 1]), ([2], [2]), ([], []), ([], []), ([4, 5], [4, 5]), ([6], [6]), ([3, 7], [3, 7]), ([8], [8])])
def laws_eqTblRowS.B6 : List Nat := [0, 0, 3, 7, 0, 0, 48, 112, 255, 511]
theorem laws_eqTblRowS.tab6 : rtab .any (opsOf Tryd.f29 6) = laws_eqTblRowS.T6 := by kernel_rfl
theorem laws_eqTblRowS.bits6 : waitsOk laws_eqTblRowS.T6.2 laws_eqTblRowS.B6 = true := by kernel_rfl
set_option maxHeartbeats 8000000 in
set_option maxRecDepth 100000 in
theorem laws_eqTblRowS.calls (k : Nat) (A0 : Option Addr) (c0 : Nat) (l0 : List (S45)) (A1 : Option Addr) (c1 : Nat) (l1 : List (S45)) (r : Bool) (w : World) (hr0 : Kd.C k45 w A0 l0.length l0) (hc0 : l0.length ≤ c0) (hr1 : Kd.C k45 w A1 l1.length l1) (hc1 : l1.length ≤ c1) (h : laws_eqTblRowS.f k l0 l1 = some r) :
    Calls Tryd.prog 29 #[.slice A0 l0.length c0, .slice A1 l1.length c1] w fun e w' => e = .returned (.bool r) ∧ Below w.heap.size w w' := by
  have hu45 := Tryd.underlying45
  have HR0 := Aside0.mk hr0
  have HC0 := Aside0.mk hc0
  clear hr0 hc0
  have HR1 := Aside0.mk hr1
  have HC1 := Aside0.mk hc1
  clear hr1 hc1
  have HB := Aside0.mk (Below.refl w.heap.size w)
  have H : (if (l0.length : Int) = (l1.length : Int) then (laws_eqTblRowS.l0 k l0 l1 0) else (some false)) = some r := h
  clear h
  by_cases c3 : (l0.length : Int) = (l1.length : Int)
  · rw [if_pos c3] at H
    have c3b0 : ((l0.length : Int) == (l1.length : Int)) = true := beq_iff_eq.mpr c3
    have c3b1 : ((l0.length : Int) != (l1.length : Int)) = false := bne_eq_false_iff_eq.mpr c3
    have c3b2 : (l0.length == l1.length) = true := by first | simpa using c3 | (simp at c3 ⊢; omega)
    clear c3
    have H' := Aside0.mk H
    clear H
    go_enter Tryd.func29, Tryd.ntmps29
    go_wp2
    go_loopg [5] k (fun kq v5 w' => ∃ (x5_1 : Int), v5 = .int .i64 x5_1 ∧ Aside0 (laws_eqTblRowS.l0 kq l0 l1 x5_1 = some r) ∧ Aside0 (kq ≤ k) ∧ Aside0 (Below w.heap.size w w'))
    case atStart => exact ⟨(0), (by first | rfl | (simp; done) | (simp [*]; done)), H', ⟨Nat.le_refl _⟩, ⟨by repeat (first | (with_reducible first | exact HB.out | apply below_alloc | apply pw_below_drewN | apply below_drew1) | exact HB.out)⟩⟩
    case round =>
      clear H'
      try clear c1
      try clear c2
      try clear p2
      try clear c3
      try clear c3b0
      try clear c3b1
      try clear c3b2
      obtain ⟨x5_1, rfl, HA, HK1, HB⟩ := hrel
      cases gk with
      | zero => exact absurd HA.out (by simp [laws_eqTblRowS.l0])
      | succ k1 =>
        have H := HA.out
        clear HA
        simp only [laws_eqTblRowS.l0] at H
        by_cases c4 : x5_1 < (l0.length : Int)
        · rw [if_pos c4] at H
          have c4b0 : decide (x5_1 < (l0.length : Int)) = true := decide_eq_true c4
          clear c4
          by_cases c5 : 0 ≤ x5_1
          · rw [if_pos c5] at H
            have c5b0 : decide (0 ≤ x5_1) = true := decide_eq_true c5
            clear c5
            by_cases c6 : x5_1 < (l1.length : Int)
            · rw [if_pos c6] at H
              have c6b0 : decide (x5_1 < (l1.length : Int)) = true := decide_eq_true c6
              clear c6
              replace H := Option.bind_eq_some_iff.mp H
              obtain ⟨t251, A70, H⟩ := H
              replace H : (if t251 = true then (laws_eqTblRowS.l0 k1 l0 l1 (wrap64 (x5_1 + 1))) else (some false)) = some r := H
              have A7 := Aside0.mk A70
              clear A70
              by_cases c8 : t251 = true
              · subst c8
                have H1 : (laws_eqTblRowS.l0 k1 l0 l1 (wrap64 (x5_1 + 1))) = some r := by rw [if_pos rfl] at H; exact H
                clear H
                have H := H1
                clear H1
                have H' := Aside0.mk H
                clear H
                try go_wp2
                have n0_ := Aside0.mk (below_drew1 HB.out)
                clear HB
                have HB := n0_
                clear n0_
                have p249 : 0 ≤ (x5_1 : Int) := of_decide_eq_true (by first | (with_reducible assumption) | assumption)
                have q249 : x5_1 < (l0.length : Int) := of_decide_eq_true (by first | (with_reducible assumption) | assumption)
                obtain ⟨ad249, A249_0, c249_0, e249, hx249_0, hx249_1, hl249_0, hi249_0⟩ := at_T45 HR0.out x5_1 p249 q249
                have hw249_1 := hx249_1
                have hw249_0 := hx249_0
                cases e249
                replace hx249_0 := (HB.out.cell (World.block_lt_of_cell? w _ hx249_0)).trans hx249_0
                replace hx249_1 := (HB.out.cell (World.block_lt_of_cell? w _ hx249_1)).trans hx249_1
                have HR249_0 := Aside0.mk hi249_0
                have HC249_0 := Aside0.mk hl249_0
                clear hi249_0 hl249_0
                replace p249 := eq_true p249
                replace q249 := eq_true q249
                have p250 : 0 ≤ (x5_1 : Int) := of_decide_eq_true (by first | (with_reducible assumption) | assumption)
                have q250 : x5_1 < (l1.length : Int) := of_decide_eq_true (by first | (with_reducible assumption) | assumption)
                obtain ⟨ad250, A250_0, c250_0, e250, hx250_0, hx250_1, hl250_0, hi250_0⟩ := at_T45 HR1.out x5_1 p250 q250
                have hw250_1 := hx250_1
                have hw250_0 := hx250_0
                cases e250
                replace hx250_0 := (HB.out.cell (World.block_lt_of_cell? w _ hx250_0)).trans hx250_0
                replace hx250_1 := (HB.out.cell (World.block_lt_of_cell? w _ hx250_1)).trans hx250_1
                have HR250_0 := Aside0.mk hi250_0
                have HC250_0 := Aside0.mk hl250_0
                clear hi250_0 hl250_0
                replace p250 := eq_true p250
                replace q250 := eq_true q250
                refine start_ (n := 10) (S := fun w' => w'.cell? (ad249.add ((x5_1).toNat * 2)) = some (.slice A249_0 ((rd_T45 l0 x5_1).f0).length c249_0) ∧ w'.cell? ⟨(ad249.add ((x5_1).toNat * 2)).block, (ad249.add ((x5_1).toNat * 2)).off + 1, none⟩ = some (.bool ((rd_T45 l0 x5_1).f1)) ∧ w'.cell? (ad250.add ((x5_1).toNat * 2)) = some (.slice A250_0 ((rd_T45 l1 x5_1).f0).length c250_0) ∧ w'.cell? ⟨(ad250.add ((x5_1).toNat * 2)).block, (ad250.add ((x5_1).toNat * 2)).off + 1, none⟩ = some (.bool ((rd_T45 l1 x5_1).f1))) (ds := []) #[false, false, false, false, false, false, false, false, false, false] (by kernel_rfl) rfl rfl ⟨((HB.out.cell (World.block_lt_of_cell? w _ hw249_0)).trans hw249_0), ((HB.out.cell (World.block_lt_of_cell? w _ hw249_1)).trans hw249_1), ((HB.out.cell (World.block_lt_of_cell? w _ hw250_0)).trans hw250_0), ((HB.out.cell (World.block_lt_of_cell? w _ hw250_1)).trans hw250_1)⟩ (fun hHeld => ?_); refine with_tabW laws_eqTblRowS.tab6 laws_eqTblRowS.bits6 (fun HT_ HW_ => ?_)
                generalize wr.drew = w9 at HB HR249_0 HR250_0 hx249_0 hx249_1 hx250_0 hx250_1 hHeld ⊢
                refine pure_ (i := 0) (N := some 17) (v := ?_) (a' := ?_) #[true, false, false, false, false, false, false, false, false, false] rfl rfl (any_of HT_.out (by kernel_rfl)) (fun _ _ _ h => h) (Or.inl ⟨by rfl, ?_⟩) ?_ ?_
                rotate_left
                · intro w'
                  go_simp
                  with_reducible rfl
                rotate_left
                · simp only [Act.put, List.setIfInBounds_toArray, List.set_cons_zero, List.set_cons_succ, i64_w, i32_w]
                  rfl
                refine pure_ (i := 1) (N := some 18) (v := ?_) (a' := ?_) #[true, true, false, false, false, false, false, false, false, false] rfl rfl (any_of HT_.out (by kernel_rfl)) (fun _ _ _ h => h) (Or.inl ⟨by rfl, ?_⟩) ?_ ?_
                rotate_left
                · intro w'
                  go_simp
                  with_reducible rfl
                rotate_left
                · simp only [Act.put, List.setIfInBounds_toArray, List.set_cons_zero, List.set_cons_succ, i64_w, i32_w]
                  rfl
                refine pure_ (i := 2) (N := some 19) (v := ?_) (a' := ?_) #[true, true, true, false, false, false, false, false, false, false] rfl rfl (any_of HT_.out (by kernel_rfl)) (fun _ _ _ h => h) (Or.inl ⟨by rfl, ?_⟩) ?_ ?_
                rotate_left
                · intro w'
                  go_simp
                  with_reducible rfl
                rotate_left
                · simp only [Act.put, List.setIfInBounds_toArray, List.set_cons_zero, List.set_cons_succ, i64_w, i32_w]
                  rfl
                refine pure_ (i := 4) (N := some 21) (v := ?_) (a' := ?_) #[true, true, true, false, true, false, false, false, false, false] rfl rfl (any_of HT_.out (by kernel_rfl)) (fun _ _ _ h => h) (Or.inl ⟨by rfl, ?_⟩) ?_ ?_
                rotate_left
                · intro w'
                  go_simp
                  with_reducible rfl
                rotate_left
                · simp only [Act.put, List.setIfInBounds_toArray, List.set_cons_zero, List.set_cons_succ, i64_w, i32_w]
                  rfl
                refine pure_ (i := 5) (N := some 22) (v := ?_) (a' := ?_) #[true, true, true, false, true, true, false, false, false, false] rfl rfl (any_of HT_.out (by kernel_rfl)) (fun _ _ _ h => h) (Or.inl ⟨by rfl, ?_⟩) ?_ ?_
                rotate_left
                · intro w'
                  go_simp
                  with_reducible rfl
                rotate_left
                · simp only [Act.put, List.setIfInBounds_toArray, List.set_cons_zero, List.set_cons_succ, i64_w, i32_w]
                  rfl
                refine pure_ (i := 6) (N := some 23) (v := ?_) (a' := ?_) #[true, true, true, false, true, true, true, false, false, false] rfl rfl (any_of HT_.out (by kernel_rfl)) (fun _ _ _ h => h) (Or.inl ⟨by rfl, ?_⟩) ?_ ?_
                rotate_left
                · intro w'
                  go_simp
                  with_reducible rfl
                rotate_left
                · simp only [Act.put, List.setIfInBounds_toArray, List.set_cons_zero, List.set_cons_succ, i64_w, i32_w]
                  rfl
                refine take_ (i := 3) (N := some 20) (v := ?_) (a' := ?_) #[true, true, true, true, true, true, true, false, false, false] rfl rfl (take_ofW HT_.out HW_.out (by kernel_rfl)) (fun _ _ _ h => h) (Or.inl ⟨by rfl, ?_⟩) hHeld ?_ ?_
                rotate_left
                · rintro w' ⟨s0, s1, s2, s3⟩
                  go_simp
                  with_reducible rfl
                rotate_left
                · simp only [Act.put, List.setIfInBounds_toArray, List.set_cons_zero, List.set_cons_succ, i64_w, i32_w]
                  rfl
                refine take_ (i := 7) (N := some 24) (v := ?_) (a' := ?_) #[true, true, true, true, true, true, true, true, false, false] rfl rfl (take_ofW HT_.out HW_.out (by kernel_rfl)) (fun _ _ _ h => h) (Or.inl ⟨by rfl, ?_⟩) hHeld ?_ ?_
                rotate_left
                · rintro w' ⟨s0, s1, s2, s3⟩
                  go_simp
                  with_reducible rfl
                rotate_left
                · simp only [Act.put, List.setIfInBounds_toArray, List.set_cons_zero, List.set_cons_succ, i64_w, i32_w]
                  rfl
                refine one_ (i := 8) (N := some 25) #[true, true, true, true, true, true, true, true, true, false] rfl rfl (one_of HT_.out (by kernel_rfl)) (by decide) (fun K hK => ?_)
                refine goes_ Tryd.func43 (by kernel_rfl) rfl #[.agg #[.slice A249_0 ((rd_T45 l0 x5_1).f0).length c249_0, .bool ((rd_T45 l0 x5_1).f1)], .agg #[.slice A250_0 ((rd_T45 l1 x5_1).f0).length c250_0, .bool ((rd_T45 l1 x5_1).f1)]] (by rfl) rfl rfl (by (try simp only [List.map_toArray, List.map_cons, List.map_nil]); first | done | rfl | (simp only [List.length_drop, List.length_take]; rfl)) ?_
                with_reducible refine (laws_eqTblRow.calls k1 _ _ ((rd_T45 l0 x5_1).f0) ((rd_T45 l0 x5_1).f1) _ _ ((rd_T45 l1 x5_1).f0) ((rd_T45 l1 x5_1).f1) true _ ?side1 ?side2 ?side3 ?side4 A7.out).mono ?_
                (case side1 => repeat (first | exact (Kd.C_below HR249_0.out HB.out) | (with_reducible refine Kd.C_alloc ?_ _) | (with_reducible refine Kd.C_drewN ?_ _) | (with_reducible refine Kd.C_drew ?_)))
                (case side2 => exact HC249_0.out)
                (case side3 => repeat (first | exact (Kd.C_below HR250_0.out HB.out) | (with_reducible refine Kd.C_alloc ?_ _) | (with_reducible refine Kd.C_drewN ?_ _) | (with_reducible refine Kd.C_drew ?_)))
                (case side4 => exact HC250_0.out)
                rintro e w10 ⟨rfl, hb⟩
                refine ⟨_, rfl, ?_⟩
                have n0_ := Aside0.mk (below_step (by repeat (first | (with_reducible first | exact HB.out | apply below_alloc | apply pw_below_drewN | apply below_drew1) | exact HB.out)) hb)
                clear HB
                have HB := n0_
                clear n0_
                (try clear hb)
                (try clear hb2)
                (try clear hk)
                (try clear hi)
                refine hK.out _ _ ⟨((HB.out.cell (World.block_lt_of_cell? w _ hw249_0)).trans hw249_0), ((HB.out.cell (World.block_lt_of_cell? w _ hw249_1)).trans hw249_1), ((HB.out.cell (World.block_lt_of_cell? w _ hw250_0)).trans hw250_0), ((HB.out.cell (World.block_lt_of_cell? w _ hw250_1)).trans hw250_1)⟩ (fun hHeld => ?_)
                clear hK K
                refine norm_ (a' := ?_) ?_ ?_
                rotate_left
                · show Act.put _ (some 25) _ = _
                  simp only [Act.put, List.setIfInBounds_toArray, List.set_cons_zero, List.set_cons_succ, i64_w, i32_w]
                  rfl
                refine pure_ (i := 9) (N := some 26) (v := ?_) (a' := ?_) #[true, true, true, true, true, true, true, true, true, true] rfl rfl (any_of HT_.out (by kernel_rfl)) (fun _ _ _ h => h) (Or.inl ⟨by rfl, ?_⟩) ?_ ?_
                rotate_left
                · intro w'
                  go_simp
                  with_reducible rfl
                rotate_left
                · simp only [Act.put, List.setIfInBounds_toArray, List.set_cons_zero, List.set_cons_succ, i64_w, i32_w]
                  rfl
                refine done_ (done_of HT_.out (by kernel_rfl)) ?_
                try go_wp2
                go_roundg k1
                case measure => have := HK1.out; omega
                case rel => exact ⟨(wrap64 (x5_1 + 1)), (by first | rfl | (simp; done) | (simp [*]; done)), H', ⟨by have := HK1.out; omega⟩, ⟨by repeat (first | (with_reducible first | exact HB.out | apply below_alloc | apply pw_below_drewN | apply below_drew1) | exact HB.out)⟩⟩
              · replace c8 := Bool.eq_false_iff.mpr c8
                subst c8
                have H1 : (some false) = some r := by rw [if_neg (show ¬ (false = true) by decide)] at H; exact H
                clear H
                have H := H1
                clear H1
                obtain rfl := Option.some.inj H
                try go_wp2
                have n0_ := Aside0.mk (below_drew1 HB.out)
                clear HB
                have HB := n0_
                clear n0_
                have p249 : 0 ≤ (x5_1 : Int) := of_decide_eq_true (by first | (with_reducible assumption) | assumption)
                have q249 : x5_1 < (l0.length : Int) := of_decide_eq_true (by first | (with_reducible assumption) | assumption)
                obtain ⟨ad249, A249_0, c249_0, e249, hx249_0, hx249_1, hl249_0, hi249_0⟩ := at_T45 HR0.out x5_1 p249 q249
                have hw249_1 := hx249_1
                have hw249_0 := hx249_0
                cases e249
                replace hx249_0 := (HB.out.cell (World.block_lt_of_cell? w _ hx249_0)).trans hx249_0
                replace hx249_1 := (HB.out.cell (World.block_lt_of_cell? w _ hx249_1)).trans hx249_1
                have HR249_0 := Aside0.mk hi249_0
                have HC249_0 := Aside0.mk hl249_0
                clear hi249_0 hl249_0
                replace p249 := eq_true p249
                replace q249 := eq_true q249
                have p250 : 0 ≤ (x5_1 : Int) := of_decide_eq_true (by first | (with_reducible assumption) | assumption)
                have q250 : x5_1 < (l1.length : Int) := of_decide_eq_true (by first | (with_reducible assumption) | assumption)
                obtain ⟨ad250, A250_0, c250_0, e250, hx250_0, hx250_1, hl250_0, hi250_0⟩ := at_T45 HR1.out x5_1 p250 q250
                have hw250_1 := hx250_1
                have hw250_0 := hx250_0
                cases e250
                replace hx250_0 := (HB.out.cell (World.block_lt_of_cell? w _ hx250_0)).trans hx250_0
                replace hx250_1 := (HB.out.cell (World.block_lt_of_cell? w _ hx250_1)).trans hx250_1
                have HR250_0 := Aside0.mk hi250_0
                have HC250_0 := Aside0.mk hl250_0
                clear hi250_0 hl250_0
                replace p250 := eq_true p250
                replace q250 := eq_true q250
                refine start_ (n := 10) (S := fun w' => w'.cell? (ad249.add ((x5_1).toNat * 2)) = some (.slice A249_0 ((rd_T45 l0 x5_1).f0).length c249_0) ∧ w'.cell? ⟨(ad249.add ((x5_1).toNat * 2)).block, (ad249.add ((x5_1).toNat * 2)).off + 1, none⟩ = some (.bool ((rd_T45 l0 x5_1).f1)) ∧ w'.cell? (ad250.add ((x5_1).toNat * 2)) = some (.slice A250_0 ((rd_T45 l1 x5_1).f0).length c250_0) ∧ w'.cell? ⟨(ad250.add ((x5_1).toNat * 2)).block, (ad250.add ((x5_1).toNat * 2)).off + 1, none⟩ = some (.bool ((rd_T45 l1 x5_1).f1))) (ds := []) #[false, false, false, false, false, false, false, false, false, false] (by kernel_rfl) rfl rfl ⟨((HB.out.cell (World.block_lt_of_cell? w _ hw249_0)).trans hw249_0), ((HB.out.cell (World.block_lt_of_cell? w _ hw249_1)).trans hw249_1), ((HB.out.cell (World.block_lt_of_cell? w _ hw250_0)).trans hw250_0), ((HB.out.cell (World.block_lt_of_cell? w _ hw250_1)).trans hw250_1)⟩ (fun hHeld => ?_); refine with_tabW laws_eqTblRowS.tab6 laws_eqTblRowS.bits6 (fun HT_ HW_ => ?_)
                generalize wr.drew = w11 at HB HR249_0 HR250_0 hx249_0 hx249_1 hx250_0 hx250_1 hHeld ⊢
                refine pure_ (i := 0) (N := some 17) (v := ?_) (a' := ?_) #[true, false, false, false, false, false, false, false, false, false] rfl rfl (any_of HT_.out (by kernel_rfl)) (fun _ _ _ h => h) (Or.inl ⟨by rfl, ?_⟩) ?_ ?_
                rotate_left
                · intro w'
                  go_simp
                  with_reducible rfl
                rotate_left
                · simp only [Act.put, List.setIfInBounds_toArray, List.set_cons_zero, List.set_cons_succ, i64_w, i32_w]
                  rfl
                refine pure_ (i := 1) (N := some 18) (v := ?_) (a' := ?_) #[true, true, false, false, false, false, false, false, false, false] rfl rfl (any_of HT_.out (by kernel_rfl)) (fun _ _ _ h => h) (Or.inl ⟨by rfl, ?_⟩) ?_ ?_
                rotate_left
                · intro w'
                  go_simp
                  with_reducible rfl
                rotate_left
                · simp only [Act.put, List.setIfInBounds_toArray, List.set_cons_zero, List.set_cons_succ, i64_w, i32_w]
                  rfl
                refine pure_ (i := 2) (N := some 19) (v := ?_) (a' := ?_) #[true, true, true, false, false, false, false, false, false, false] rfl rfl (any_of HT_.out (by kernel_rfl)) (fun _ _ _ h => h) (Or.inl ⟨by rfl, ?_⟩) ?_ ?_
                rotate_left
                · intro w'
                  go_simp
                  with_reducible rfl
                rotate_left
                · simp only [Act.put, List.setIfInBounds_toArray, List.set_cons_zero, List.set_cons_succ, i64_w, i32_w]
                  rfl
                refine pure_ (i := 4) (N := some 21) (v := ?_) (a' := ?_) #[true, true, true, false, true, false, false, false, false, false] rfl rfl (any_of HT_.out (by kernel_rfl)) (fun _ _ _ h => h) (Or.inl ⟨by rfl, ?_⟩) ?_ ?_
                rotate_left
                · intro w'
                  go_simp
                  with_reducible rfl
                rotate_left
                · simp only [Act.put, List.setIfInBounds_toArray, List.set_cons_zero, List.set_cons_succ, i64_w, i32_w]
                  rfl
                refine pure_ (i := 5) (N := some 22) (v := ?_) (a' := ?_) #[true, true, true, false, true, true, false, false, false, false] rfl rfl (any_of HT_.out (by kernel_rfl)) (fun _ _ _ h => h) (Or.inl ⟨by rfl, ?_⟩) ?_ ?_
                rotate_left
                · intro w'
                  go_simp
                  with_reducible rfl
                rotate_left
                · simp only [Act.put, List.setIfInBounds_toArray, List.set_cons_zero, List.set_cons_succ, i64_w, i32_w]
                  rfl
                refine pure_ (i := 6) (N := some 23) (v := ?_) (a' := ?_) #[true, true, true, false, true, true, true, false, false, false] rfl rfl (any_of HT_.out (by kernel_rfl)) (fun _ _ _ h => h) (Or.inl ⟨by rfl, ?_⟩) ?_ ?_
                rotate_left
                · intro w'
                  go_simp
                  with_reducible rfl
                rotate_left
                · simp only [Act.put, List.setIfInBounds_toArray, List.set_cons_zero, List.set_cons_succ, i64_w, i32_w]
                  rfl
                refine take_ (i := 3) (N := some 20) (v := ?_) (a' := ?_) #[true, true, true, true, true, true, true, false, false, false] rfl rfl (take_ofW HT_.out HW_.out (by kernel_rfl)) (fun _ _ _ h => h) (Or.inl ⟨by rfl, ?_⟩) hHeld ?_ ?_
                rotate_left
                · rintro w' ⟨s0, s1, s2, s3⟩
                  go_simp
                  with_reducible rfl
                rotate_left
                · simp only [Act.put, List.setIfInBounds_toArray, List.set_cons_zero, List.set_cons_succ, i64_w, i32_w]
                  rfl
                refine take_ (i := 7) (N := some 24) (v := ?_) (a' := ?_) #[true, true, true, true, true, true, true, true, false, false] rfl rfl (take_ofW HT_.out HW_.out (by kernel_rfl)) (fun _ _ _ h => h) (Or.inl ⟨by rfl, ?_⟩) hHeld ?_ ?_
                rotate_left
                · rintro w' ⟨s0, s1, s2, s3⟩
                  go_simp
                  with_reducible rfl
                rotate_left
                · simp only [Act.put, List.setIfInBounds_toArray, List.set_cons_zero, List.set_cons_succ, i64_w, i32_w]
                  rfl
                refine one_ (i := 8) (N := some 25) #[true, true, true, true, true, true, true, true, true, false] rfl rfl (one_of HT_.out (by kernel_rfl)) (by decide) (fun K hK => ?_)
                refine goes_ Tryd.func43 (by kernel_rfl) rfl #[.agg #[.slice A249_0 ((rd_T45 l0 x5_1).f0).length c249_0, .bool ((rd_T45 l0 x5_1).f1)], .agg #[.slice A250_0 ((rd_T45 l1 x5_1).f0).length c250_0, .bool ((rd_T45 l1 x5_1).f1)]] (by rfl) rfl rfl (by (try simp only [List.map_toArray, List.map_cons, List.map_nil]); first | done | rfl | (simp only [List.length_drop, List.length_take]; rfl)) ?_
                with_reducible refine (laws_eqTblRow.calls k1 _ _ ((rd_T45 l0 x5_1).f0) ((rd_T45 l0 x5_1).f1) _ _ ((rd_T45 l1 x5_1).f0) ((rd_T45 l1 x5_1).f1) false _ ?side1 ?side2 ?side3 ?side4 A7.out).mono ?_
                (case side1 => repeat (first | exact (Kd.C_below HR249_0.out HB.out) | (with_reducible refine Kd.C_alloc ?_ _) | (with_reducible refine Kd.C_drewN ?_ _) | (with_reducible refine Kd.C_drew ?_)))
                (case side2 => exact HC249_0.out)
                (case side3 => repeat (first | exact (Kd.C_below HR250_0.out HB.out) | (with_reducible refine Kd.C_alloc ?_ _) | (with_reducible refine Kd.C_drewN ?_ _) | (with_reducible refine Kd.C_drew ?_)))
                (case side4 => exact HC250_0.out)
                rintro e w12 ⟨rfl, hb⟩
                refine ⟨_, rfl, ?_⟩
                have n0_ := Aside0.mk (below_step (by repeat (first | (with_reducible first | exact HB.out | apply below_alloc | apply pw_below_drewN | apply below_drew1) | exact HB.out)) hb)
                clear HB
                have HB := n0_
                clear n0_
                (try clear hb)
                (try clear hb2)
                (try clear hk)
                (try clear hi)
                refine hK.out _ _ ⟨((HB.out.cell (World.block_lt_of_cell? w _ hw249_0)).trans hw249_0), ((HB.out.cell (World.block_lt_of_cell? w _ hw249_1)).trans hw249_1), ((HB.out.cell (World.block_lt_of_cell? w _ hw250_0)).trans hw250_0), ((HB.out.cell (World.block_lt_of_cell? w _ hw250_1)).trans hw250_1)⟩ (fun hHeld => ?_)
                clear hK K
                refine norm_ (a' := ?_) ?_ ?_
                rotate_left
                · show Act.put _ (some 25) _ = _
                  simp only [Act.put, List.setIfInBounds_toArray, List.set_cons_zero, List.set_cons_succ, i64_w, i32_w]
                  rfl
                refine pure_ (i := 9) (N := some 26) (v := ?_) (a' := ?_) #[true, true, true, true, true, true, true, true, true, true] rfl rfl (any_of HT_.out (by kernel_rfl)) (fun _ _ _ h => h) (Or.inl ⟨by rfl, ?_⟩) ?_ ?_
                rotate_left
                · intro w'
                  go_simp
                  with_reducible rfl
                rotate_left
                · simp only [Act.put, List.setIfInBounds_toArray, List.set_cons_zero, List.set_cons_succ, i64_w, i32_w]
                  rfl
                refine done_ (done_of HT_.out (by kernel_rfl)) ?_
                try go_wp2
                go_ret
                exact ⟨by first | rfl | (simp [errW_none, errW_some] <;> rfl) | (simp [*, errW_none, errW_some] <;> rfl), by repeat (first | (with_reducible first | exact HB.out | apply below_alloc | apply pw_below_drewN | apply below_drew1) | exact HB.out)⟩
            · rw [if_neg c6] at H
              exact absurd H (by simp)
          · rw [if_neg c5] at H
            exact absurd H (by simp)
        · rw [if_neg c4] at H
          have c4b0 : decide (x5_1 < (l0.length : Int)) = false := decide_eq_false c4
          clear c4
          obtain rfl := Option.some.inj H
          go_wp2
          go_ret
          exact ⟨by first | rfl | (simp [errW_none, errW_some] <;> rfl) | (simp [*, errW_none, errW_some] <;> rfl), by repeat (first | (with_reducible first | exact HB.out | apply below_alloc | apply pw_below_drewN | apply below_drew1) | exact HB.out)⟩
  · rw [if_neg c3] at H
    have c3b0 : ((l0.length : Int) == (l1.length : Int)) = false := beq_eq_false_iff_ne.mpr c3
    have c3b1 : ((l0.length : Int) != (l1.length : Int)) = true := bne_iff_ne.mpr c3
    have c3b2 : (l0.length == l1.length) = false := by first | simpa using c3 | (simp at c3 ⊢; omega)
    obtain rfl := Option.some.inj H
    go_enter Tryd.func29, Tryd.ntmps29
    go_wp2
    go_ret
    exact ⟨by first | rfl | (simp [errW_none, errW_some] <;> rfl) | (simp [*, errW_none, errW_some] <;> rfl), by repeat (first | (with_reducible first | exact HB.out | apply below_alloc | apply pw_below_drewN | apply below_drew1) | exact HB.out)⟩
end Go.Proofs.YtemcdfkmpikegaaDoor.Pr
